/- Part 5 of what topApart_holds leans on. -/
import Derived.Test.YtohigmjjbgpfmaaGreatDoorPackTopApart4
set_option linter.unusedVariables false
set_option linter.unusedSimpArgs false
set_option linter.defProp false
open Go.Proofs.Tryz
namespace Go.Proofs.YtohigmjjbgpfmaaGreatDoor
variable {r:(ao×ao)×List aT×Int} {a cpu f fl m0 m1 o zi:Int} {l:List Block} {L:List aT} {i k:Nat} {z z0 z1:ao}
def kc (l:List Block) (i:Nat) : Nat:=l.countP fun b=>qB b i
def yd (a o:Int) (i:Nat) : Nat:=(qB ⟨a,o,0⟩ i).toNat
theorem yJ (i:Nat) : kc [] i=0:=rfl
theorem dW (l m:List Block) (i:Nat) : kc (l++m) i=kc l i+kc m i:=List.countP_append
theorem vy (b:Block) (i:Nat) : kc [b] i=yd b.At b.Order i:=by
 unfold kc yd;have:qB ⟨b.At,b.Order,0⟩ i=qB b i:=rfl
 rw [List.countP_singleton,this];cases qB b i<;>rfl
theorem Ab (b:Block) (l:List Block) (i:Nat) : kc (b::l) i=yd b.At b.Order i+kc l i:=by
 rw [<- adz,dW,vy]
theorem mD:eu l i=true↔0<kc l i:=by
 unfold eu kc;rw [List.countP_pos_iff,adq]
theorem DK (h:kc l i<=1) : kc l i=(eu l i).toNat:=by
 cases e:eu l i with
 | true=>have:=mD.1 e;simp;omega
 | false =>
   have : ¬ 0<kc l i:=fun h=>by rw [mD.2 h] at e;cases e
   simp;omega
theorem tj (hk:k<l.length) (i:Nat) : kc l i=kc (l.eraseIdx k) i+yd l[k].At l[k].Order i:=by
 have e:l=l.take k++l[k]::l.drop (k+1):=by simp
 rw [adM]
 conv=>lhs;rw [e]
 rw [dW,dW,Ab];omega
theorem wO (l:List Block) (p:Nat) (x:Block) (i:Nat) : kc (aN l p x) i=kc l i+yd x.At x.Order i:=by
 unfold aN;have e:kc l i=kc (l.take p) i+kc (l.drop p) i:=by rw [<- dW,adh]
 rw [dW,dW,vy];omega
theorem O3 {f:Block->Block} (h:∀ b,(f b).At=b.At∧(f b).Order=b.Order) (l:List Block) (i:Nat) : kc (l.map f) i=kc l i:=by
 unfold kc;rw [List.countP_map];congr 1
 funext b
 simp only [Function.comp_apply,qB,(h b).1,(h b).2]
theorem Ac (a o:Int) (i:Nat) : yd a o i<=1:=by unfold yd;cases qB ⟨a,o,0⟩ i<;>simp
theorem rh : 0<yd a o i↔a<=(i:Int)∧(i:Int)<a+pw o:=by
 unfold yd;cases e:qB ⟨a,o,0⟩ i with
 | true=>simpa [qB] using e
 | false =>
   simp only [Bool.toNat_false,Nat.lt_irrefl,false_iff];intro h;unfold qB at e;simp only [h.1,h.2,decide_true,Bool.and_self,Bool.true_eq_false] at e
theorem O4 {b:Block} (hb:b∈l) (h:b.At<=(i:Int)∧(i:Int)<b.At+pw b.Order) : 0<kc l i:=by
 refine mD.1 (adq.2 ⟨b,hb,?_⟩);simp [qB,h.1,h.2]
theorem Ad {t:Int}:∀ {l:List Block},sd l->(∀ b∈l,ld f t b) -> ∀ i,kc l i<=1
 | [],_,_,i=>by simp [kc]
 | b::l,hu,hb,i=>by
   unfold sd at hu;rw [ad8] at hu;have ih:=Ad (l:=l) hu.2 (fun x hx=>hb x (by simp [hx])) i;rw [Ab];have h1:=Ac b.At b.Order i;rcases adu (yd b.At b.Order i) with h0|h0
   ·omega
   ·have hi:=rh.1 h0
    have:kc l i=0:=by
     rcases adu (kc l i) with h2|h2
     ·exact h2
     ·obtain ⟨x,hx,U4⟩:=adq.1 (mD.2 h2);have:=hu.1 x hx
      simp only [qB,Bool.and_eq_true,decide_eq_true_eq] at U4;omega
    omega
theorem qk (hz:bV z) : ∀ b∈z.aj,ld z.aV z.To b:=fun b hb=>by
 obtain ⟨i,hi,rfl⟩:=ade hb;exact hz.eM i hi
theorem Fo (hz:bV z) (i:Nat) : kc z.aj i<=1:=Ad (pQ hz) (qk hz) i
theorem O5 {q:Int} (h1 : 1<=q) (h4:q<=4) : pw q=2*pw (q-1):=by
 have:=qJ (o:=q-1) (by omega) (by omega)
 rwa [aeI] at this
theorem MJ {q:Int} (h1 : 1<=q) (h4:q<=4) (i:Nat) : yd a q i=yd a (q-1) i+yd (a+pw (q-1)) (q-1) i:=by
 have hp:=O5 h1 h4;have UQ:=(cQ (o:=q-1) (by omega) (by omega)).1;have e0:=rh (a:=a) (o:=q) (i:=i);have e1:=rh (a:=a) (o:=q-1) (i:=i);have e2:=rh (a:=a+pw (q-1)) (o:=q-1) (i:=i);have l0:=Ac a q i;have l1:=Ac a (q-1) i;have l2:=Ac (a+pw (q-1)) (q-1) i;omega
theorem Ae {ty a:Int} (i:Nat) : ∀ (k:Nat) (q:Int) (l:List Block),(k:Int)<=q->q<=4->kc (mm ty a k q l) i+yd a (q-k) i=kc l i+yd a q i
 | 0,q,l,_,_=>by simp [mm]
 | k+1,q,l,h,h4=>by
   have ih:=Ae (ty:=ty) (a:=a) i k (q-1) (tS ty a q l) (by omega) (by omega);have e:kc (tS ty a q l) i=kc l i+yd (a+pw (q-1)) (q-1) i:=wO _ _ _ _
   have hh:=MJ (a:=a) (q:=q) (by omega) h4 i;simp only [mm];rw [show q-((k+1:Nat) : Int)=q-1-(k:Int) by omega];omega
theorem Kh (z:ao) (b:Block) (t:Int) (st:Bool) (i:Nat) : kc (kk z b t st) i=kc z.aj i:=by
 unfold kk jZ;split
 ·split
  ·rfl
  ·exact O3 (pq _ _ _) _ _
 ·rfl
theorem ik.kc {t:Int} {u:ao×Int×Int} (h:ik z o t u) (h0:u.2.2=0) (i:Nat) : Go.Proofs.YtohigmjjbgpfmaaGreatDoor.kc z.aj i=Go.Proofs.YtohigmjjbgpfmaaGreatDoor.kc u.1.aj i+yd u.2.1 o i:=by
 cases h with
 | bad|range|kind|room=>simp at h0
 | @ok k st hq ho ht hk hp =>
   have hz:=fq.1 hq;obtain ⟨_,p1,p2⟩:=hp.ord;have bW:k<(kk z z.aj[k] t st).length:=by rw [(ve hz ht st).1];exact hk
   have e1:=tj bW i;rw [Kh,wi hz ht st hk] at e1;have e2:=Ae (ty:=xS z t st z.aj[k]) (a:=z.aj[k].At) i (z.aj[k].Order-o).toNat z.aj[k].Order ((kk z z.aj[k] t st).eraseIdx k) (by omega) p2;rw [show z.aj[k].Order-((z.aj[k].Order-o).toNat:Int)=o by omega] at e2;have e3:(uk z o t z.aj[k] k st).aj=mm (xS z t st z.aj[k]) z.aj[k].At (z.aj[k].Order-o).toNat z.aj[k].Order ((kk z z.aj[k] t st).eraseIdx k):=rfl
   simp only [e3];simp only at e1;omega
def pB (s:ao×ao) (i:Nat) : Nat:=kc s.1.aj i+kc s.2.aj i
def lq (l:List Int) (i:Nat) : Nat:=kc (l.map cu) i
def jr (L:List aT) (i:Nat) : Nat:=kc (bc L) i
theorem vA (p:Int) (i:Nat) : lq [p] i=yd p 0 i:=vy _ _
theorem mS (l m:List Int) (i:Nat) : lq (l++m) i=lq l i+lq m i:=by unfold lq;rw [adG,dW]
theorem jh (L M:List aT) (i:Nat) : jr (L++M) i=jr L i+jr M i:=by unfold jr bc;rw [adt,dW]
theorem Fp (x:aT) (i:Nat) : jr [x] i=lq x.ax i:=by unfold jr bc lq;simp
theorem wP (x:aT) (L:List aT) (i:Nat) : jr (x::L) i=lq x.ax i+jr L i:=by rw [<- adz,jh,Fp]
theorem Af (L:List aT) (p:Nat) (x:aT) (i:Nat) : jr (aN L p x) i=jr L i+lq x.ax i:=by
 unfold aN;have e:jr L i=jr (L.take p) i+jr (L.drop p) i:=by rw [<- jh,adh]
 rw [jh,jh,Fp];omega
theorem Hv (hk:k<L.length) (i:Nat) : jr L i=jr (L.eraseIdx k) i+lq L[k].ax i:=by
 have e:L=L.take k++L[k]::L.drop (k+1):=by simp
 rw [adM]
 conv=>lhs;rw [e]
 rw [jh,jh,wP];omega
theorem Fq (hk:k<L.length) (x:aT) (i:Nat) : jr (L.set k x) i+lq L[k].ax i=jr L i+lq x.ax i:=by
 have e:L=L.take k++L[k]::L.drop (k+1):=by simp
 have e2:L.set k x=L.take k++x::L.drop (k+1):=by rw [ad6,if_pos hk]
 rw [e2]
 conv=>rhs;rw [e]
 rw [jh,jh,wP,wP];omega
theorem Ag {s:ao×ao} {t:Int} {u:ao×Int×Int} (h:ik (yb s zi) o t u) (h0:u.2.2=0) (i:Nat) : pB s i=pB (sJ s zi u.1) i+yd u.2.1 o i:=by
 have:=h.kc h0 i
 unfold yb at this;unfold pB sJ;split at this
 ·rename_i e;rw [if_pos e];simp only;omega
 ·rename_i e;rw [if_neg e];simp only;omega
theorem tm {s:ao×ao} {t:Int} {u:ao×Int×Int} (h:ik (yb s zi) o t u) (h0:u.2.2=0) : (sJ s zi u.1).1.To=s.1.To:=by
 have hk:=(h.jT h0).1.pj;unfold yb at hk;unfold sJ;split at hk
 ·rename_i e;rw [if_pos e];exact hk
 ·rename_i e;rw [if_neg e]
theorem jP.to {t:Int} {s:ao×ao} {l:List Int} {r:(ao×ao)×List Int} (h:jP m0 m1 zi t fl s l r) : r.1.1.To=s.1.To:=by
 induction h with
 | full|m9|none=>rfl
 | more h he ht hu hr ih=>rw [ih,tm ht hu]
theorem jU.to {t:Int} {s:ao×ao} (h:jU m0 m1 cpu zi o t fl s L (some r)) : r.1.1.To=s.1.To:=by
 cases h with
 | list=>rfl
 | uL ho he ht hu=>exact tm ht hu
 | fill ho hk he ht hu hr=>simp only;rw [hr.to,tm ht hu]
theorem ms.to {t:Int} {s:ao×ao} (h:ms m0 m1 cpu o t fl s L (some r)) : r.1.1.To=s.1.To:=by
 cases h with
 | wu _ h=>exact h.to
 | low _ h=>exact h.to
theorem jP.kc {t:Int} {s:ao×ao} {l:List Int} {r:(ao×ao)×List Int} (h:jP m0 m1 zi t fl s l r) (i:Nat) : pB s i+lq l i=pB r.1 i+lq r.2 i:=by
 induction h with
 | full|m9|none=>rfl
 | more h he ht hu hr ih =>
   have:=Ag ht hu i
   rw [mS,vA] at ih;omega
theorem MK {x:aT} (hk:dB L x=true) (hp:dh L x≠[]) (i:Nat) : jr L i=jr (wL L x (dh L x)) i+yd ((dh L x).getLast hp) 0 i:=by
 obtain ⟨hl,_⟩:=j8 hk
 have e:=iQ hk hl
 obtain ⟨pg,wA⟩ : ∃ pg,dh L x=pg:=⟨_,rfl⟩
 simp only [wA] at hp ⊢
 rw [wA] at e
 have e2:pg=pg.dropLast++[pg.getLast hp]:=(List.dropLast_concat_getLast hp).symm
 have e3:lq pg i=lq pg.dropLast i+yd (pg.getLast hp) 0 i:=by
  conv=>lhs;rw [e2]
  rw [mS,vA]
 unfold wL
 split
 ·rename_i h1
  have:=Hv hl i
  rw [<- e] at this
  have h0:pg.dropLast=[]:=adw (by rw [List.length_dropLast];omega)
  rw [h0] at e3
  simp only [lq,List.map_nil,yJ] at e3
  simp only [lq] at this
  omega
 ·have:=Fq hl (fM x pg.dropLast) i
  rw [<- e] at this
  simp only [fM] at this ⊢
  omega
theorem Ki {x:aT} (hk:dB L x=false) (pg:List Int) (i:Nat) : jr (km L x pg) i=jr L i+lq pg i:=by
 by_cases h:pg=[]
 ·subst h;rw [mu];rfl
 ·rw [qf hk h,Af];rfl
theorem jU.kc {t:Int} {s:ao×ao} (h:jU m0 m1 cpu zi o t fl s L (some r)) (i:Nat) : pB s i+jr L i=pB r.1 i+jr r.2.1 i+yd r.2.2 o i:=by
 cases h with
 | list ho hk hp=>subst ho;have:=MK hk hp i;simp only;omega
 | uL ho he ht hu=>have:=Ag ht hu i;simp only;omega
 | fill ho hk he ht hu hr =>
   have h1:=Ag ht hu i
   have h2:=hr.kc i
   have h3:=fun pg=>Ki hk pg i
   simp only [h3]
   simp only [lq,List.map_nil,yJ] at h2
   simp only [lq]
   omega
theorem ms.kc {t:Int} {s:ao×ao} (h:ms m0 m1 cpu o t fl s L (some r)) (i:Nat) : pB s i+jr L i=pB r.1 i+jr r.2.1 i+yd r.2.2 o i:=by
 cases h with
 | wu _ h=>exact h.kc i
 | low _ h=>exact h.kc i
theorem tX:∀ {l bs:List Block},(∀ b∈bs++l,0<=b.At∧1<=pw b.Order)->(∀ i,kc bs i<=1)->(bA (some bs) l).isSome=true -> ∀ i,kc (bs++l) i<=1
 | [],bs,_,hc,_,i=>by simpa using hc i
 | b::l,bs,hg,hc,h,i=>by
   have e:bA (some bs) (b::l)=bA (lV (some bs) b) l:=rfl
   rw [e] at h;by_cases hf:xm bs b
   ·have e2:lV (some bs) b=some (bs++[b]):=by simp only [lV,if_pos hf]
    rw [e2] at h
    have Qc:∀ i,kc (bs++[b]) i<=1:=fun i=>by
     rw [dW,vy];have h1:=hc i;have h2:=Ac b.At b.Order i;rcases adu (yd b.At b.Order i) with h0|h0
     ·omega
     ·have hi:=rh.1 h0;have hm:=(s9 (fun x hx=>hg x (by simp [hx])) (hg b (by simp)).2).2 hf;have hq:=hm.2.2.2 i hi.1 hi.2;have : ¬ 0<kc bs i:=fun h=>by rw [mD.2 h] at hq;cases hq
      omega
    have:=tX (l:=l) (bs:=bs++[b]) (by simpa using hg) Qc h i
    simpa using this
   ·have e2:lV (some bs) b=none:=by simp only [lV,if_neg hf]
    rw [e2,jd] at h;cases h
theorem tY:∀ {l bs:List Block},(∀ b∈bs++l,0<=b.At∧1<=pw b.Order)->(∀ b∈l,b.At+pw b.Order<=256)->(∀ i,kc (bs++l) i<=1)->(bA (some bs) l).isSome=true
 | [],bs,_,_,_=>rfl
 | b::l,bs,hg,hr,hc=>by
   have D7:=hg b (by simp);have hrb:=hr b (by simp)
   have hf:xm bs b:=by
    refine (s9 (fun x hx=>hg x (by simp [hx])) D7.2).1 ⟨D7.1,by omega,by omega,fun i h1 h2 => ?_⟩;cases e:eu bs i with
    | false=>rfl
    | true =>
      have h3:=mD.1 e;have h4:=hc i;have h5:=rh.2 (⟨h1,h2⟩ : b.At<=(i:Int)∧(i:Int)<b.At+pw b.Order);rw [dW,Ab] at h4;omega
   have e:bA (some bs) (b::l)=bA (lV (some bs) b) l:=rfl
   have e2:lV (some bs) b=some (bs++[b]):=by simp only [lV,if_pos hf]
   rw [e,e2];exact tY (by simpa using hg) (fun x hx=>hr x (by simp [hx])) (by simpa using hc)
def uw (s:ao×ao) (L:List aT) (lv:List Block) (i:Nat) : Nat:=pB s i+jr L i+kc lv i
theorem ML {h:Heap} (f:jC h z0 z1) : ∀ b∈z0.aj++z1.aj++bc h.av++h.Live,0<=b.At∧1<=pw b.Order:=fun b hb=>by
 obtain ⟨bs,S9⟩:=adH.1 f.all;have pn:=xr f.all b hb;refine ⟨pn.1,?_⟩;simp only [List.mem_append] at hb;rcases hb with ((hb|hb)|hb)|hb
 ·exact (ll f.d.lW b hb).2
 ·exact (ll f.d.lG b hb).2
 ·unfold bc at hb;obtain ⟨x,_,hx⟩:=adx.1 hb;obtain ⟨p,_,rfl⟩:=adv.1 hx;simp only [cu,jm];omega
 ·obtain ⟨j,hj,rfl⟩:=ade hb;have:=(f.live.each j hj).1
  exact (cQ this.1 this.2).1
theorem jC.Ro {h:Heap} (f:jC h z0 z1) (i:Nat) : uw (z0,z1) h.av h.Live i<=1:=by
 have:=tX (bs:=[]) (l:=z0.aj++z1.aj++bc h.av++h.Live) (by simpa using ML f) (fun i=>by simp [kc]) f.all i
 simp only [List.nil_append,dW] at this;unfold uw pB jr;simp only;omega
theorem Ah (hz:bV z) (h : 0<kc z.aj i) : z.aV<=(i:Int)∧(i:Int)<z.To:=by
 obtain ⟨x,hx,U4⟩:=adq.1 (mD.2 h);simp only [qB,Bool.and_eq_true,decide_eq_true_eq] at U4;obtain ⟨⟨f1,f2,f3,f4,f5⟩,_⟩:=qk hz x hx;obtain ⟨k1,k2,k3,k4,k5⟩:=hz.ok;refine ⟨by omega,?_⟩;rcases fH f1 f2 with ⟨e1,e2⟩|⟨e1,e2⟩|⟨e1,e2⟩|⟨e1,e2⟩|⟨e1,e2⟩<;>rw [e2] at f5 U4<;>omega
theorem Ai {s:ao×ao} (h:VS s) (i:Nat) : pB s i=(eu s.1.aj i || eu s.2.aj i).toNat:=by
 have h0:=Fo h.lW i;have h1:=Fo h.lG i;have e0:=DK h0;have e1:=DK h1;unfold pB;rcases adu (kc s.1.aj i) with g0|g0
 ·have c0:eu s.1.aj i=false:=by
   cases e:eu s.1.aj i with
   | false=>rfl
   | true=>have:=mD.1 e;omega
  rw [g0,e1,c0];simp
 ·have r0:=Ah h.lW g0
  have:kc s.2.aj i=0:=by
   rcases adu (kc s.2.aj i) with g1|g1
   ·exact g1
   ·have:=Ah h.lG g1
    have:=h.Ea
    omega
  rw [this,e0,mD.2 g0];simp
theorem xB {h:Heap} (f:jC h z0 z1) (i:Nat) : pB (bX (z0,z1) (bc h.av)) i=pB (z0,z1) i+jr h.av i:=by
 have hd:=fO f.d;have ht:=f.Ro i;unfold uw at ht;have hc:kc (z0.aj++z1.aj++bc h.av) i=pB (z0,z1) i+jr h.av i:=by rw [dW,dW];rfl
 rw [Ai hd.vs i,hd.IG i,<- DK (by rw [hc];omega),hc]
theorem Aj {h:Heap} (d:n7 h z0 z1) : (bX (z0,z1) (bc h.av)).1.To=z0.To:=by
 have key:∀ k,k<=(bc h.av).length->(bX (z0,z1) ((bc h.av).take k)).1.To=z0.To:=by
  intro k;induction k with
  | zero=>intro _;simp [bX]
  | succ k ih =>
    intro hk;rw [nw _ _ _ hk];exact ((d.inv k (by omega)).back (d.next hk)).2.trans (ih (by omega))
 have:=key _ (adg _)
 rwa [ad2] at this
theorem cU.kc {h:Heap} {u:Heap×Int×Int} (a:cU h cpu o fl u) (h0:u.2.2=0) : ∃ z0 z1 s,h.bp=[z0,z1]∧jC h z0 z1∧VS s∧u.1.bp=[s.1,s.2]∧(∃ t,kU t∧u.1.Live=dU h u.2.1 o t)∧u.1.dO=h.dO∧u.1.bG=h.bG∧s.1.To=z0.To ∧
 ∀ i,uw (z0,z1) h.av h.Live i=uw s u.1.av u.1.Live i∧pB (z0,z1) i+jr h.av i=pB s i+jr u.1.av i+yd u.2.1 o i:=by
 cases a with
 | bad|range|form|room=>simp at h0
 | @once z0 z1 r hb hr ht hz ha =>
   obtain ⟨y0,y1,F⟩:=gC (cq.1 hb);have oB:=F.d.ct;rw [hz] at oB;simp only [List.cons.injEq,and_true] at oB;obtain ⟨rfl,rfl⟩:=oB;have hv:=(ha.found F.d.start.vs).1;refine ⟨z0,z1,r.1,hz,F,hv,rfl,⟨_,(sI ht).2,rfl⟩,rfl,rfl,?_,fun i => ?_⟩
   ·exact ha.to
   ·have e:=ha.kc i;refine ⟨?_,e⟩;unfold uw na dU;simp only [wO];omega
 | @gE z0 z1 r hb hr ht hz ha h2 =>
   obtain ⟨y0,y1,F⟩:=gC (cq.1 hb);have oB:=F.d.ct;rw [hz] at oB;simp only [List.cons.injEq,and_true] at oB;obtain ⟨rfl,rfl⟩:=oB;have hv:=(h2.found (fO F.d).vs).1;refine ⟨z0,z1,r.1,hz,F,hv,rfl,⟨_,(sI ht).2,rfl⟩,rfl,rfl,?_,fun i => ?_⟩
   ·rw [h2.to];exact Aj F.d
   ·have e:=h2.kc i;have e2:=xB F i;have e3:jr [] i=0:=rfl
    refine ⟨?_,by simp only [na];omega⟩;unfold uw na dU;simp only [wO];omega
open Go.RowKit
noncomputable def k6 (h:Heap) : Int×Heap:=if je h then (match h.bp with | [z0,z1]=>(0,oS h z0 z1)|_=>(8,⟨[],[],0,[],[]⟩)) else (8,⟨[],[],0,[],[]⟩)
theorem Fs {h:Heap} (hb:je h=false) : k6 h=(8,⟨[],[],0,[],[]⟩):=by simp [k6,hb]
theorem vB {h:Heap} (hb:je h=true) (hz:h.bp=[z0,z1]) : k6 h=(0,oS h z0 z1):=by simp [k6,hb,hz]
set_option maxHeartbeats 2000000 in
theorem Cr (r:jy) (h:Heap) (w:World) (hr:Iz w r h) (hs:h.small) (N3:∀ z∈h.bp,fL z) :
 bF prog 35 [.agg (dG r).toArray] w (kR w.heap.size (k6 h)):=by
 refine aC func35 rfl ntmps35 rfl ?_;refine CW.seq (CW.region (SW.box rfl rfl fun b1 w1 hw lp aZ => ?_));have Ms:=lp;refine SW.alloc rfl fun b2 w2 bt fA au => ?_
 have u5:=hw.up fA
 have bJ:b1≠b2:=by have:=aZ.lt;omega
 (obtain ⟨hw,aZ⟩:=df bt hw aZ);obtain ⟨q,hq⟩ : ∃ q,je h=q:=⟨_,rfl⟩
 have c1:∀ w',Ext w w'->bF prog 61 [.agg (dG r).toArray] w' fun v _=>v = .int .i64 (if q then 0 else 8):=fun w' hx=>by
  have:=qT r h w' (hr.ext hx) hs N3
  rwa [hq] at this
 cases q
 ·simp only [Bool.false_eq_true,if_false] at c1;rw [Fs hq];repeat' (first|refine Wz ?_|(refine Wk (c1 _ hw) ?_;intro v w1 ai hv;subst hv;obtain ⟨hw,aZ,au⟩:=cn ai hw aZ au;clear ai))
  refine SW.ag au rfl rfl rfl rfl (dY .zero) fun w5 cX hg => ?_
  have hw:=hw.own u5 hg;refine Wz ?_;exact ae.dA rfl rfl rfl cX rfl ⟨_,rfl,hw,kR.zero 8 _ _⟩
 ·simp only [if_true] at c1;have hm:=cq.1 hq;obtain ⟨z0,z1,hd⟩:=EM hm;rw [vB hq hd.ct];repeat' (first|refine Wz ?_|(refine Wk (c1 _ hw) ?_;intro v w1 ai hv;subst hv;obtain ⟨hw,aZ,au⟩:=cn ai hw aZ au;clear ai))
  refine Wk (mn r h _ (hr.ext hw) hs) fun v w4 kz hv => ?_
  obtain ⟨s,rfl,hO⟩:=hv;have hO:=hO.low hw.size;(obtain ⟨hw,aZ,au⟩:=cn kz hw aZ au);clear c1;obtain ⟨g,c,u0,u1,ls,eZ,hZ,hR⟩:=hO.split hd.ct;have BB:=hO.cpus;clear hO;obtain ⟨sz,m,cp,li,lv⟩:=s;simp only at eZ hR BB;subst eZ;refine SW.ag aZ rfl rfl rfl rfl (dY ⟨⟨some ⟨g,0,none⟩,2,c⟩,m,cp,li,lv⟩) fun w5 tE hg => ?_
  have hG:=aZ.gr hg;have hw:=hw.own Ms hg;have au:=au.grown hg (by simpa using Ne.symm bJ);obtain ⟨hZ,hR⟩:=df hG hZ hR;have aZ:=tE;clear tE hg hG;refine Wz ?_;have dE:b2≠g:=fun e=>hZ.row.fi au rfl (by rw [hZ.own,e])
  refine SW.dX rfl rfl (J8 h z0 z1 hd hs m cp li lv ls u0 u1 g c b1 w.heap.size w _ hw (adg _) hw.size Ms aZ hZ hR) fun v w6 hv => ?_
  obtain ⟨ni,hE,tE,hR',u2,u3,Gk⟩:=hv;have au:=hE.eM au dE (Ne.symm bJ);clear hw aZ hR hZ hE;have hw:=ni;clear ni;refine Wz ?_;refine SW.ag au rfl rfl rfl rfl (dY ⟨⟨some ⟨g,0,none⟩,2,c⟩,m,cp,.nil,lv⟩) fun w7 cX hg => ?_
  have hG:=au.gr hg;have hw:=hw.own u5 hg;refine Wz ?_;exact ae.dA rfl rfl rfl cX rfl ⟨_,rfl,hw,⟨⟨some ⟨g,0,none⟩,2,c⟩,m,cp,.nil,lv⟩,rfl,(hR'.aK hG rfl).join (Gk.aK hG rfl) BB⟩
theorem IX (h:bV z) : z.aj.length*24<=140737488355328∧z.Types.length*8<=140737488355328:=by
 have:=kA h
 exact ⟨adf (adD 24 this.1) (by decide),by omega⟩
theorem DL (h:Heap) (hs:h.small) : (k6 h).2.small:=by
 cases hq:je h
 ·rw [Fs hq];constructor<;>simp
 ·obtain ⟨z0,z1,hd⟩:=EM (cq.1 hq);rw [vB hq hd.ct];have hI:=hd.inv _ (adg _);rw [ad2] at hI;refine ⟨by simp [oS],hs.eE,by simp [oS],hs.live,fun z hz => ?_,fun l hl=>by simp [oS] at hl⟩;simp only [oS,List.mem_cons,List.not_mem_nil,or_false] at hz;rcases hz with rfl|rfl
  ·exact IX hI.lW
  ·exact IX hI.lG
variable {pg:List Int}
def Kj (to zi p:Int) : Prop:=(0<=p∧p<256)∧(p<to↔zi=0)
structure kG (c to:Int) (L:List aT) : Prop where
 head:∀ l∈L,lB c l
 n9:EN L
 kr:∀ l∈L,∀ p∈l.ax,Kj to l.ao p
theorem kG.nil (c to:Int) : kG c to []:=⟨by simp,List.Pairwise.nil,by simp⟩
theorem kG.ok {c to:Int} (h:kG c to L) : nu c to L:=by
 refine ⟨fun i hi=>h.head _ (adb hi),fun i hi=>h.n9.get hi (by omega),fun i hi p hp=>(h.kr _ (adb hi) p hp).2⟩
theorem jC.ls {h:Heap} (f:jC h z0 z1) (hm:bK h) : kG h.bG z0.To h.av:=by
 obtain ⟨y0,y1,h1,_,_,_,_,_,h7,_⟩:=hm.ct;have hz:=f.d.ct;rw [h1] at hz;simp only [List.cons.injEq,and_true] at hz;obtain ⟨rfl,rfl⟩:=hz;refine ⟨fun l hl => ?_,f.n9,fun l hl p hp => ?_⟩
 ·obtain ⟨i,hi,rfl⟩:=ade hl;exact h7.head i hi
 ·obtain ⟨i,hi,rfl⟩:=ade hl;refine ⟨?_,h7.kr i hi p hp⟩;obtain ⟨j,hj,rfl⟩:=ade hp;exact (f.G8 hi hj).at_
theorem kG.erase {c to:Int} (h:kG c to L) (k:Nat) : kG c to (L.eraseIdx k) :=
 ⟨fun l hl=>h.head l (adV hl),List.Pairwise.sublist (ad4 L k) h.n9,fun l hl=>h.kr l (adV hl)⟩
theorem kG.tI {c to:Int} (h:kG c to L) (hk:k<L.length) {y:aT} (he:jg L[k] y) (hy:lB c y) (hz:∀ p∈y.ax,Kj to y.ao p) : kG c to (L.set k y):=by
 refine ⟨fun l hl => ?_,?_,fun l hl => ?_⟩
 ·rcases ads hl with h1|rfl
  ·exact h.head l h1
  ·exact hy
 ·unfold EN;rw [adl];intro i j hi hj pk;simp only [List.length_set] at hi hj;have h0:=h.n9.get hj pk;rw [adB,adB];unfold dg jg at *;split
  ·rename_i e;subst e
   rw [if_neg (by omega)];omega
  ·split
   ·rename_i e;subst e;omega
   ·exact h0
 ·rcases ads hl with h1|rfl
  ·exact h.kr l h1
  ·exact hz
theorem kG.ins {c to:Int} (h:kG c to L) {y:aT} (hk:dB L y=false) (hy:lB c y) (hz:∀ p∈y.ax,Kj to y.ao p) : kG c to (aN L (bu L y) y):=by
 have m8:∀ l∈aN L (bu L y) y,l∈L∨l=y:=fun l hl=>by
  unfold aN at hl;simp only [List.mem_append,List.mem_singleton] at hl;rcases hl with (hl|rfl)|hl
  ·exact .inl (adE hl)
  ·exact .inr rfl
  ·exact .inl (adU hl)
 refine ⟨fun l hl => ?_,z6 h.n9 hk,fun l hl => ?_⟩
 ·rcases m8 l hl with h1|rfl
  ·exact h.head l h1
  ·exact hy
 ·rcases m8 l hl with h1|rfl
  ·exact h.kr l h1
  ·exact hz
theorem kG.Qd {c to:Int} (h:kG c to L) {y:aT} (hy:lB c y) (hz:∀ p∈y.ax,Kj to y.ao p) : kG c to (iZ L y):=by
 cases hk:dB L y
 ·rw [sr hk];exact h.ins hk hy hz
 ·obtain ⟨hl,he⟩:=j8 hk;rw [sq hk];exact h.tI hl he hy hz
theorem kG.pop {c to:Int} (h:kG c to L) {x:aT} (hk:dB L x=true) : kG c to (wL L x (dh L x)):=by
 obtain ⟨hl,he⟩:=j8 hk;have e:=iQ hk hl;unfold wL;split
 ·exact h.erase _
 ·rename_i h1;have h2:=h.head _ (adb hl);have h3:=h.kr _ (adb hl);rw [e] at h1 ⊢;refine h.tI hl (by unfold jg fM at *;simpa using he) ?_ fun p hp => ?_
  ·unfold lB fM at *;unfold jg at he;simp only [List.length_dropLast];omega
  ·have:=h3 p ((List.dropLast_sublist _).subset hp)
   unfold jg at he;simp only [fM] at this ⊢;rwa [<- he.2.1]
theorem kG.more {c to:Int} (h:kG c to L) {x:aT} (hk:dB L x=false) (h1:(0<=x.ga∧x.ga<c)∧(0<=x.ao∧x.ao<=1)∧(0<=x.Ty∧x.Ty<=2)) (h2:pg.length<=8) (hz:∀ p∈pg,Kj to x.ao p) : kG c to (km L x pg):=by
 by_cases e:pg=[]
 ·subst e;rw [mu];exact h
 ·rw [qf hk e];obtain ⟨k1,k2⟩:=kC (L:=L) (rc (x:=x) (pg:=pg));refine h.ins (by rw [<- k2];exact hk) ?_ hz;have : 0<pg.length:=List.length_pos_iff.2 e
  unfold lB fM;simp only;omega
theorem VS.range {s:ao×ao} (h:VS s) : 0<=s.1.To∧s.1.To<=256:=by
 have h1:=h.lW.ok;have h2:=h.lG.ok;have:=h.Ea
 obtain ⟨a1,a2,a3,a4,a5⟩:=h1;obtain ⟨b1,b2,b3,b4,b5⟩:=h2;omega
theorem Kk {s:ao×ao} {t:Int} {u:ao×Int×Int} (hv:VS s) (tc:zi=0∨zi=1) (h:ik (yb s zi) o t u) (h0:u.2.2=0) : Kj s.1.To zi u.2.1:=by
 obtain ⟨_,⟨x,hx,e⟩,_⟩:=h.jT h0;obtain ⟨⟨f1,f2,f3,f4,f5⟩,_⟩:=qk (hv.yb zi) x hx;have hr:=hv.range;have:=hv.pX;have:=hv.Ea;have:=hv.JL
 unfold yb at f3 f4;unfold Kj;rcases tc with rfl|rfl
 ·simp only [if_true] at f3 f4;omega
 ·simp only [show ¬ (1:Int)=0 by omega,if_false] at f3 f4;omega
theorem jP.bC {t:Int} {s:ao×ao} {l:List Int} {r:(ao×ao)×List Int} (h:jP m0 m1 zi t fl s l r) (tc:zi=0∨zi=1) : VS s->(∀ p∈l,Kj s.1.To zi p) -> ∀ p∈r.2,Kj s.1.To zi p:=by
 induction h with
 | full|m9|none=>exact fun _ h=>h
 | more h he ht hu hr ih =>
   intro hv hl;rw [<- tm ht hu];refine ih (hv.tI (ht.jT hu).1) fun p hp => ?_
   rw [tm ht hu];rcases adm.1 hp with hp|hp
   ·exact hl p hp
   ·simp only [List.mem_singleton] at hp;subst hp;exact Kk hv tc ht hu
theorem jU.ls {t c:Int} {s:ao×ao} (h:jU m0 m1 cpu zi o t fl s L (some r)) (tc:zi=0∨zi=1) (hv:VS s) (hL:kG c s.1.To L) (hc : 0<=cpu∧cpu<c) (ht : 0<=t∧t<=2) : kG c s.1.To r.2.1:=by
 cases h with
 | list ho hk hp=>exact hL.pop hk
 | uL ho he ht hu=>exact hL
 | fill ho hk he G5 hu hr =>
   have VH:=hv.tI (G5.jT hu).1;have h3:=(hr.vs VH).2;refine hL.more hk ⟨hc,by rcases tc with rfl|rfl<;>simp,ht⟩ (by omega) fun p hp => ?_
   have:=hr.bC tc VH (by simp) p hp
   rwa [tm G5 hu] at this
theorem ms.ls {t c:Int} {s:ao×ao} (h:ms m0 m1 cpu o t fl s L (some r)) (hv:VS s) (hL:kG c s.1.To L) (hc : 0<=cpu∧cpu<c) (ht : 0<=t∧t<=2) : kG c s.1.To r.2.1:=by
 cases h with
 | wu _ h=>exact h.ls (.inr rfl) hv hL hc ht
 | low _ h=>exact h.ls (.inl rfl) hv hL hc ht
theorem Rp {k:Int} (ho : 0<=o) (h:o<=k) (hk:k<=4) (ha:a % pw k=0) : a % pw o=0:=by
 rcases fH (o:=o) ho (by omega) with ⟨e1,e2⟩|⟨e1,e2⟩|⟨e1,e2⟩|⟨e1,e2⟩|⟨e1,e2⟩<;>rcases fH (o:=k) (by omega) hk with ⟨e3,e4⟩|⟨e3,e4⟩|⟨e3,e4⟩|⟨e3,e4⟩|⟨e3,e4⟩<;>rw [e2]<;>rw [e4] at ha<;>omega
theorem ik.al {t:Int} {u:ao×Int×Int} (h:ik z o t u) (h0:u.2.2=0) : u.2.1 % pw o=0:=by
 cases h with
 | bad|range|kind|room=>simp at h0
 | @ok k st hq ho ht hk hp =>
   obtain ⟨_,p1,p2⟩:=hp.ord;have hb:=(qk (fq.1 hq) _ (adb hk)).1;exact Rp ho.1 (by omega) (by omega) hb.2.2.2.2
theorem jU.al {t:Int} {s:ao×ao} (h:jU m0 m1 cpu zi o t fl s L (some r)) : r.2.2 % pw o=0:=by
 cases h with
 | list ho hk hp=>subst ho;simp only [jm];omega
 | uL ho he ht hu=>exact ht.al hu
 | fill ho hk he ht hu hr=>exact ht.al hu
theorem ms.al {t:Int} {s:ao×ao} (h:ms m0 m1 cpu o t fl s L (some r)) : r.2.2 % pw o=0:=by
 cases h with
 | wu _ h=>exact h.al
 | low _ h=>exact h.al
theorem DM (h1:∀ b∈l,wh b) (h2:l.Pairwise fun x y=>x.At<y.At) : fV l:=by
 rw [adl] at h2;exact ⟨fun i hi=>h1 _ (adb hi),fun i hi=>h2 i (i+1) (by omega) hi (by omega)⟩
theorem fV.all (h:fV l) : ∀ b∈l,wh b:=fun b hb=>by
 obtain ⟨i,hi,rfl⟩:=ade hb;exact h.each i hi
theorem fV.erase (h:fV l) (k:Nat) : fV (l.eraseIdx k) :=
 DM (fun b hb=>h.all b (adV hb)) (List.Pairwise.sublist (ad4 l k) (kQ h))
theorem fV.TS {h:Heap} (hl:fV h.Live) {t:Int} (hb:wh ⟨a,o,t⟩) (hn:∀ b∈h.Live,b.At≠a) : fV (dU h a o t):=by
 refine DM (fun b iz => ?_) ?_
 ·rcases wq iz with rfl|h1
  ·exact hb
  ·exact hl.all b h1
 ·have hp:=kQ hl
  have hd:∀ x∈h.Live.drop (bE h.Live a),a<x.At:=fun x hx=>by
   obtain ⟨j,hj,rfl⟩:=ade hx;simp only [List.length_drop] at hj;rw [ad9];have h1:=Et (l:=h.Live) (a:=a) (by omega);have h2:=hn _ (adb (show bE h.Live a+j<h.Live.length by omega));rcases adu j with e|e
   ·subst e;simp only [Nat.add_zero] at h2 ⊢;omega
   ·rw [adl] at hp;have h3:=hp (bE h.Live a) (bE h.Live a+j) (by omega) (by omega) (by omega);omega
  have ht:∀ x∈h.Live.take (bE h.Live a),x.At<a:=fun x hx=>by
   obtain ⟨j,hj,rfl⟩:=ade hx;simp only [List.length_take] at hj;rw [adS];exact pR (by omega)
  unfold dU aN;rw [adj,adA];refine ⟨List.Pairwise.sublist (List.take_sublist _ _) hp,?_,fun x hx y hy => ?_⟩
  ·rw [adz,ad8];exact ⟨hd,List.Pairwise.sublist (List.drop_sublist _ _) hp⟩
  ·have h1:=ht x hx;rcases adm.1 hy with hy|hy
   ·simp only [List.mem_singleton] at hy;subst hy;exact h1
   ·have:=hd y hy;omega
theorem qo {h:Heap} {s:ao×ao} (hz:h.bp=[s.1,s.2]) (hv:VS s) (hl:kG h.bG s.1.To h.av) (hm:∃ m0 m1,h.dO=[m0,m1]∧(0<=m0∧m0<=256)∧(0<=m1∧m1<=256)) (hc : 1<=h.bG∧h.bG<=4) (PY:fV h.Live) (ht:∀ i,uw s h.av h.Live i<=1) : bK h:=by
 refine ⟨⟨s.1,s.2,hz,hv.lW,hv.lG,hv.pX,hv.Ea,hv.JL,hl.ok,?_⟩,hm,hc,PY⟩;have hr:=hv.range
 have key:∀ b∈s.1.aj++s.2.aj++bc h.av++h.Live,(0<=b.At∧1<=pw b.Order)∧b.At+pw b.Order<=256:=fun b hb=>by
  have al:∀ x o:Int,0<=o->o<=4->0<=x->x<256->x % pw o=0->(0<=x∧1<=pw o)∧x+pw o<=256:=fun x o o1 o2 x1 x2 h3=>by
   rcases fH o1 o2 with ⟨e1,e2⟩|⟨e1,e2⟩|⟨e1,e2⟩|⟨e1,e2⟩|⟨e1,e2⟩<;>rw [e2] at h3 ⊢<;>omega
  have z0:=hv.lW.ok;have z1:=hv.lG.ok;unfold fI at z0 z1;rw [adm,adm,adm] at hb;rcases hb with ((hb|hb)|hb)|hb
  ·obtain ⟨⟨f1,f2,f3,f4,f5⟩,_⟩:=qk hv.lW b hb;exact al _ _ f1 f2 (by omega) (by omega) f5
  ·obtain ⟨⟨f1,f2,f3,f4,f5⟩,_⟩:=qk hv.lG b hb;exact al _ _ f1 f2 (by omega) (by omega) f5
  ·unfold bc at hb;obtain ⟨x,hx,hb⟩:=adx.1 hb;obtain ⟨p,hp,rfl⟩:=adv.1 hb;have:=(hl.kr x hx p hp).1
   exact al p 0 (by omega) (by omega) this.1 this.2 (by rw [jm];omega)
  ·obtain ⟨l1,l2,l3,_⟩:=PY.all b hb;exact al _ _ l1.1 l1.2 l2.1 (by omega) l3
 refine tY (bs:=[]) (fun b hb=>(key b (by simpa using hb)).1) (fun b hb=>(key b hb).2) fun i => ?_
 have:=ht i
 unfold uw pB jr at this;simp only [List.nil_append,dW];omega
theorem cU.may {h:Heap} {u:Heap×Int×Int} (a:cU h cpu o fl u) (h0:u.2.2=0) : bK u.1:=by
 obtain ⟨y0,y1,s,c1,c2,c3,c4,⟨t,c5,c6⟩,c7,c8,c9,Yq⟩:=a.kc h0;have lg:=a.at_ h0
 have hm:bK h:=by
  cases a with
  | bad|range|form|room=>simp at h0
  | once hb|gE hb=>exact cq.1 hb
 have xR:(0<=o∧o<=4)∧u.2.1 % pw o=0∧kG h.bG y0.To u.1.av ∧ ∀ b∈h.Live,b.At≠u.2.1:=by
  cases a with
  | bad|range|form|room=>simp at h0
  | @once z0 z1 r hb hr ht hz ha =>
    rw [c1] at hz;simp only [List.cons.injEq,and_true] at hz;obtain ⟨rfl,rfl⟩:=hz;obtain ⟨i,e,h1,h2⟩:=qg c2 (ha.found c2.d.start.vs).2;exact ⟨hr.2,ha.al,ha.ls c2.d.start.vs (c2.ls hm) hr.1 (sI ht).2,c2.th e h2⟩
  | @gE z0 z1 r hb hr ht hz ha h2 =>
    rw [c1] at hz;simp only [List.cons.injEq,and_true] at hz;obtain ⟨rfl,rfl⟩:=hz;obtain ⟨i,e,h1,h3⟩:=ol c2 (h2.found (fO c2.d).vs).2;have:=h2.ls (c:=h.bG) (fO c2.d).vs (kG.nil _ _) hr.1 (sI ht).2
    rw [Aj c2.d] at this;exact ⟨hr.2,h2.al,this,c2.th e h3⟩
 obtain ⟨o1,o2,o3,o4⟩:=xR;have WH:=fun i=>c2.Ro i
 refine qo c4 c3 (by rw [c8,c9];exact o3) (by rw [c7];exact hm.eE) (by rw [c8];exact hm.cpus) ?_ fun i=>by rw [<- (Yq i).1];exact WH i
 rw [c6];exact c2.live.TS ⟨o1,by simp only;omega,o2,c5⟩ o4
theorem Kl {h:Heap} (hm:bK h) (hz:h.bp=[z0,z1]) : bK (oS h z0 z1):=by
 obtain ⟨y0,y1,f⟩:=gC hm;have oB:=f.d.ct;rw [hz] at oB;simp only [List.cons.injEq,and_true] at oB;obtain ⟨rfl,rfl⟩:=oB;refine qo rfl (fO f.d).vs (kG.nil _ _) hm.eE hm.cpus f.live fun i => ?_
 have h1:=f.Ro i;have h2:=xB f i;have h3:jr [] i=0:=rfl
 unfold uw at h1 ⊢;simp only [oS];omega
theorem O6 (l:List Block) (i:Nat) : (eu l i).toNat<=kc l i:=by
 cases e:eu l i with
 | false=>simp
 | true=>have:=mD.1 e;simp;omega
theorem MM (L:List aT) (y:aT) (i:Nat) : jr (iZ L y) i+lq (dh L y) i=jr L i+lq y.ax i:=by
 cases hk:dB L y
 ·rw [sr hk,nM hk,Af];simp [lq,yJ]
 ·obtain ⟨hl,_⟩:=j8 hk;rw [sq hk,iQ hk hl];exact Fq hl y i
theorem jC.MN {h:Heap} (f:jC h z0 z1) (hi:i<h.av.length) : ∀ j,j<=h.av[i].ax.length->(bX (z0,z1) ((h.av[i].ax.take j).map cu)).1.To=z0.To
 | 0,_=>by simp [bX]
 | j+1,hj=>by
   have ih:=((f.inv hi j (by omega)).back (f.G8 hi (show j<_ by omega))).2
   have e:(h.av[i].ax.take (j+1)).map cu=(h.av[i].ax.take j).map cu++[cu h.av[i].ax[j]]:=by
    rw [adk (by omega),adG];rfl
   rw [e,n6];exact ih.trans (f.MN hi j (by omega))
theorem Ft (hz:bV z) (h1:z.aV<=a) (h2:a<z.To) : kU (zM z a):=by
 have hl:=hz.len;have hi:((a-z.aV) / 8).toNat<z.Types.length:=by omega
 unfold zM;rw [adZ,adi hi];exact hz.types _ (adb hi)
theorem MO {h:Heap} (f:jC h z0 z1) (hc : 0<=cpu∧cpu<h.bG) (ha : 0<=a∧a<256) : ((0<=(keyOf z0 z1 cpu a).ga∧(keyOf z0 z1 cpu a).ga<h.bG)∧(0<=(keyOf z0 z1 cpu a).ao∧(keyOf z0 z1 cpu a).ao<=1)∧(0<=(keyOf z0 z1 cpu a).Ty∧(keyOf z0 z1 cpu a).Ty<=2))∧Kj z0.To (keyOf z0 z1 cpu a).ao a:=by
 have h0:=f.d.pX;have hm:=f.d.Ea;have ht:=f.d.JL
 unfold keyOf Kj;by_cases hl:a<z0.To
 ·simp only [if_pos hl];exact ⟨⟨hc,by omega,Ft f.d.lW (by omega) hl⟩,ha,by simp [hl]⟩
 ·simp only [if_neg hl];exact ⟨⟨hc,by omega,Ft f.d.lG (by omega) (by omega)⟩,ha,by simp [hl]⟩
theorem Hw (l:List Int) (k i:Nat) : lq l i=lq (l.take k) i+lq (l.drop k) i:=by rw [<- mS,adh]
theorem tp {h:Heap} (hm:bK h) (hc : 0<=cpu∧cpu<h.bG) (hf:bP h.Live a=true) : bK (iR h cpu a):=by
 obtain ⟨z0,z1,f⟩:=gC hm;obtain ⟨hk,P6⟩:=jB hf;obtain ⟨k,ek⟩ : ∃ k,bE h.Live a=k:=⟨_,rfl⟩;simp only [ek] at hk P6;have hL:=f.ls hm;have JG:=f.live.each k hk;have hN:=f.next hk
 have O7:∀ (s:ao×ao) (bs:List Block),qQ s (z0.aj++z1.aj++bs) -> ∀ i,pB s i<=pB (z0,z1) i+kc bs i:=fun s bs D i=>by
  rw [Ai D.vs i,D.IG i];have:=O6 (z0.aj++z1.aj++bs) i
  rw [dW,dW] at this;exact this
 by_cases ho : 0<h.Live[k].Order
 ·rw [qV f.d.ct hk ek ho];obtain ⟨D,D9⟩:=f.d.start.back hN;refine qo (s:=gB (z0,z1) h.Live[k]) rfl D.vs (by rw [D9];exact hL) hm.eE hm.cpus (f.live.erase k) fun i => ?_
  have h1:=f.Ro i;have h2:=O7 _ _ D i;have h3:=tj hk i;rw [vy] at h2;unfold uw at h1 ⊢;simp only [ss];omega
 ·have e0:h.Live[k].Order=0:=by have:=JG.1;omega
  rw [qW f.d.ct hk ek ho];obtain ⟨hx,hz⟩:=MO f hc (a:=a) (by have:=JG.2.1;omega);obtain ⟨x,ex⟩ : ∃ x,keyOf z0 z1 cpu a=x:=⟨_,rfl⟩;rw [ex] at hx hz ⊢;obtain ⟨q,eq⟩ : ∃ q,dh h.av x=q:=⟨_,rfl⟩;rw [eq]
  have hq8:q.length<=8∧(∀ p∈q,Kj z0.To x.ao p)∧(q≠[] -> ∃ hl:bu h.av x<h.av.length,h.av[bu h.av x].ax=q):=by
   cases hh:dB h.av x
   ·rw [nM hh] at eq;subst eq;exact ⟨by simp,by simp,fun h=>absurd rfl h⟩
   ·obtain ⟨hl,he⟩:=j8 hh;rw [iQ hh hl] at eq;subst eq;refine ⟨(hL.head _ (adb hl)).2.2.2.2,fun p hp => ?_,fun _=>⟨hl,rfl⟩⟩;have:=hL.kr _ (adb hl) p hp
    rwa [he.2.1] at this
  obtain ⟨q1,q2,q3⟩:=hq8
  have Yr:∀ p∈q++[a],Kj z0.To x.ao p:=fun p hp=>by
   rcases adm.1 hp with hp|hp
   ·exact q2 p hp
   ·simp only [List.mem_singleton] at hp;subst hp;exact hz
  have OY:∀ (pg:List Int) (i:Nat),jr (iZ h.av (nl x pg)) i+lq q i=jr h.av i+lq pg i:=fun pg i=>by
   have h1:=MM h.av (nl x pg) i;have WI:jg (nl x pg) x:=⟨rfl,rfl,rfl⟩
   obtain ⟨k1,k2⟩:=kC (L:=h.av) WI
   have:dh h.av (nl x pg)=q:=by
    rw [<- eq];unfold dh;rw [k2];split
    ·rename_i hh;obtain ⟨hl,_⟩:=j8 hh;rw [k1,adZ,adZ,adi hl]
     rfl
    ·rfl
   rw [this] at h1;exact h1
  have h3:=fun i=>tj hk i
  rw [P6,e0] at h3;unfold kE;split
  ·rename_i h9;simp only [List.length_append,List.length_singleton] at h9;have hq:q.length=8:=by omega
   have Ys:(q++[a]).take 4=q.take 4:=aeC (by omega)
   obtain ⟨hl,WJ⟩:=q3 (fun e=>by rw [e] at hq;simp at hq);have D:=f.inv hl 4 (by rw [WJ];omega);have D9:=f.MN hl 4 (by rw [WJ];omega);rw [WJ] at D D9;rw [Ys];refine qo (s:=bX (z0,z1) ((q.take 4).map cu)) rfl D.vs ?_ hm.eE hm.cpus (f.live.erase k) fun i => ?_
   ·simp only [D9];refine hL.Qd ?_ fun p hp=>Yr p (adU hp)
    unfold lB nl;simp only [List.length_drop,List.length_append,List.length_singleton];omega
   ·have h1:=f.Ro i;have h2:=O7 _ _ D i;have h4:=OY ((q++[a]).drop 4) i;have h5:=Hw (q++[a]) 4 i;rw [mS,vA,Ys] at h5;have h6:=h3 i;have h7:lq (q.take 4) i=kc ((q.take 4).map cu) i:=rfl
    unfold uw at h1 ⊢;simp only;omega
  ·rename_i h9;simp only [List.length_append,List.length_singleton] at h9;refine qo (s:=(z0,z1)) rfl f.d.start.vs ?_ hm.eE hm.cpus (f.live.erase k) fun i => ?_
   ·refine hL.Qd ?_ Yr;unfold lB nl;simp only [List.length_append,List.length_singleton];omega
   ·have h1:=f.Ro i;have h4:=OY (q++[a]) i;rw [mS,vA] at h4;have h6:=h3 i;unfold uw at h1 ⊢;simp only;omega
variable {l':List Slab} {A:Option Addr} {w:World}
theorem Km {n:Nat} {l:List Slab} (h:Sl w 3 bh A n l) (h':Sl w 3 bh A n l') : l=l':=by
 have e1:=h.len;have e2:=h'.len;refine ad1 (by omega) fun k h1 h2 => ?_
 obtain ⟨x,hx⟩ : ∃ x,l[k]=x:=⟨_,rfl⟩;obtain ⟨y,hy⟩ : ∃ y,l'[k]=y:=⟨_,rfl⟩;have a:=h.all (i:=k) (by omega);have b:=h'.all (i:=k) (by omega);rw [show l[k]'(h.lt (by omega))=x from hx] at a;rw [show l'[k]'(h'.lt (by omega))=y from hy] at b;have p0:=(a 0 (.int .i64 x.At) rfl).symm.trans (b 0 (.int .i64 y.At) rfl);have p1:=(a 1 (.int .i64 x.aj) rfl).symm.trans (b 1 (.int .i64 y.aj) rfl);have p2:=(a 2 (.int .i64 x.ck) rfl).symm.trans (b 2 (.int .i64 y.ck) rfl);simp at p0 p1 p2;rw [hx,hy];cases x
 cases y
 simp only at p0 p1 p2;rw [p0,p1,p2]
theorem sK (A:Option Addr) (n c:Nat) (l:List Slab) (w:World) (hl:Sl w 3 bh A n l) (f:FuncId) (cap:List Value) [Body prog f] (p:Slab->Bool) (arg:Slab->Value) (qL:∀ x,arg x=(if 3=1 then (bh x)[0]?.getD undef else .agg (bh x).toArray))
 (hf:∀ x∈l,∀ w',Ext w w'->bF prog f ([arg x]++cap) w' fun v _=>v = .bool (p x)) (hn:n<=9223372036854775807) :
 bF prog 116 [.slice A n c,.func (.func f) #[] cap.toArray] w fun v _=>v = .bool (l.any p):=by
 refine aC func116 rfl ntmps116 rfl ?_;have hw:=Ext.refl w;repeat' (first|refine Wz ?_|(refine Wk (lE _ _ _ _ _ (hl.ext hw) f cap p arg qL (fun x hx w1 h1=>hf x hx w1 (hw.trans h1)) hn) ?_;intro v w1 ai hv;subst hv;have hw:=hw.trans ai;clear ai))
 exact ae.bg rfl rfl ⟨_,rfl,hw,by rw [ly]⟩
def tZ (t:Int) (c:aQ) : Bool:=c.ab.any (xX t)
def mE (s:ah) (t:Int) : Bool:=s.aa.any (tZ t)
def dj (s:ah) (a:Int) : Bool:=decide (0<=a∧a % 16=0) && (!mE s (a / 16) && bP s.Heap.Live (a / 16))
theorem MP (w:World) (t:Int) : ∃ p:dS->Bool,∀ x c,GY w x c->p x=tZ t c:=by
 classical
 refine ⟨fun x=>decide (∃ c,GY w x c∧tZ t c=true),fun x c h => ?_⟩;cases e:tZ t c
 ·refine decide_eq_false ?_;rintro ⟨c',h',e'⟩
  unfold tZ at e e';rw [Km h'.aE h.aE,e] at e';cases e'
 ·exact decide_eq_true ⟨c,h,e⟩
theorem O8 (t:Int) (b6:Nat) (x:Slab) (w:World) (h6:aS w b6 3 [.int .i64 t]) :
 bF prog 117 ([.agg (bh x).toArray]++[.pointer (some ⟨b6,0,none⟩)]) w fun v _=>v = .bool (xX t x):=by
 refine aC func117 rfl ntmps117 rfl ?_;refine CW.seq (CW.region (SW.box rfl rfl fun b1 w1 hw lp aZ => ?_));have h6:=h6.ext hw;have Kn:=h6.cell (i:=0) (v := .int .i64 t) rfl;rw [add_zero] at Kn;repeat' (first|refine Wz ?_|refine Wl Kn ?_)
 exact ae.bg rfl rfl ⟨_,rfl,hw,rfl⟩
theorem O9 (t:Int) (b6:Nat) (x:dS) (c:aQ) (w:World) (h6:aS w b6 3 [.int .i64 t]) (hx:GY w x c) (hn:x.ab.n<=9223372036854775807) :
 bF prog 115 ([.agg (fQ x).toArray]++[.pointer (some ⟨b6,0,none⟩)]) w fun v _=>v = .bool (tZ t c):=by
 refine aC func115 rfl ntmps115 rfl ?_;refine CW.seq (CW.region (SW.box rfl rfl fun b2 w1 hw fA au => ?_));have h6:=h6.ext hw;repeat' (first|refine Wz ?_|(refine SW.st (iK (vs:=[.pointer (some ⟨b6,0,none⟩)]) rfl) rfl ?_))
 refine Wk (sK _ _ _ c.ab _ (hx.aE.ext hw) _ [.pointer (some ⟨b6,0,none⟩)] (xX t) (fun x => .agg (bh x).toArray) (fun x=>rfl) (fun x hx w1 kW=>O8 t b6 x w1 (h6.ext kW)) hn) fun v w4 kz hv => ?_
 subst hv;have hw:=hw.trans kz;refine Wz ?_;exact ae.bg rfl rfl ⟨_,rfl,hw,rfl⟩
theorem MQ (x:Block) (a:Int) (w:World) (hx : -4000000000000000000<=x.At∧x.At<=4000000000000000000) (ha : -4000000000000000000<=a∧a<=4000000000000000000) : bF prog 118 ([.agg (aO x).toArray,.int .i64 a]++[]) w fun v _=>v = .int .i64 (x.At-a):=by
 refine aC func118 rfl ntmps118 rfl ?_;refine CW.seq (CW.region (SW.box rfl rfl fun b1 w1 hw lp aZ => ?_));refine Wz ?_;exact ae.bg rfl rfl ⟨_,rfl,hw,rfl⟩
theorem tq (r:da) (s:ah) (a:Int) (w:World) (hr:Bh w r s) (hs:s.small) (hM:aB s) (ha : -9223372036854775808<=a∧a<=9223372036854775807) :
 bF prog 67 [.agg (aP r).toArray,.int .i64 a] w fun v _ => ∃ i:Int,v = .tuple #[.int .i64 i,.bool (dj s a)]∧(dj s a=true->i=(bE s.Heap.Live (a / 16) : Int)):=by
 refine aC func67 rfl ntmps67 rfl ?_;refine CW.seq (CW.region (SW.box rfl rfl fun b2 w1 hw fA au => ?_));obtain ⟨cs,hc⟩:=hr.br;obtain ⟨z1,z2⟩:=hc.len;have m3:=hs.br;have mH:=hr.heap.live.len;have m5:=hs.heap.live;by_cases h0 : 0<=a
 ·have WK:a.tmod 16=a % 16:=adP h0
  by_cases h1:a % 16=0
  ·obtain ⟨t,ht⟩ : ∃ t,a / 16=t:=⟨_,rfl⟩;have UX : 0<=t∧t<=1000000000000000000:=by omega
   obtain ⟨p,hp⟩:=MP w t;have p9:=mR (p:=p) (q:=tZ t) (l:=cs) (m:=s.aa) (by omega) fun k h1 h2=>hp _ _ (hc.each.get k h1 h2)
   have hP:dj s a=(!mE s t && bP s.Heap.Live t):=by unfold dj;rw [decide_eq_true ⟨h0,h1⟩,ht,ae8]
   refine Wz ?_;refine SW.alloc rfl fun b6 w2 bt UR ar => ?_
   have Vz:=hw.up UR
   (obtain ⟨hw,au⟩:=df bt hw au);skip;refine Wb (i:=0) ar fun w3 bQ hg => ?_
   have hG:=ar.gr hg;have hw:=hw.own Vz hg;(have au:=au.aK hG rfl);have ar:aS w3 b6 3 [.int .i64 t]:=by rw [<- ht];exact bQ
   have Kn:=ar.cell (i:=0) (v := .int .i64 t) rfl;rw [add_zero] at Kn;clear bQ hg hG;repeat' (first|refine Wz ?_|(refine SW.st (iK (vs:=[.pointer (some ⟨b6,0,none⟩)]) rfl) rfl ?_))
   refine Wk (mP _ _ _ cs _ (hc.row.ext hw) _ [.pointer (some ⟨b6,0,none⟩)] p (fun x => .agg (fQ x).toArray) (fun x=>rfl) (fun x hx w1 kW=>by
    obtain ⟨k,hk,rfl⟩:=ade hx;have bW:k<s.aa.length:=by omega
    have j3:=hc.each.get k hk bW;have q1:=(hs.each _ (adb bW)).aE;have q2:=j3.aE.len;rw [hp _ _ j3];exact O9 t b6 _ _ w1 (ar.ext kW) (j3.ext (hw.trans kW)) (by omega)) (by omega)) fun v w4 kz hv => ?_
   subst hv;rw [p9.2,show s.aa.any (tZ t)=mE s t from rfl];(obtain ⟨hw,au,ar⟩:=cn kz hw au ar);have Kn:=ar.cell (i:=0) (v := .int .i64 t) rfl;rw [add_zero] at Kn;cases hi:mE s t
   ·rw [hi] at hP;simp only [Bool.not_false,Bool.true_and] at hP;repeat' (first|refine Wz ?_|refine Wl Kn ?_)
    refine Wk (jz _ _ _ s.Heap.Live t _ (hr.heap.live.ext hw) 118 (fun x hx w1 kW=>by
     obtain ⟨k,hk,rfl⟩:=ade hx;obtain ⟨l1,l2,l3,l4⟩:=hM.heap.live.each k hk;exact MQ _ t w1 (by omega) (by omega)) (kQ hM.heap.live) (by omega)) fun v w5 oC hv => ?_
    subst hv;(obtain ⟨hw,au,ar⟩:=cn oC hw au ar);refine Wz ?_;exact ae.dm rfl rfl rfl ⟨_,rfl,hw,(bE s.Heap.Live t:Int),by rw [hP];rfl,fun _=>by rw [ht]⟩
   ·rw [hi] at hP;simp only [Bool.not_true,Bool.false_and] at hP;refine Wz ?_;exact ae.dm rfl rfl rfl ⟨_,rfl,hw,0,by rw [hP],fun h=>by rw [hP] at h;cases h⟩
  ·have hP:dj s a=false:=by unfold dj;rw [decide_eq_false (by omega)];rfl
   refine Wz ?_;exact ae.dm rfl rfl rfl ⟨_,rfl,hw,0,by rw [hP],fun h=>by rw [hP] at h;cases h⟩
 ·have hP:dj s a=false:=by unfold dj;rw [decide_eq_false (by omega)];rfl
  refine Wz ?_;exact ae.dm rfl rfl rfl ⟨_,rfl,hw,0,by rw [hP],fun h=>by rw [hP] at h;cases h⟩
def pC (s:ah) (a:Int) : Int:=if dj s a=true then oF s.Heap.Live (a / 16) else -1
variable {s:ah}
inductive ri (s:ah) (a:Int) : Option Nat->Prop where
 | no {u:Int×Int×Int} (hF:iG s a u) (hn:∀ (i:Nat) (hi:i<s.aa.length),u.2.2=0->u.1=(i:Int)->oX s.aa[i]=false) : ri s a none
 | yes {i:Nat} {k:Int} (hF:iG s a ((i:Int),k,0)) (hi:i<s.aa.length) (hm:oX s.aa[i]=true) : ri s a (some i)
theorem ri.dq {u v:Option Nat} (h:ri s a u) (hv:ri s a v) : u=v:=by
 cases h with
 | no hF hn=>cases hv with
   | no=>rfl
   | @yes i k Bi hi hm =>
     have e:=hF.dq Bi;subst e;rw [hn i hi rfl rfl] at hm;cases hm
 | @yes i k hF hi hm=>cases hv with
   | no Bi hn =>
     have e:=hF.dq Bi;subst e;rw [hn i hi rfl rfl] at hm;cases hm
   | @yes i' k' Bi po mY =>
     have e:=hF.dq Bi;simp only [Prod.mk.injEq] at e;have:i=i':=by omega
     rw [this]
theorem iG.MR {u:Int×Int×Int} (h:iG s a u) (h0:u.2.2=0) : ∃ (i:Nat) (hi:i<s.aa.length),u.1=(i:Int):=by
 cases h with
 | bad=>simp at h0
 | none=>simp at h0
 | free=>simp at h0
 | @hit i k out h hF hC hm=>exact ⟨i,hF.hi,rfl⟩
theorem iG.code {u:Int×Int×Int} (h:iG s a u) (hq:fW s=true) : u.2.2=0∨u.2.2=4:=by
 cases h with
 | bad h=>rw [h] at hq;cases hq
 | none=>exact .inr rfl
 | free=>exact .inr rfl
 | hit=>exact .inl rfl
inductive jJ (s:ah) (a:Int) : Int×Int->Prop where
 | bad (h:fW s=false) : jJ s a (0,8)
 | obj {i:Nat} (h:fW s=true) (hi:i<s.aa.length) (ho:ri s a (some i)) : jJ s a (s.aa[i].az,0)
 | whole (h:fW s=true) (ho:ri s a none) (hw:dj s a=true) : jJ s a (16*pw (pC s a),0)
 | no (h:fW s=true) (ho:ri s a none) (hw:dj s a=false) : jJ s a (0,4)
theorem jJ.dq {u v:Int×Int} (h:jJ s a u) (k:jJ s a v) : u=v:=by
 cases h with
 | bad h=>cases k with
   | bad=>rfl
   | obj h'|whole h'|no h'=>rw [h] at h';cases h'
 | obj h hi ho=>cases k with
   | bad h'=>rw [h] at h';cases h'
   | obj h' po nQ=>cases ho.dq nQ;rfl
   | whole _ nQ|no _ nQ=>cases ho.dq nQ
 | whole h ho hw=>cases k with
   | bad h'=>rw [h] at h';cases h'
   | obj h' po nQ=>cases ho.dq nQ
   | whole=>rfl
   | no _ _ ni=>rw [hw] at ni;cases ni
 | no h ho hw=>cases k with
   | bad h'=>rw [h] at h';cases h'
   | obj h' po nQ=>cases ho.dq nQ
   | whole _ _ ni=>rw [hw] at ni;cases ni
   | no=>rfl
theorem Cs (hM:aB s) (h:dj s a=true) : ∃ hk:bE s.Heap.Live (a / 16)<s.Heap.Live.length,pC s a=s.Heap.Live[bE s.Heap.Live (a / 16)].Order∧0<=pC s a∧pC s a<=4:=by
 have hf:bP s.Heap.Live (a / 16)=true:=by
  unfold dj at h;simp only [Bool.and_eq_true] at h;exact h.2.2
 obtain ⟨hk,_⟩:=jB hf;have e:=zN hf hk;obtain ⟨l1,l2,l3,l4⟩:=hM.heap.live.each _ hk;unfold pC;rw [if_pos h,e];exact ⟨hk,rfl,by omega,by omega⟩
theorem MS (r:da) (s:ah) (a:Int) (w:World) (hr:Bh w r s) (hf:s.cK) (ha : -9223372036854775808<=a∧a<=9223372036854775807) (hS:iC w) :
 bF prog 33 [.agg (aP r).toArray,.int .i64 a] w fun v _ => ∃ u,jJ s a u∧v = .tuple #[.int .i64 u.1,.int .i64 u.2]:=by
 refine aC func33 rfl ntmps33 rfl ?_;refine CW.seq (CW.region (SW.box rfl rfl fun b2 w1 hw fA au => ?_));have hs:=hf.small;obtain ⟨q,hq⟩ : ∃ q,fW s=q:=⟨_,rfl⟩
 have c1:∀ w',Ext w w'->bF prog 46 [.agg (aP r).toArray] w' fun v _=>v = .int .i64 (if q then 0 else 8):=fun w' hx=>by
  have:=mr r s w' (hr.ext hx) hf
  rwa [hq] at this
 cases q
 ·simp only [Bool.false_eq_true,if_false] at c1;repeat' (first|refine Wz ?_|(refine Wk (c1 _ hw) ?_;intro v w1 ai hv;subst hv;obtain ⟨hw,au⟩:=df ai hw au;clear ai))
  exact ae.dm rfl rfl rfl ⟨_,rfl,hw,_,.bad hq,rfl⟩
 ·simp only [if_true] at c1;have hM:=iS.1 hq;obtain ⟨cs,hc⟩:=hr.br;obtain ⟨z1,z2⟩:=hc.len;have hA:=hc.row.base;repeat' (first|refine Wz ?_|(refine Wk (c1 _ hw) ?_;intro v w1 ai hv;subst hv;obtain ⟨hw,au⟩:=df ai hw au;clear ai))
  refine Wk (vt r s a _ (hr.ext hw) hf ha) fun v w5 oC hv => ?_
  obtain ⟨u,hu,rfl⟩:=hv;(obtain ⟨hw,au⟩:=df oC hw au);clear c1;by_cases h0:u.2.2=0
  ·obtain ⟨i,hi,Rd⟩:=hu.MR h0;obtain ⟨i',k,e⟩:=u;simp only at h0 Rd;subst h0 Rd;simp only [Cj];have cy:i<r.aa.n:=by omega
   have Hx:i<cs.length:=by omega
   have j3:=hc.each.get i Hx hi;have q1:=j3.names.len;have q2:=(hs.each _ (adb hi)).names;have eS:=j3.size;obtain ⟨bm,Lq⟩ : ∃ bm,oX s.aa[i]=bm:=⟨_,rfl⟩
   have c2:∀ w',Ext w w'->bF prog 72 [.agg (fQ cs[i]).toArray] w' fun v _=>v = .bool bm:=fun w' hx=>by
    have:=zY cs[i] _ w' (j3.ext hx) (by omega) (hS.ext hx)
    rwa [Lq] at this
   cases bm
   ·have hO:ri s a none := .no hu fun i2 Rn _ e=>by
     have e:i=i2:=by simp only at e;omega
     subst e;exact Lq
    repeat' (first|refine Wz ?_|refine Wo hw ((hc.row.all cy)) ?_|(refine Wk (c2 _ hw) ?_;intro v w1 ai hv;subst hv;obtain ⟨hw,au⟩:=df ai hw au;clear ai))
    refine Wk (tq r s a _ (hr.ext hw) hs hM ha) fun v w6 Fj hv => ?_
    obtain ⟨ix,rfl,rU⟩:=hv;(obtain ⟨hw,au⟩:=df Fj hw au);cases hW:dj s a
    ·repeat' (first|refine Wz ?_|(refine CW.fY rfl ?_))
     exact ae.dm rfl rfl rfl ⟨_,rfl,hw,_,.no hq hO hW,rfl⟩
    ·obtain ⟨hk,e1,e2,e3⟩:=Cs hM hW;obtain rfl:=rU hW;have JG:=hr.heap.live.len;have Yd:=hr.heap.live.base;have gp:bE s.Heap.Live (a / 16)<r.Heap.Live.n:=by omega
     have g1:=hr.heap.live.jR gp (j:=1) (u := .int .i64 (pC s a)) (by rw [e1];rfl);have hp:=cQ e2 e3;repeat' (first|refine Wz ?_|(refine CW.gu rfl ?_)|refine Wn hw g1 ?_|(refine SW.st (fG (r:=16*pw (pC s a)) rfl rfl (by omega) (by omega) (by simp [pw]) (by omega) (by omega)) rfl ?_))
     exact ae.dm rfl rfl rfl ⟨_,rfl,hw,_,.whole hq hO hW,rfl⟩
   ·have hO:ri s a (some i) := .yes hu hi Lq
    repeat' (first|refine Wz ?_|refine Wo hw ((hc.row.all cy)) ?_|refine Wn hw (hc.row.jR cy (j:=1) (u := .int .i64 cs[i].az) rfl) ?_|(refine Wk (c2 _ hw) ?_;intro v w1 ai hv;subst hv;obtain ⟨hw,au⟩:=df ai hw au;clear ai))
    exact ae.dm rfl rfl rfl ⟨_,rfl,hw,_,.obj hq hi hO,by rw [eS]⟩
  ·obtain ⟨i',k,e⟩:=u;simp only at h0;simp only [Cj];have hO:ri s a none := .no hu fun i hi h=>absurd h h0
   obtain rfl:e=4:=(hu.code hq).resolve_left h0;refine Wz ?_;refine Wk (tq r s a _ (hr.ext hw) hs hM ha) fun v w6 Fj hv => ?_
   obtain ⟨ix,rfl,rU⟩:=hv;(obtain ⟨hw,au⟩:=df Fj hw au);cases hW:dj s a
   ·refine Wz ?_;exact ae.dm rfl rfl rfl ⟨_,rfl,hw,_,.no hq hO hW,rfl⟩
   ·obtain ⟨hk,e1,e2,e3⟩:=Cs hM hW;obtain rfl:=rU hW;have JG:=hr.heap.live.len;have Yd:=hr.heap.live.base;have gp:bE s.Heap.Live (a / 16)<r.Heap.Live.n:=by omega
    have g1:=hr.heap.live.jR gp (j:=1) (u := .int .i64 (pC s a)) (by rw [e1];rfl);have hp:=cQ e2 e3;repeat' (first|refine Wz ?_|refine Wn hw g1 ?_|(refine SW.st (fG (r:=16*pw (pC s a)) rfl rfl (by omega) (by omega) (by simp [pw]) (by omega) (by omega)) rfl ?_))
    exact ae.dm rfl rfl rfl ⟨_,rfl,hw,_,.whole hq hO hW,rfl⟩
variable {u:ah×Int}
def vC (c:aQ) : ByteArray:=c.Names.getD 0 ⟨#[]⟩
def rj (s:ah) (h:Heap) : ah:=⟨s.Words,h,s.aa⟩
def me (s:ah) (cpu:Int) : Prop:=0<=cpu∧cpu<s.Heap.bG
inductive k7 (s:ah) (cpu a:Int) : ah×Int->Prop where
 | bad (h:fW s=false) : k7 s cpu a (.zero,8)
 | range (h:fW s=true) (hc : ¬ me s cpu) : k7 s cpu a (.zero,1)
 | obj {i:Nat} {u:ah×Int} (h:fW s=true) (hc:me s cpu) (hi:i<s.aa.length) (ho:ri s a (some i)) (hp:rb s (vC s.aa[i]) cpu a u) : k7 s cpu a u
 | no (h:fW s=true) (hc:me s cpu) (ho:ri s a none) (hw:dj s a=false) : k7 s cpu a (.zero,4)
 | whole (h:fW s=true) (hc:me s cpu) (ho:ri s a none) (hw:dj s a=true) : k7 s cpu a (rj s (fh s.Heap cpu (a / 16)).2,0)
theorem k7.dq {v:ah×Int} (x:k7 s cpu a u) (y:k7 s cpu a v) : u=v:=by
 cases x with
 | bad h=>cases y with
   | bad=>rfl
   | range h'|obj h'|no h'|whole h'=>rw [h] at h';cases h'
 | range h hc=>cases y with
   | bad h'=>rw [h] at h';cases h'
   | range=>rfl
   | obj _ g7|no _ g7|whole _ g7=>exact absurd g7 hc
 | obj h hc hi ho hp=>cases y with
   | bad h'=>rw [h] at h';cases h'
   | range _ g7=>exact absurd hc g7
   | obj _ _ _ nQ GJ=>cases ho.dq nQ;exact hp.dq GJ
   | no _ _ nQ|whole _ _ nQ=>cases ho.dq nQ
 | no h hc ho hw=>cases y with
   | bad h'=>rw [h] at h';cases h'
   | range _ g7=>exact absurd hc g7
   | obj _ _ _ nQ=>cases ho.dq nQ
   | no=>rfl
   | whole _ _ _ ni=>rw [hw] at ni;cases ni
 | whole h hc ho hw=>cases y with
   | bad h'=>rw [h] at h';cases h'
   | range _ g7=>exact absurd hc g7
   | obj _ _ _ nQ=>cases ho.dq nQ
   | no _ _ _ ni=>rw [hw] at ni;cases ni
   | whole=>rfl
theorem fe (h:dj s a=true) : bP s.Heap.Live (a / 16)=true∧0<=a∧a % 16=0:=by
 unfold dj at h;simp only [Bool.and_eq_true,decide_eq_true_eq] at h;exact ⟨h.2.2,h.1.1,h.1.2⟩
theorem Ko (hM:aB s) (hc:me s cpu) (hw:dj s a=true) : (fh s.Heap cpu (a / 16)).1=0:=by
 rw [nz (cq.2 hM.heap) hc (fe hw).1]
theorem MT (hf:s.cK) (hi:i<s.aa.length) : (vC s.aa[i]).size<=140737488351232:=by
 unfold vC;rcases adu s.aa[i].Names.length with h|h
 ·rw [List.length_eq_zero_iff.1 h];decide
 ·have:=hf.names _ (adb hi) _ (adb h)
  simpa [h] using this
variable {j:Nat}
theorem Ct (h:iC w) : ∀ j v,(kL.map (Value.int .i64))[j]?=some v->w.cell? ((⟨0,0,none⟩ : Addr).add j)=some v:=fun j v hv=>by
 rcases adL j 6 with hj|hj
 ·have:=h.sl.one (i:=j) (u:=v) hj (by
   rcases (show j=0∨j=1∨j=2∨j=3∨j=4∨j=5 by omega) with rfl|rfl|rfl|rfl|rfl|rfl<;>simpa [kL,bw] using hv)
  simpa using this
 ·rw [adY (by simp [kL];omega)] at hv;cases hv
def kP (j:Nat) : Int:=(2:Int) ^ j
theorem MU (h:j<6) : kP j∈kL∧kL[j]?=some (kP j)∧1<=kP j∧kP j<=32:=by
 unfold kP;rcases (show j=0∨j=1∨j=2∨j=3∨j=4∨j=5 by omega) with rfl|rfl|rfl|rfl|rfl|rfl<;>decide
theorem Pa (j:Nat) : kP (j+1)=2*kP j:=by unfold kP;rw [Int.pow_succ,aej]
theorem Cu (h:j<6) : (fB (kP j)).size<=140737488351232:=by
 unfold kP;rcases (show j=0∨j=1∨j=2∨j=3∨j=4∨j=5 by omega) with rfl|rfl|rfl|rfl|rfl|rfl<;>decide
variable {s':ah} {cs':List dS} {m n':Nat} {A':Option Addr}
structure SJ (G:Nat->Prop) (w:World) (lo:Nat) (r:da) (s:ah) (cs:List dS) : Prop where
 ints:∃ m1 m2,lo<=m1∧jM w m1 m2 r.Heap s.Heap ∧ ∀ g,((∃ u∈cs,aJ u.ap.A u.ap.c=some g)∨G g)->(g<m1∨m2<=g)∧aJ r.Words.A r.Words.c≠some g
 sep:∀ u∈cs,∀ g,G g->aJ u.ap.A u.ap.c≠some g
section
variable {w w':World} {lo t:Nat} {r:da} {s:ah} {cs:List dS} {i:Nat} {p:Heap×aQ} {G:Nat->Prop}
theorem SJ.rows (h:SJ G w lo r s cs) (hh:s'.Heap=s.Heap) (hc:∀ u∈cs',∃ v∈cs,aJ u.ap.A u.ap.c=aJ v.ap.A v.ap.c) : SJ G w lo r s' cs':=by
 obtain ⟨m1,m2,h1,h2,h3⟩:=h.ints;refine ⟨⟨m1,m2,h1,by rw [hh];exact h2,fun g e=>h3 g ?_⟩,fun u hu => ?_⟩
 ·rcases e with ⟨u,hu,e⟩|e
  ·obtain ⟨v,hv,e2⟩:=hc u hu;exact .inl ⟨v,hv,e2 ▸ e⟩
  ·exact .inr e
 ·obtain ⟨v,hv,e2⟩:=hc u hu;rw [e2];exact h.sep v hv
theorem SI.sj (h:SI w lo r s cs) : SJ (fun _=>False) w lo r s cs:=by
 obtain ⟨m1,m2,h1,h2,h3,h4,h5⟩:=h.ints;refine ⟨⟨m1,m2,h1,h4,fun g e => ?_⟩,fun u hu g e=>e.elim⟩;rcases e with ⟨u,hu,e⟩|e
 ·obtain ⟨j,hj,rfl⟩:=ade hu;have:=(h5.get j hj (by rw [<- h5.len];exact hj)).ba.a9 g e
  exact ⟨.inr this,fun e2=>by have:=h3 g e2;omega⟩
 ·exact e.elim
theorem SJ.ext (h:SJ G w lo r s cs) (hx:Ext w w') : SJ G w' lo r s cs:=by
 obtain ⟨m1,m2,h1,h2,h3⟩:=h.ints;exact ⟨⟨m1,m2,h1,h2.ext hx,h3⟩,h.sep⟩
theorem SJ.aK (h:SJ G w lo r s cs) (hG:rL w w' t) (bJ:(Nat.beq t 3 || (Nat.beq t 147 || (Nat.beq t 117 || Nat.beq t 159)))=false) : SJ G w' lo r s cs:=by
 obtain ⟨m1,m2,h1,h2,h3⟩:=h.ints;exact ⟨⟨m1,m2,h1,h2.aK hG bJ,h3⟩,h.sep⟩
theorem SJ.ne (h:SJ G w lo r s cs) {g:Nat} (hg:G g) (hi:i<cs.length) : some g≠aJ cs[i].ap.A cs[i].ap.c:=fun e=>h.sep _ (adb hi) g hg e.symm
theorem sD.act {l':List Int} (h:SX w lo r (bI s i p) cs) (hJ:SJ G w lo r (bI s i p) cs) (hi:i<cs.length) (po:i<s.aa.length) (hO:Own w' lo 3 1 bw cs[i].ap.A cs[i].ap.n cs[i].ap.c l') (hg:w.grownBy w' (aJ cs[i].ap.A cs[i].ap.c)) :
 SX w' lo r (bI s i (p.1,⟨p.2.Names,p.2.az,p.2.bL,p.2.Order,p.2.ab,l'⟩)) cs∧SJ G w' lo r (bI s i (p.1,⟨p.2.Names,p.2.az,p.2.bL,p.2.Order,p.2.ab,l'⟩)) cs:=by
 obtain ⟨m1,m2,h1,h2,h3⟩:=hJ.ints;have hc:=h.get hi po;have hG:=hc.ba.gr hg;have IT:cs.set i cs[i]=cs:=adW hi
 have hh:jM w' m1 m2 r.Heap p.1:=by
  cases e:aJ cs[i].ap.A cs[i].ap.c with
  | none=>rw [e] at hg;exact h2.aK (⟨none,hg,fun k hk=>by cases hk⟩ : rL w w' 44) rfl
  | some g=>rw [e] at hg;exact h2.IS hg hG (h3 g (.inl ⟨_,adb hi,e⟩)).1
 have TG:Own w' lo 3 1 bw r.Words.A r.Words.n r.Words.c s.Words:=h.words.apart hg fun g e e2=>(h3 g (.inl ⟨_,adb hi,e2⟩)).2 e
 refine ⟨⟨TG,hh.own.low h1,h.row.aK hG rfl,?_,h.pair⟩,⟨⟨m1,m2,h1,hh,h3⟩,hJ.sep⟩⟩;have:=gg.setAt (x:=cs[i]) (R':=oE w' lo) h.each (i:=i) (y:=⟨p.2.Names,p.2.az,p.2.bL,p.2.Order,p.2.ab,l'⟩) ⟨hc.size,hc.per,hc.order,hc.names.aK hG rfl,hc.aE.aK hG rfl,hO⟩ fun j h1 h2 ja ho=>⟨ho.size,ho.per,ho.order,ho.names.aK hG rfl,ho.aE.aK hG rfl,ho.ba.grown hg (qb (.inl (od h.pair hi h1 ja).ba))⟩
 rw [IT] at this;simpa [bI] using this
theorem sD.fresh {X:gb} {l':List Int} {H:jy} {h':Heap} (h:SX w lo r (bI s i p) cs) (dD:lo<=m) (hm:∀ u∈cs,∀ g,aJ u.ap.A u.ap.c=some g->g<m) (Yt:∀ g,G g->g<m ∧ ∀ u∈cs,aJ u.ap.A u.ap.c≠some g) (hX:Own w m 3 1 bw X.A X.n X.c l') (hH:jH w m H h') :
 SX w lo ⟨X,H,r.aa⟩ (bI ⟨l',s.Heap,s.aa⟩ i (h',p.2)) cs∧SJ G w lo ⟨X,H,r.aa⟩ (bI ⟨l',s.Heap,s.aa⟩ i (h',p.2)) cs:=by
 have key:∀ g,((∃ u∈cs,aJ u.ap.A u.ap.c=some g)∨G g)->g<m:=fun g e=>by
  rcases e with ⟨u,hu,e⟩|e
  ·exact hm u hu g e
  ·exact (Yt g e).1
 refine ⟨⟨hX.low dD,hH.low dD,h.row,h.each,h.pair⟩,⟨m,w.heap.size,dD,hH.vq,fun g e=>⟨.inl (key g e),fun e2 => ?_⟩⟩,fun u hu g e=>(Yt g e).2 u hu⟩;have:=key g e
 have:=hX.a9 g e2
 omega
theorem sD.Cv {c':Nat} (h:SX w lo r (bI s i p) cs) (hi:i<cs.length) (po:i<s.aa.length) (hO:Own w' lo 111 3 bh A' n' c' l') (hg:w.grownBy w' (aJ cs[i].ab.A cs[i].ab.c)) (kq:∀ k,aJ A' c'=some k->aJ cs[i].ab.A cs[i].ab.c=some k∨w.heap.size<=k) :
 sD w' lo r (bI s i (p.1,⟨p.2.Names,p.2.az,p.2.bL,p.2.Order,l',p.2.ap⟩)) cs (cs.set i ⟨cs[i].Names,cs[i].az,cs[i].bL,cs[i].Order,⟨A',n',c'⟩,cs[i].ap⟩):=by
 have hc:=h.get hi po;have hG:=hc.aE.gr hg;refine ⟨h.words.aK hG rfl,h.heap.aK hG rfl,h.row.aK hG rfl,?_,?_⟩
 ·have:=gg.setAt (R':=oE w' lo) (i:=i) (x:=⟨cs[i].Names,cs[i].az,cs[i].bL,cs[i].Order,⟨A',n',c'⟩,cs[i].ap⟩) (y:=⟨p.2.Names,p.2.az,p.2.bL,p.2.Order,l',p.2.ap⟩) h.each ⟨hc.size,hc.per,hc.order,hc.names.aK hG rfl,hO,hc.ba.aK hG rfl⟩ fun j h1 h2 ja ho=>⟨ho.size,ho.per,ho.order,ho.names.aK hG rfl,ho.aE.grown hg (qb (.inl (od h.pair hi h1 ja).aE)),ho.ba.aK hG rfl⟩
  simpa [bI] using this
 ·refine Fe h.pair fun j hj ja => ?_
  have hp:=od h.pair hi hj ja;have eX:=(h.each.get j hj (by rw [<- h.each.len];exact hj)).aE.lt_size
  have ha:apart ⟨A',n',c'⟩ cs[j].ab:=fun k e e2=>by
   rcases kq k e with e3|e3
   ·exact hp.aE k e3 e2
   ·have:=eX k e2;omega
  exact ⟨⟨hp.names,ha,hp.ba⟩,⟨jn hp.names,jn ha,jn hp.ba⟩⟩
theorem sD.IY (h:SX w lo r s cs) : ∀ u∈cs,∀ g,aJ u.ap.A u.ap.c=some g->g<w.heap.size:=fun u hu g e=>by
 obtain ⟨j,hj,rfl⟩:=ade hu;exact (h.each.get j hj (by rw [<- h.each.len];exact hj)).ba.lt_size g e
end
set_option maxHeartbeats 4000000 in
theorem sL (A:Option Addr) (n c lo:Nat) (l:List Slab) (w:World) (hO:Own w lo 111 3 bh A n c l) (i:Nat) (hi:i<=n) (x:Slab) (b:Nat) (hB:aS w b 111 (bh x)) (bJ:aJ A c≠some b) (hn:(n+1)*24<=140737488355328) (dD:lo<=w.heap.size) :
 iO prog 179 [.slice A n c,.int .i64 (i:Int),.slice (some ⟨b,0,none⟩) 1 1] w fun v w' => ∃ A' c',v = .slice A' (n+1) c'∧Own w' lo 111 3 bh A' (n+1) c' (aN l i x)∧w.grownBy w' (aJ A c) ∧ ∀ k,aJ A' c'=some k->aJ A c=some k∨w.heap.size<=k:=by
 refine dl func179 rfl ntmps179 rfl ?_;have hle:=hO.le;have mH:=hO.len;have hA:=hO.sl.base;have hw:=Ext.refl w;have kW:Sl w 3 bh (some ⟨b,0,none⟩) 1 [x]:=aS.ue hB
 have nW:(bh x).length=3:=rfl
 have pf:∀ q:List Slab,(q.flatMap bh).length=q.length*3:=fun q=>aW q
 have pe:∀ (q:List Slab) (v:Value),v∈q.flatMap bh->v.oneCell'=true:=fun q v hv=>by
  obtain ⟨u,_,hu⟩:=adx.1 hv;exact iy.one (enc:=bh) u v hu
 by_cases cy:i=n
 ·subst cy;repeat' (first|refine Wz ?_|(refine SW.st (bd (k:=i) rfl rfl (by omega) (by omega)) rfl ?_))
  all_goals try omega
  refine SW.yF hO kW dD (by omega) rfl rfl rfl (by omega) (by omega) fun A2 c2 w2 xq => ?_
  have j1:Own w2 lo 111 3 bh A2 (i+1) c2 (l++[x])∧w.grownBy w2 (aJ A c) ∧ ∀ k,aJ A2 c2=some k->aJ A c=some k∨w.heap.size<=k:=by
   rcases xq with ⟨rfl,rfl,h1,h2⟩|⟨h1,h2⟩
   ·exact ⟨h1,h2,fun k e => .inl e⟩
   ·exact ⟨h1.low dD,(aD (Ext.refl w) h2 (adg _) (fun k e=>by cases e)).gr _,fun k e => .inr (h1.a9 k e)⟩
  obtain ⟨bj,hg,kq⟩:=j1;refine Wz ?_;refine ae.bg rfl rfl ⟨_,rfl,A2,c2,rfl,?_,hg,kq⟩;have e:aN l i x=l++[x]:=by unfold aN;rw [adr (by omega),aen (by omega)];simp
  rw [e];exact bj
 ·by_cases ky:n+1<=c
  ·obtain ⟨g,rest,rfl,h1,h2,h3,h4,h5,h6⟩:=hO.opened (by omega);have D7:g≠b:=fun e=>bJ (by rw [h6,e])
   have es:l.flatMap bh++rest=(l.take i).flatMap bh++((l.drop i).flatMap bh++rest):=by rw [<- adj,<- adt,adh]
   have e1:((l.take i).flatMap bh).length=i*3:=by rw [pf];simp;omega
   have e2:((l.drop i).flatMap bh).length=(n-i)*3:=by rw [pf];simp [mH]
   have lU:=hO.sl.drop i c (by omega) (by omega);rw [if_neg (by omega)] at lU;rw [es] at h2
   have Jt:∀ w',Ext w w'->(Extern.SlicesOverlaps.overlaps #[105,105] #[4] #[.slice (some ⟨b,0,none⟩) 1 1,.slice (if c=i+1 then (some ⟨g,0,none⟩) else (some (⟨g,0,none⟩ : Addr)).map (·.add ((i+1)*3))) (n+1-(i+1)) (c-(i+1))]).run prog w' = .ok (.bool false) w':=fun w' hx=>by
    rw [if_neg (by omega),aeV,dc];have b1:=hB.ext hx;have b2:=h2.ext hx;unfold aS at b1 b2
    exact Lib.run_overlaps_apart w' 105 4 111 (bz.oz (t:=105)) 3 (fun w0=>run_sizeOf (bz.size (t:=105)) w0) ⟨b,0,none⟩ ⟨g,(i+1)*3,none⟩ 1 1 _ _ (fun e=>D7 e.symm) 111 111 (bh x).toArray.size ((l.take i).flatMap bh++((l.drop i).flatMap bh++rest)).toArray.size
     (by simp only [World.shape?,b1]) (by simp only [World.shape?,b2]) (by simp [e1,e2];omega) (by simp [World.frozen?,b1]) (by simp [World.frozen?,b1])
   repeat' (first|refine Wz ?_|(refine CW.gu rfl ?_)|(refine SW.st (bd (k:=i) rfl rfl (by omega) (by omega)) rfl ?_)|(refine SW.st (dn (k:=n+1) rfl rfl (by omega)) rfl ?_)|(refine SW.st (bd (k:=i+1) rfl rfl (by omega) (by omega)) rfl ?_)|(refine SW.entry func184 (by kernel_rfl) (by kernel_rfl) (by kernel_rfl) (e:=Extern.SlicesOverlaps.overlaps #[105,105] #[4]) (by kernel_rfl) rfl rfl (Jt _ hw) ?_))
   all_goals try omega
   have oD:((n-i)+1)*3<=((l.drop i).flatMap bh++rest).length:=by rw [adp,e2];omega
   have e4:(l.drop i).flatMap bh++rest=((l.drop i).flatMap bh++rest).take 3++(((l.drop i).flatMap bh++rest).drop 3).take ((n-i)*3)++((l.drop i).flatMap bh++rest).drop (3+(n-i)*3):=by
    rw [adj,<- aeg,adh,adh]
   generalize GG:((l.drop i).flatMap bh++rest).take 3=D1 at e4
   generalize GH:(((l.drop i).flatMap bh++rest).drop 3).take ((n-i)*3)=D2 at e4
   generalize GI:((l.drop i).flatMap bh++rest).drop (3+(n-i)*3)=D3 at e4
   have f1:D1.length=3:=by rw [<- GG];simp only [List.length_take];omega
   have f2:D2.length=(n-i)*3:=by rw [<- GH];simp only [List.length_take,List.length_drop];omega
   have f3:D3.length+3=rest.length:=by rw [<- GI];simp only [List.length_drop,List.length_append,e2];omega
   rw [e4] at h2;refine CW.any 8 mixed (dk (by kernel_rfl)) rfl fun w1 ai aG => ?_
   obtain ⟨hw,hO,hB,h2⟩:=dv ai hw hO hB h2;clear ai;refine Wa ?_;refine Wu 4 aG rfl (bd (k:=i+1) rfl rfl (by omega) (by omega)) ?_;refine Wa ?_;refine Wu 7 aG rfl (bd (k:=i) rfl rfl (by omega) (by omega)) ?_;refine SA.done (by kernel_rfl) ?_;refine SW.copy (k:=n-i) ((i+1)*3) ((l.drop i).flatMap bh) h2 rfl rfl rfl (by omega) e2 (by simp only [List.length_append,e1,e2,f1,f2];omega) (fun h0=>⟨by rw [if_neg (by omega)];simp [dc],(⟨g,0,none⟩ : Addr).add (i*3),by rw [if_neg (by omega)];rfl,fun j v hv=>du (by omega) (lU.ext hw) j v hv⟩) (pe _) fun w3 ns qE => ?_
   have g1:=fb ((l.take i).flatMap bh++D1) D2 D3 ((l.drop i).flatMap bh) (by rw [e2,f2]) (o:=(i+1)*3) (by rw [adp,e1,f1];omega);have g0:(l.take i).flatMap bh++(D1++D2++D3)=(l.take i).flatMap bh++D1++D2++D3:=by simp only [List.append_assoc]
   rw [g0,g1] at ns;have GF:=bU (hw.gr (aJ (some ⟨g,0,none⟩) c)) qE (.inl h6.symm);have QL:=hB.grown qE (by simpa using fun e=>D7 e.symm);repeat' (first|refine Wz ?_|(refine SW.st (bd (k:=i) rfl rfl (by omega) (by omega)) rfl ?_))
   refine SW.copy (k:=1) (i*3) (bh x) ns rfl rfl rfl (by omega) nW (by simp only [List.length_append,e1,e2,f1,nW];omega) (fun h0=>⟨by rw [if_neg (by omega)];simp [dc],⟨b,0,none⟩,rfl,fun j v hv=>QL.cell hv⟩) (iy.one (enc:=bh) x) fun w4 nX xO => ?_
   have g2:=fb ((l.take i).flatMap bh) D1 ((l.drop i).flatMap bh++D3) (bh x) (by rw [nW,f1]) (o:=i*3) e1.symm;have g3:(l.take i).flatMap bh++D1++(l.drop i).flatMap bh++D3=(l.take i).flatMap bh++D1++((l.drop i).flatMap bh++D3):=by simp only [List.append_assoc]
   have g4:(l.take i).flatMap bh++bh x++((l.drop i).flatMap bh++D3)=(aN l i x).flatMap bh++D3:=by unfold aN;simp only [List.flatMap_append,List.flatMap_cons,List.flatMap_nil,List.append_nil,List.append_assoc]
   rw [g3,g2,g4] at nX;have Eu:=Own.closed (n:=n+1) (c:=c) (l:=aN l i x) (by unfold aN;simp;omega) nX (by omega) ky (by omega) h5 h1;have ee:=bU GF xO (.inl h6.symm);refine Wz ?_;exact ae.bg rfl rfl ⟨_,rfl,_,_,rfl,Eu,ee,fun k e => .inl e⟩
  ·have Si:c=n:=by omega
   have lU:=hO.sl.drop i c (by omega) (by omega);have Bq:=hO.sl.pre (i:=i) (by omega);repeat' (first|refine Wz ?_|(refine SW.st (bd (k:=i) rfl rfl (by omega) (by omega)) rfl ?_)|(refine SW.st (dn (k:=i) rfl rfl (by omega)) rfl ?_))
   all_goals try omega
   refine SW.yu (k:=n+1-i) Bq Tryz.underlying3 rfl rfl (by omega) rfl (by omega) (by omega) (by omega) (by omega) fun g rest c2 w2 bt dE h2 h3 h4 h5 => ?_
   have e1:((l.take i).flatMap bh).length=i*3:=by rw [pf];simp;omega
   have e2:((l.drop i).flatMap bh).length=(n-i)*3:=by rw [pf];simp [mH]
   have oD:((n-i)+1)*3<=rest.length:=by omega
   have e4:rest=rest.take 3++(rest.drop 3).take ((n-i)*3)++rest.drop (3+(n-i)*3):=by
    rw [adj,<- aeg,adh,adh]
   generalize GG:rest.take 3=D1 at e4
   generalize GH:(rest.drop 3).take ((n-i)*3)=D2 at e4
   generalize GI:rest.drop (3+(n-i)*3)=D3 at e4
   have f1:D1.length=3:=by rw [<- GG];simp only [List.length_take];omega
   have f2:D2.length=(n-i)*3:=by rw [<- GH];simp only [List.length_take,List.length_drop];omega
   have f3:D3.length+((n-i)+1)*3=rest.length:=by rw [<- GI];simp only [List.length_drop];omega
   rw [e4] at h2;have gm:aJ A c≠some g:=fun e=>by have:=hO.lt_size _ e;omega
   have D7:b≠g:=by have:=hB.lt;omega
   obtain ⟨lU,hB,hw⟩:=cn bt lU hB hw;repeat' (first|refine Wz ?_|(refine SW.st (bd (k:=i) rfl rfl (by omega) (by omega)) rfl ?_))
   refine SW.copy (k:=1) (i*3) (bh x) h2 rfl rfl rfl (by omega) nW (by simp only [List.length_append,e1,f1,f2,nW];omega) (fun h0=>⟨by rw [if_neg (by omega)];simp [dc],⟨b,0,none⟩,rfl,fun j v hv=>hB.cell hv⟩) (iy.one (enc:=bh) x) fun w3 ns qE => ?_
   have g2:=fb ((l.take i).flatMap bh) D1 (D2++D3) (bh x) (by rw [nW,f1]) (o:=i*3) e1.symm;have g3:(l.take i).flatMap bh++(D1++D2++D3)=(l.take i).flatMap bh++D1++(D2++D3):=by simp only [List.append_assoc]
   rw [g3,g2] at ns;have LK:Ext w w3:=hw.own dE qE
   have lz:Sl w3 3 bh (if c=i then A else A.map (·.add (i*3))) (n-i) (l.drop i):=(hO.sl.drop i c (by omega) (by omega)).ext LK
   have hw:=LK;refine Wz ?_;refine CW.any 8 mixed (dk (by kernel_rfl)) rfl fun w1 ai aG => ?_
   obtain ⟨hw,ns,lz⟩:=cn ai hw ns lz;clear ai;refine Wa ?_;refine Wu 4 aG rfl (bd (k:=i+1) rfl rfl (by omega) (by omega)) ?_;refine Wa ?_;refine Wu 7 aG rfl (bd (k:=i) rfl rfl (by omega) (by omega)) ?_;refine SA.done (by kernel_rfl) ?_;refine SW.copy (k:=n-i) ((i+1)*3) ((l.drop i).flatMap bh) ns rfl rfl rfl (by omega) e2 (by simp only [List.length_append,e1,e2,f2,nW];omega) (fun h0=>⟨by rw [if_neg (by omega)];simp [dc],(if c=i then A else A.map (·.add (i*3))).getD default,?_,fun j v hv=>du (by omega) lz j v hv⟩) (pe _) fun w4 nX xO => ?_
   ·obtain ⟨a,ha⟩:=adH.1 (lz.base h0);rw [ha];rfl
   ·have g4:=fb ((l.take i).flatMap bh++bh x) D2 D3 ((l.drop i).flatMap bh) (by rw [e2,f2]) (o:=(i+1)*3) (by rw [adp,e1,nW];omega);have g5:(l.take i).flatMap bh++bh x++(D2++D3)=(l.take i).flatMap bh++bh x++D2++D3:=by simp only [List.append_assoc]
    have g6:(l.take i).flatMap bh++bh x++(l.drop i).flatMap bh++D3=(aN l i x).flatMap bh++D3:=by unfold aN;simp only [List.flatMap_append,List.flatMap_cons,List.flatMap_nil,List.append_nil,List.append_assoc]
    rw [g5,g4,g6] at nX;have Eu:=Own.closed (n:=n+1) (c:=c2) (lo:=lo) (l:=aN l i x) (by unfold aN;simp;omega) nX (by omega) (by omega) (by omega) h5 (by omega);have kz:Ext w w4:=hw.own dE xO
    have e9:i+(n+1-i)=n+1:=by omega
    refine Wz ?_;rw [e9]
    exact ae.bg rfl rfl ⟨_,rfl,_,_,rfl,Eu,kz.gr _,fun k e => .inr (by
     have:k=g:=by
      unfold aJ at e;split at e
      ·cases e
      ·simpa using e.symm
     omega)⟩
variable {α β:Type} {JX:List dx} {args:List Value} {ys:List β} {lo:Nat} {P:Program} {li:gb} {R':Value->World->Prop} {w' w0 w1 wb:World}
theorem iO.mono {f:FuncId} {R:Value->World->Prop} (h:iO P f args w R) (hr:∀ v w',R v w'->R' v w') : iO P f args w R' :=
 ⟨Calls.mono h.out fun e w' ⟨v,he,hv⟩=>⟨v,he,hr v w' hv⟩⟩
structure HK where
 b:Nat
 g:Nat
 c:Nat
 m:gb
 lv:gb
 cp:Int
 M:List Int
 V:List Block
structure HP where
 u0:ef
 u1:ef
 li:gb
 ls:List dx
abbrev HK.h (k:HK) (p:HP) : jy:=⟨⟨some ⟨k.g,0,none⟩,2,k.c⟩,k.m,k.cp,p.li,k.lv⟩
structure HS (wb w:World) (k:HK) (p:HP) (s:ao×ao) (L:List aT) : Prop where
 eM:aS w k.b 41 (dG (k.h p))
 zs:gD w wb.heap.size k.g k.c p.u0 p.u1 s
 eE:Own w wb.heap.size 3 1 bw k.m.A k.m.n k.m.c k.M
 live:Own w wb.heap.size 147 3 aO k.lv.A k.lv.n k.lv.c k.V
 ls:gl w wb.heap.size p.li p.ls L
 sm:vf k.m [p.u0,p.u1] p.ls
 sf:xT k.lv [p.u0,p.u1]
 MV:wb.heap.size<=k.b
 base:Ext wb w
def kH (k:HK) (p:HP) (i:Nat) : Prop:=i=k.b∨i=k.g∨ob p.li=some i ∨ ∃ y∈p.ls,ob y.ax=some i
section
variable {w w' w0 w1 w2 wb:World} {i t:Nat} {k:HK} {p p' p0 p1 p2:HP} {s:ao×ao} {L:List aT} {cs:List Value} {row:Option Nat}
theorem HS.ext (h:HS wb w k p s L) (hx:Ext w w') : HS wb w' k p s L:=⟨h.eM.ext hx,h.zs.ext hx,h.eE.ext hx,h.live.ext hx,h.ls.ext hx,h.sm,h.sf,h.MV,h.base.trans hx⟩
theorem HS.G8 (h:HS wb w k p s L) {y:dx} (hy:y∈p.ls) : ∃ l∈L,rM w wb.heap.size y l:=by
 obtain ⟨j,hj,rfl⟩:=ade hy;have nR:j<L.length:=by rw [<- h.ls.each.len];exact hj
 exact ⟨_,adb nR,h.ls.each.get j hj nR⟩
theorem HS.lt (h:HS wb w k p s L) (hi:kH k p i) : i<w.heap.size:=by
 rcases hi with rfl|rfl|hi|⟨y,hy,hi⟩
 ·exact h.eM.lt
 ·exact h.zs.row.lt_size _ h.zs.own
 ·exact h.ls.row.lt_size i hi
 ·obtain ⟨l,_,hl⟩:=h.G8 hy;exact hl.bC.lt_size i hi
theorem HS.not (h:HS wb w k p s L) (hi:w.heap.size<=i) : ¬ kH k p i:=fun hm=>by have:=h.lt hm;omega
theorem HS.low (h:HS wb w k p s L) : wb.heap.size<=w.heap.size:=aeq (Nat.lt_of_le_of_lt h.MV h.eM.lt)
structure pD (w0:World) (k:HK) (p0:HP) (w:World) (p:HP) : Prop where
 os:w.os=w0.os
 tape:w.tape=w0.tape
 output:w.output=w0.output
 size:w0.heap.size<=w.heap.size
 block:∀ i,i<w0.heap.size -> ¬ kH k p0 i->w.heap[i]?=w0.heap[i]?
 Kp:∀ i,kH k p i->kH k p0 i∨w0.heap.size<=i
theorem pD.refl (w:World) (k:HK) (p:HP) : pD w k p w p:=⟨rfl,rfl,rfl,adg _,fun _ _ _=>rfl,fun _ h => .inl h⟩
theorem pD.step (h:pD w0 k p0 w p) (hg:w.grownBy w' row) (hr:∀ i,row=some i->kH k p i∨w0.heap.size<=i) (hp:∀ i,kH k p' i->kH k p i∨w0.heap.size<=i) : pD w0 k p0 w' p' :=
 ⟨hg.os.trans h.os,hg.tape.trans h.tape,hg.output.trans h.output,adf h.size hg.size,fun i hi hm=>by
  rw [hg.block i (ad7 hi h.size) (fun e=>by
   rcases hr i e.symm with e|e
   ·rcases h.Kp i e with e|e
    ·exact hm e
    ·omega
   ·omega)]
  exact h.block i hi hm,fun i hi=>by
  rcases hp i hi with e|e
  ·exact h.Kp i e
  ·exact .inr e⟩
theorem pD.ext (h:pD w0 k p0 w p) (hx:Ext w w') : pD w0 k p0 w' p:=h.step (hx.gr none) (fun i e=>by cases e) (fun i e => .inl e)
theorem pD.trans (h:pD w0 k p0 w1 p1) (h':pD w1 k p1 w2 p2) : pD w0 k p0 w2 p2 :=
 ⟨h'.os.trans h.os,h'.tape.trans h.tape,h'.output.trans h.output,adf h.size h'.size,fun i hi hm=>by
  rw [h'.block i (ad7 hi h.size) (fun e=>by rcases h.Kp i e with e|e;exact hm e;omega)];exact h.block i hi hm,fun i hi=>by
  rcases h'.Kp i hi with e|e
  ·exact h.Kp i e
  ·exact .inr (adf h.size e)⟩
theorem pD.eM (h:pD w0 k p0 w p) (hB:aS w0 i t cs) (hn : ¬ kH k p0 i) : aS w i t cs:=(h.block i hB.lt hn).trans hB
theorem pD.not (h:pD w0 k p0 w p) (hn : ¬ kH k p0 i) (hi:i<w0.heap.size) : ¬ kH k p i:=fun e=>by rcases h.Kp i e with e|e;exact hn e;omega
end
def Ak (p:HP) (zi:Nat) (u:ef) : HP:=if zi=0 then ⟨u,p.u1,p.li,p.ls⟩ else ⟨p.u0,u,p.li,p.ls⟩
theorem tr {p:HP} {zi:Nat} {u:ef}:(Ak p zi u).li=p.li∧(Ak p zi u).ls=p.ls:=by unfold Ak;split<;>exact ⟨rfl,rfl⟩
theorem wQ {k:HK} {p:HP} {zi:Nat} {u:ef}:kH k (Ak p zi u) i↔kH k p i:=by unfold kH;rw [tr.1,tr.2]
theorem HS.Rq {k:HK} {p:HP} {s:ao×ao} {zi:Nat} {u:ef} (h0:HS wb w0 k p s L) (h:HS wb w k p s L) (hz:zi<2)
 (hO:Own w' wb.heap.size 117 4 dt (some ⟨k.g,0,none⟩) 2 k.c ([p.u0,p.u1].set zi u)) (hg:w.grownBy w' (some k.g)) (hn:iH w w0.heap.size u z) : HS wb w' k (Ak p zi u) (sJ s (zi:Int) z) L:=by
 have hG:=h.zs.gr hg;have hx:Ext wb w':=h.base.own h.zs.IL hg
 have kj:=(hn.low h0.low).aK hG rfl;have hf:∀ g,aJ u.Types.A u.Types.c=some g->w0.heap.size<=g:=fun g e=>hn.types.a9 g e
 have hff:∀ g,aJ u.aj.A u.aj.c=some g->w0.heap.size<=g:=fun g e=>hn.free.a9 g e
 have E6:∀ (j:Nat) (hj:j<p.ls.length) (g:Nat),aJ p.ls[j].ax.A p.ls[j].ax.c=some g->g<w0.heap.size:=fun j hj g e=>h0.lt (.inr (.inr (.inr ⟨_,adb hj,e⟩)))
 have rV:∀ us:List ef,(∀ v∈us,v∈[p.u0,p.u1]∨v=u)->vf k.m us p.ls:=fun us hu=>⟨h.sm.eE,fun j hj g e v hv=>by
  rcases hu v hv with h1|rfl
  ·exact h.sm.types j hj g e v h1
  ·intro e2;have:=hf g e2;have:=E6 j hj g e;omega,h.sm.sep⟩
 have Sy:∀ us:List ef,(∀ v∈us,v∈[p.u0,p.u1]∨v=u)->xT k.lv us:=fun us hu v hv g e=>by
  rcases hu v hv with h1|rfl
  ·exact h.sf v h1 g e
  ·intro e2;have:=hff g e;have:=h0.live.lt_size g e2;omega
 unfold Ak sJ;by_cases tc:zi=0
 ·subst tc;simp only [if_true,Int.ofNat_eq_natCast,Int.natCast_zero] at *;exact ⟨h.eM.aK hG rfl,⟨hO,kj,h.zs.z1.aK hG rfl,h.zs.IL,h.zs.pos⟩,h.eE.aK hG rfl,h.live.aK hG rfl,h.ls.aK hG rfl,rV _ (by simp),Sy _ (by simp),h.MV,hx⟩
 ·obtain rfl:zi=1:=by omega
  have e1 : ¬ ((1:Nat)=0):=by omega
  have e2 : ¬ (((1:Nat) : Int)=0):=by omega
  simp only [if_neg e1,if_neg e2] at *;exact ⟨h.eM.aK hG rfl,⟨hO,h.zs.z0.aK hG rfl,kj,h.zs.IL,h.zs.pos⟩,h.eE.aK hG rfl,h.live.aK hG rfl,h.ls.aK hG rfl,rV _ (by simp),Sy _ (by simp),h.MV,hx⟩
theorem gl.Hy {ls:List dx} (h:gl w lo li ls L) (hg:w.grownBy w' (ob li)) : rL w w' 159:=h.row.gr hg
theorem IZ {m:gb} {us:List ef} {ls:List dx} (h:vf m us ls) (hs:GX JX) (ho:∀ y∈JX,∃ x∈ls,ob y.ax=ob x.ax) : vf m us JX:=by
 refine ⟨fun j hj g e => ?_,fun j hj g e v hv => ?_,hs⟩
 ·obtain ⟨x,hx,e2⟩:=ho _ (adb hj);obtain ⟨i,hi,rfl⟩:=ade hx;exact h.eE i hi g (e2.symm.trans e)
 ·obtain ⟨x,hx,e2⟩:=ho _ (adb hj);obtain ⟨i,hi,rfl⟩:=ade hx;exact h.types i hi g (e2.symm.trans e) v hv
theorem HS.setRow {k:HK} {p:HP} {s:ao×ao} {y:dx} {l:aT} (h:HS wb w k p s L) (hi:i<p.ls.length) (hO:Own w' wb.heap.size 159 4 cm p.li.A p.li.n p.li.c (p.ls.set i y)) (hg:w.grownBy w' (ob p.li)) (hy:rM w wb.heap.size y l)
 (ho:ob y.ax=ob p.ls[i].ax) : HS wb w' k ⟨p.u0,p.u1,p.li,p.ls.set i y⟩ s (L.set i l):=by
 have hG:=h.ls.Hy hg;have hx:Ext wb w':=aD h.base hg (adg _) h.ls.row.a9
 have hm:∀ z∈p.ls.set i y,∃ x∈p.ls,ob z.ax=ob x.ax:=fun z hz=>by
  rcases ads hz with h1|rfl
  ·exact ⟨z,h1,rfl⟩
  ·exact ⟨_,adb hi,ho⟩
 have eX:∀ x∈p.ls,∀ g,ob x.ax=some g->g<w.heap.size:=fun x hx g e=>h.lt (.inr (.inr (.inr ⟨x,hx,e⟩)))
 refine ⟨h.eM.aK hG rfl,h.zs.aK hG rfl,h.eE.aK hG rfl,h.live.aK hG rfl,⟨hO,?_⟩,IZ h.sm (Bz.tI (li:=p.li) h.sm.sep eX hi (fun g e => .inl (ho ▸ e))).sep hm,h.sf,h.MV,hx⟩;exact gg.setAt (R:=rM w wb.heap.size) h.ls.each (hy.aK hG rfl) (fun j h1 h2 _ hh=>hh.aK hG rfl)
theorem gg.erase {R : α -> β -> Prop} {xs:List α} (h:gg R xs ys) (i:Nat) : gg R (xs.eraseIdx i) (ys.eraseIdx i):=by
 refine ⟨by rw [aeZ,aeZ,h.len],fun j h1 h2 => ?_⟩;have hl:=h.len;rw [aeZ] at h1 h2;rw [aeS,aeS];split
 ·exact h.get j _ _
 ·exact h.get (j+1) _ _
theorem HS.Rr {k:HK} {p:HP} {s:ao×ao} (h:HS wb w k p s L) (hO:Own w1 wb.heap.size 159 4 cm p.li.A (p.li.n-1) p.li.c (p.ls.eraseIdx i)) (hg:w.grownBy w1 (ob p.li))
 (hb:aS w' k.b 41 (dG (k.h ⟨p.u0,p.u1,⟨p.li.A,p.li.n-1,p.li.c⟩,p.ls.eraseIdx i⟩))) (dE:w1.grownBy w' (some k.b)) : HS wb w' k ⟨p.u0,p.u1,⟨p.li.A,p.li.n-1,p.li.c⟩,p.ls.eraseIdx i⟩ s (L.eraseIdx i):=by
 have hG:=h.ls.Hy hg;have ee:=(h.eM.aK hG rfl).gr dE;have hx:Ext wb w':=(aD h.base hg (adg _) h.ls.row.a9).own h.MV dE
 refine ⟨hb,(h.zs.aK hG rfl).aK ee rfl,(h.eE.aK hG rfl).aK ee rfl,(h.live.aK hG rfl).aK ee rfl,⟨hO.aK ee rfl,(h.ls.each.erase i).mono fun _ _ hh=>(hh.aK hG rfl).aK ee rfl⟩,IZ h.sm ?_ (fun y hy=>⟨y,adV hy,rfl⟩),h.sf,h.MV,hx⟩;exact vm.2 ((vm.1 h.sm.sep).sublist (ad4 _ _))
set_option maxHeartbeats 1000000 in
theorem Kq (k:HK) (p:HP) (s:ao×ao) (L:List aT) (x:aT) (y:dx) (a:Int) (wb w0:World) (H:HS wb w0 k p s L) (hk:wC y x) (Sr:y.ax = .nil) (UU:x.ax=[])
 (hs:EN L) (hn:(p.li.n+1)*48<=140737488355328) (Ml:∀ l∈L,l.ax.length<=1000) :
 iO prog 98 [.pointer (some ⟨k.b,0,none⟩),.agg (cm y).toArray,.int .i64 a] w0 fun v w' => ∃ p',HS wb w' k p' s (iZ L ⟨x.ga,x.ao,x.Ty,dh L x++[a]⟩)∧pD w0 k p w' p':=by
 obtain ⟨F,hF⟩ : ∃ F:World->Prop,F=fun v=>gD v wb.heap.size k.g k.c p.u0 p.u1 s∧Own v wb.heap.size 3 1 bw k.m.A k.m.n k.m.c k.M∧Own v wb.heap.size 147 3 aO k.lv.A k.lv.n k.lv.c k.V∧pD w0 k p v p:=⟨_,rfl⟩
 have hZ:=H.zs;have hM:=H.eE;have hV:=H.live;have hL:=H.ls;have hb:=H.eM
 have sB:OP F w0:=by
  rw [hF];exact ⟨⟨hZ,hM,hV,pD.refl _ _ _⟩,fun v v' hx hP=>⟨hP.1.ext hx,hP.2.1.ext hx,hP.2.2.1.ext hx,hP.2.2.2.ext hx⟩⟩
 have N6:∀ (v v':World) (row:Option Nat),v.grownBy v' row->(∀ i,row=some i->i=k.b∨aJ p.li.A p.li.c=some i∨w0.heap.size<=i)->F v->F v':=fun v v' row hg yH hP=>by
  rw [hF] at hP ⊢;refine ⟨hP.1.parts hg ((hZ.row.px hL hb rfl rfl).ne yH) ((hZ.z0.free.px hL hb rfl rfl).ne yH) ((hZ.z0.types.px hL hb rfl rfl).ne yH) ((hZ.z1.free.px hL hb rfl rfl).ne yH) ((hZ.z1.types.px hL hb rfl rfl).ne yH),hP.2.1.apart hg ((hM.px hL hb rfl rfl).ne yH),hP.2.2.1.apart hg ((hV.px hL hb rfl rfl).ne yH),hP.2.2.2.step hg (fun i e => ?_) (fun i e => .inl e)⟩;rcases yH i e with h|h|h
  ·exact .inl (.inl h)
  ·exact .inl (.inr (.inr (.inl h)))
  ·exact .inr h
 have Ss:∀ (i:Nat) (hi:i<p.ls.length) (v v':World),v.grownBy v' (aJ p.ls[i].ax.A p.ls[i].ax.c)->F v->F v':=fun i hi v v' hg hP=>by
  rw [hF] at hP ⊢;have Mw:=(hL.each.get i hi (by rw [<- hL.each.len];exact hi)).bC;exact ⟨hP.1.parts hg (hZ.row.oW Mw rfl) (hZ.z0.free.oW Mw rfl) (fun j e e2=>H.sm.types i hi j e2 p.u0 (by simp) e) (hZ.z1.free.oW Mw rfl) (fun j e e2=>H.sm.types i hi j e2 p.u1 (by simp) e),hP.2.1.apart hg (fun j e e2=>H.sm.eE i hi j e2 e),hP.2.2.1.apart hg (hV.oW Mw rfl),hP.2.2.2.step hg (fun j e => .inl (.inr (.inr (.inr ⟨_,adb hi,e⟩)))) (fun i e => .inl e)⟩
 refine (E4 ⟨some ⟨k.g,0,none⟩,2,k.c⟩ k.m k.cp p.li k.lv L p.ls x y a F k.b wb w0 H.base H.MV hb hL hk Sr UU H.sm.sep hs hn Ml sB N6 Ss).mono fun v w' hv => ?_
 obtain ⟨hx,Bi,OO,JX,iz,UZ,hP⟩:=hv;rw [hF] at Bi;obtain ⟨Gk,Gm,DE,hK⟩:=Bi
 have hold:∀ j (hj:j<JX.length) (g:Nat),aJ JX[j].ax.A JX[j].ax.c=some g->(∃ i,∃ hi:i<p.ls.length,aJ p.ls[i].ax.A p.ls[i].ax.c=some g)∨w0.heap.size<=g:=fun j hj g e=>by
  rcases hP.of _ (adb hj) g e with ⟨z,hz,e2⟩|h
  ·obtain ⟨i,hi,rfl⟩:=ade hz;exact .inl ⟨i,hi,e2⟩
  ·exact .inr h
 refine ⟨⟨p.u0,p.u1,OO,JX⟩,⟨iz,Gk,Gm,DE,UZ,⟨fun j hj g e => ?_,fun j hj g e v hv => ?_,hP.sep⟩,H.sf,H.MV,hx⟩,hK.step (World.grownBy.refl _ none) (fun i e=>by cases e) (fun i hi => ?_)⟩
 ·rcases hold j hj g e with ⟨i,hi,e2⟩|h
  ·exact H.sm.eE i hi g e2
  ·intro e2;have:=hM.lt_size g e2;omega
 ·rcases hold j hj g e with ⟨i,hi,e2⟩|h
  ·exact H.sm.types i hi g e2 v hv
  ·intro e2;simp only [List.mem_cons,List.not_mem_nil,or_false] at hv;rcases hv with rfl|rfl
   ·have:=hZ.z0.types.lt_size g e2;omega
   ·have:=hZ.z1.types.lt_size g e2;omega
 ·rcases hi with h|h|h|⟨z,hz,h⟩
  ·exact .inl (.inl h)
  ·exact .inl (.inr (.inl h))
  ·exact (hP.row i h).imp (fun e => .inr (.inr (.inl e))) id
  ·exact (hP.of z hz i h).imp (fun e => .inr (.inr (.inr e))) id
variable {y:Operand} {t ty:TypeId}
section
variable {P:Program} {L:Env} {w:World} {d:Option Nat} {T:TypeId} {pos:String} {af:Array Edge} {g:Option (Nat×Bool)}
theorem I0 {x:Operand} {i j:Int} (a b:Nat) (hx:cT L x=some (.int .i64 i)) (hy:cT L y=some (.int .i64 j)) (ha:i=(a:Int)) (hb:j=(b:Int)) (mA:a<9223372036854775808) (iz:b<9223372036854775808) :
 St P ⟨d,.binOp .and t x y ty,T,pos,af,g⟩ L w (.int .i64 ((a &&& b:Nat) : Int)) :=
 ⟨fun n A hA w' _=>by
  have e1:=hA.eval hx;have e2:=hA.eval hy;subst ha hb;generalize A.eval = ρ at *
  have eX:a &&& b<2 ^ 63:=Nat.and_lt_two_pow _ (by omega)
  have e:(BitVec.ofInt 64 (a:Int) &&& BitVec.ofInt 64 (b:Int)).toNat=a &&& b:=by
   rw [BitVec.toNat_and,BitVec.ofInt_natCast,BitVec.ofInt_natCast,BitVec.toNat_ofNat,BitVec.toNat_ofNat,aeO (by omega),aeO (by omega)]
  have aZ:(Op.intBits .and .i64 (a:Int) (b:Int)).run P w' = .ok (.int .i64 ((a &&& b:Nat) : Int)) w':=by
   have:Op.intBits .and .i64 (a:Int) (b:Int)=(pure (.int .i64 (IntKind.i64.wrap ((BitVec.ofInt 64 (a:Int) &&& BitVec.ofInt 64 (b:Int)).toNat:Nat))) : Sem Value):=rfl
   rw [this,e,jl (by omega) (by omega)]
   rfl
  have au:(binOp .and t (.int .i64 (a:Int)) (.int .i64 (b:Int))).run P w' = .ok (.int .i64 ((a &&& b:Nat) : Int)) w':=by
   have:binOp .and t (.int .i64 (a:Int)) (.int .i64 (b:Int))=Op.intBits .and .i64 (a:Int) (b:Int):=by simp [binOp]
   rw [this,aZ]
  simp [execOp,e1,e2,eqGuard,au]⟩
end
variable {af:Array Edge} {g:Option (Nat×Bool)} {T:TypeId}
def Cw (f j:Int) : Int:=((f.toNat &&& j.toNat:Nat) : Int)
theorem Kr:∀ f:Nat,f<16->(f &&& 1=f % 2)∧(f &&& 2=f / 2 % 2*2)∧(f &&& 4=f / 4 % 2*4)∧(f &&& 8=f / 8*8):=by decide
theorem wR (h : 0<=f∧f<=15) : Cw f 1=f % 2∧Cw f 2=f / 2 % 2*2∧Cw f 4=f / 4 % 2*4∧Cw f 8=f / 8*8:=by
 obtain ⟨n,rfl⟩ : ∃ n:Nat,f=n:=⟨f.toNat,by omega⟩;obtain ⟨h1,h2,h3,h4⟩:=Kr n (by omega);unfold Cw;simp only [Int.toNat_natCast,show (1:Int).toNat=1 from rfl,show (2:Int).toNat=2 from rfl,show (4:Int).toNat=4 from rfl,show (8:Int).toNat=8 from rfl,h1,h2,h3,h4];omega
theorem yK {L:Env} {d:Option Nat} {pos:String} {x:Operand} {j:Int} (hx:cT L x=some (.int .i64 f)) (hy:cT L y=some (.int .i64 j)) (hf : 0<=f∧f<=15) (hj : 0<=j∧j<=15) :
 St P ⟨d,.binOp .and t x y ty,T,pos,af,g⟩ L w (.int .i64 (Cw f j)):=I0 f.toNat j.toNat hx hy (by omega) (by omega) (by omega) (by omega)
theorem Hz (f:Int) (w:World) : bF prog 62 [.int .i64 f] w fun v _=>v = .tuple #[.int .i64 (if 0<=jE f then jE f else 0),.bool (decide (0<=jE f))]:=by
 refine aC func62 rfl ntmps62 rfl ?_;have hw:=Ext.refl w;by_cases hf : 0<=f∧f<=15
 ·obtain ⟨q1,q2,q4,q8⟩:=wR hf;obtain ⟨t,ht⟩ : ∃ t,jE f=t:=⟨_,rfl⟩
  have hc:(f / 2 % 4=0∧t=0)∨(f / 2 % 4=1∧t=1)∨(f / 2 % 4=2∧t=2)∨(f / 2 % 4=3∧t = -1):=by
   unfold jE at ht;rw [if_pos hf] at ht;split at ht
   ·omega
   ·split at ht
    ·omega
    ·split at ht
     ·omega
     ·omega
  rw [ht];rcases hc with ⟨h1,rfl⟩|⟨h1,rfl⟩|⟨h1,rfl⟩|⟨h1,rfl⟩
  all_goals
   repeat' (first|refine Wz ?_|(refine SW.st (yK rfl rfl (by omega) (by decide)) rfl ?_))
   all_goals try omega
   all_goals exact ae.dm rfl rfl rfl ⟨_,rfl,hw,rfl⟩
 ·have e:jE f = -1:=by unfold jE;rw [if_neg hf]
  rw [e];repeat' (first|refine Wz ?_|refine SW.gi rfl rfl rfl (fun h => ?_) (fun h => ?_))
  all_goals try omega
  all_goals exact ae.dm rfl rfl rfl ⟨_,rfl,hw,rfl⟩
structure Cx (M:List Int) (m0 m1:Int) : Prop where
 eq:M=[m0,m1]
 b0 : 0<=m0∧m0<=256
 b1 : 0<=m1∧m1<=256
theorem Rs.MW (r:jy) (u0 u1:ef) (s:ao×ao) (M:List Int) (m0 m1:Int) (zi:Nat) (f:Int) (w:World) (hm:Sl w 1 bw r.dO.A r.dO.n M) (hz:Sl w 4 dt r.bp.A r.bp.n [u0,u1]) (hM:Cx M m0 m1) (h1:u1.aV=s.2.aV) (h2:u1.To=s.2.To) (hF : 0<=s.2.aV∧s.2.aV<=256) (hT:s.2.aV<=s.2.To∧s.2.To<=256) (tc:zi<2) (hf : 0<=f∧f<=15) :
 bF prog 150 [.agg (dG r).toArray,.int .i64 (zi:Int),.int .i64 f] w fun v _=>v = .int .i64 (Cl m0 m1 s zi f):=by
 refine aC func150 rfl ntmps150 rfl ?_;refine CW.seq (CW.region (SW.box rfl rfl fun b1 w1 hw lp aZ => ?_));obtain ⟨rfl,Dr,tE⟩:=hM;obtain ⟨q1,q2,q4,q8⟩:=wR hf;have hA:=hz.base;have hB:=hm.base;have hn : 2=r.bp.n:=hz.len
 have Yc : 2=r.dO.n:=hm.len
 have k0 : 1<r.bp.n:=by omega
 have k1:zi<r.dO.n:=by omega
 have f0:=hz.jR k0 (j:=0) (u := .int .i64 u1.aV) rfl;have f1:=hz.jR k0 (j:=1) (u := .int .i64 u1.To) rfl;obtain ⟨mz,Re⟩ : ∃ mz,(if (zi:Int)=0 then m0 else m1)=mz:=⟨_,rfl⟩
 have hmv : [m0,m1][zi]'(by simpa using tc)=mz:=by
  rcases adL zi 1 with h|h
  ·obtain rfl:zi=0:=by omega
   rw [<- Re];rfl
  ·obtain rfl:zi=1:=by omega
   rw [<- Re];rfl
 have fm:=hm.one k1 (congrArg bw hmv);have hmb : 0<=mz∧mz<=256:=by rw [<- Re];split<;>omega
 obtain ⟨v,hv⟩ : ∃ v,Cl m0 m1 s zi f=v:=⟨_,rfl⟩;have tG:=hv;unfold Cl at tG;rw [Re] at tG;rw [hv];have htm:f.tmod 2=f % 2:=adP (by omega)
 have hc:(8<=f∨f<8)∧((zi=0∧f % 2=0)∨(zi=0∧f % 2=1)∨zi=1):=by omega
 obtain ⟨BS,Qc⟩:=hc;rcases BS with BS|BS<;>rcases Qc with ⟨Qc,Yu⟩|⟨Qc,Yu⟩|Qc
 all_goals
  repeat' (first|refine Wz ?_|((apply CW.bH mixed;(· kernel_rfl);rotate_left;intro w1 ai;obtain ⟨hw,aZ⟩:=df ai hw aZ;clear ai;rotate_right))|refine Wn hw f0 ?_|refine Wn hw f1 ?_|refine Wn hw fm ?_|(refine SW.st (yK rfl rfl (by omega) (by decide)) rfl ?_)|exact SW.eU rfl)
  all_goals try omega
  refine ae.bg rfl rfl ⟨_,rfl,hw,?_⟩;congr 1
  omega
inductive Qe (m0 m1:Int) (s:ao×ao) (zi o t f:Int) : Option ((ao×ao)×Int)->Prop
 | m9 (he : ¬ jO m0 m1 s zi o f) : Qe m0 m1 s zi o t f none
 | none {u:ao×Int×Int} (he:jO m0 m1 s zi o f) (ht:ik (yb s zi) o t u) (hu:u.2.2≠0) : Qe m0 m1 s zi o t f none
 | ok {u:ao×Int×Int} (he:jO m0 m1 s zi o f) (ht:ik (yb s zi) o t u) (hu:u.2.2=0) : Qe m0 m1 s zi o t f (some (sJ s zi u.1,u.2.1))
def tkV:Option ((ao×ao)×Int)->Value
 | Option.none => .tuple #[.int .i64 0,.bool false]
 | some q => .tuple #[.int .i64 q.2,.bool true]
def U5 (s:ao×ao) : Option ((ao×ao)×Int)->ao×ao
 | Option.none=>s
 | some q=>q.1
theorem Qe.vs {s:ao×ao} {t:Int} {q:Option ((ao×ao)×Int)} (h:Qe m0 m1 s zi o t f q) (hv:VS s) : VS (U5 s q):=by
 cases h with
 | m9|none=>exact hv
 | ok he ht hu=>exact hv.tI (ht.jT hu).1
theorem HS.kr {k:HK} {p:HP} {s:ao×ao} (h:HS wb w k p s L) (hv:VS s) {zi:Nat} (hz:zi<2) : ∃ u,[p.u0,p.u1][zi]'hz=u∧iH w wb.heap.size u (yb s zi):=by
 rcases adL zi 1 with h1|h1
 ·obtain rfl:zi=0:=by omega
  exact ⟨p.u0,rfl,h.zs.z0⟩
 ·obtain rfl:zi=1:=by omega
  exact ⟨p.u1,rfl,h.zs.z1⟩
set_option maxHeartbeats 2000000 in
theorem vD (k:HK) (p:HP) (s:ao×ao) (L:List aT) (m0 m1:Int) (zi:Nat) (o t f:Int) (wb w:World) (H:HS wb w k p s L) (hO:mN w) (hM:Cx k.M m0 m1) (hv:VS s) (tc:zi<2) (ho : 0<=o∧o<=4) (hf : 0<=f∧f<=15) :
 iO prog 110 [.pointer (some ⟨k.b,0,none⟩),.int .i64 (zi:Int),.int .i64 o,.int .i64 t,.int .i64 f] w fun v w' => ∃ q,Qe m0 m1 s zi o t f q∧v=tkV q ∧ ∃ p',HS wb w' k p' (U5 s q) L∧pD w k p w' p':=by
 refine dl func110 rfl ntmps110 rfl ?_;have hw:=Ext.refl w;have H0:=H;obtain ⟨uz,huz,Ec⟩:=H.kr hv tc;have TT:=hv.yb (zi:Int);obtain ⟨z,hz⟩ : ∃ z,yb s (zi:Int)=z:=⟨_,rfl⟩;rw [hz] at Ec TT;obtain ⟨q1,q2,q3,q4⟩:=td Ec TT;have hA:=H.zs.row.sl.base;have fz:=H.zs.row.sl.all tc;rw [huz] at fz;have hqB:=fq.2 TT
 have cP:∀ w',Ext w w'->bF prog 149 [.agg (dt uz).toArray] w' fun v _=>v = .tuple #[.int .i64 (j6 z.aj),.int .i64 0]:=fun w' hx=>by
  have:=Ho uz z w' (Ec.ext hx).rd (by omega) (by omega) ⟨by omega,by omega⟩ ⟨by omega,by omega⟩
  rwa [show sE z=(j6 z.aj,0) by simp [sE,hqB]] at this
 obtain ⟨hd,PW⟩ : ∃ hd,Cl m0 m1 s zi f=hd:=⟨_,rfl⟩;have o1:=hv.lG.ok;obtain ⟨a1,a2,a3,a4,a5⟩:=o1
 have cH:∀ w',Ext w w'->bF prog 150 [.agg (dG (k.h p)).toArray,.int .i64 (zi:Int),.int .i64 f] w' fun v _=>v = .int .i64 hd:=fun w' hx=>by
  have:=Rs.MW (k.h p) p.u0 p.u1 s k.M m0 m1 zi f w' (H0.eE.ext hx).sl (H0.zs.row.ext hx).sl hM H0.zs.z1.from_ H0.zs.z1.pj ⟨by omega,by omega⟩ ⟨by omega,by omega⟩ tc hf
  rwa [PW] at this
 have hhb : 0<=hd∧hd<=512:=by
  rw [<- PW];have h1:=hM.b0;have h2:=hM.b1;unfold Cl;(repeat' split)<;>omega
 have GV:=kA TT;have hpb:=pi TT z.aj.length (adg _);rw [ad2] at hpb;have UY:=cQ ho.1 ho.2;by_cases he:hd<=j6 z.aj-pw o
 ·have hE:jO m0 m1 s zi o f:=by unfold jO;rw [PW,hz];exact he
  repeat' (first|refine Wz ?_|((apply CW.bH mixed;(· kernel_rfl);rotate_left;intro w1 ai;obtain ⟨hw,H,Ec⟩:=cn ai hw H Ec;clear ai;rotate_right))|refine Wl (H.eM.cell (i:=0) (v := .slice (some ⟨k.g,0,none⟩) 2 k.c) rfl) ?_|refine Wm fz ?_|refine Wo hw fz ?_|refine Wm ((fun _ _=>H.eM.cell)) ?_|(refine Wk (cP _ hw) ?_;intro v w1 ai hv;subst hv;obtain ⟨hw,H,Ec⟩:=cn ai hw H Ec;clear ai)|refine SW.dK rfl rfl (fun w1 ai=>(cH _ (hw.trans ai))) ?_|(refine SW.st (fG (r:=pw o) rfl rfl (by omega) (by omega) (by simp [pw]) (by omega) (by omega)) rfl ?_)|exact SW.eU rfl)
  refine Wk (LX uz z o t _ Ec.rd q1 q2 ⟨by omega,by omega⟩ ⟨by omega,by omega⟩ (hO.ext hw)) fun v w4 ak hv => ?_
  obtain ⟨u,hT,r',rfl,Rt⟩:=hv;have Rt:=Rt.low hw.size;(obtain ⟨hw,H⟩:=df ak hw H);refine Wz ?_;refine SW.alloc rfl fun U6 w1 ai vE bR => ?_
  skip;refine SW.ag bR rfl rfl rfl rfl (fK r') fun w2 xC hg => ?_
  have ak:=ai.own vE hg;have Qf:=hw.up vE
  obtain ⟨hw,H,Rt⟩:=cn ak hw H Rt;have bR:=xC;clear xC ai hg ak;rw [<- hz] at hT;by_cases hu:u.2.2=0
  ·refine Wz ?_;refine CW.gn 7 7 (fun _=>True) mixed (by kernel_rfl) fun w1 ai aG => ?_
   obtain ⟨hw,H,Rt,bR⟩:=dv ai hw H Rt bR;clear ai;refine Wf ?_;refine Wt 3 [] [] aG rfl (aU rfl (H.eM.cell (i:=0) (v := .slice (some ⟨k.g,0,none⟩) 2 k.c) rfl)) ?_;refine Wf ?_;refine SF.last rfl (by kernel_rfl) (by kernel_rfl) ?_;refine SW.p7 (enc:=dt) zi r' H.zs.row rfl rfl tc fun w5 OV hg => ?_
   rw [H.zs.own] at hg;have H5:=HS.Rq H0 H tc OV hg Rt;have hK:pD w k p w5 (Ak p zi r'):=((pD.refl w k p).ext hw).step hg (fun i e=>by cases e;exact .inl (.inr (.inl rfl))) (fun i e => .inl (wQ.1 e))
   refine Wz ?_;exact ae.dm rfl rfl rfl ⟨_,rfl,_,.ok hE hT hu,rfl,_,H5,hK⟩
  ·refine Wz ?_;exact ae.dm rfl rfl rfl ⟨_,rfl,_,.none hE hT hu,rfl,_,H,(pD.refl w k p).ext hw⟩
 ·have hE : ¬ jO m0 m1 s zi o f:=by unfold jO;rw [PW,hz];exact he
  repeat' (first|refine Wz ?_|((apply CW.bH mixed;(· kernel_rfl);rotate_left;intro w1 ai;obtain ⟨hw,H,Ec⟩:=cn ai hw H Ec;clear ai;rotate_right))|refine Wl (H.eM.cell (i:=0) (v := .slice (some ⟨k.g,0,none⟩) 2 k.c) rfl) ?_|refine Wm fz ?_|refine Wm ((fun _ _=>H.eM.cell)) ?_|(refine Wk (cP _ hw) ?_;intro v w1 ai hv;subst hv;obtain ⟨hw,H,Ec⟩:=cn ai hw H Ec;clear ai)|refine SW.dK rfl rfl (fun w1 ai=>(cH _ (hw.trans ai))) ?_|(refine SW.st (fG (r:=pw o) rfl rfl (by omega) (by omega) (by simp [pw]) (by omega) (by omega)) rfl ?_)|exact SW.eU rfl)
  exact ae.dm rfl rfl rfl ⟨_,rfl,_,.m9 hE,rfl,_,H,(pD.refl w k p).ext hw⟩
set_option maxHeartbeats 4000000 in
theorem Al (A:Option Addr) (n c lo:Nat) (l:List dx) (w:World) (hO:Own w lo 159 4 cm A n c l) (i:Nat) (hi:i<n) (hn:n<=1000000000000000000) (dD:lo<=w.heap.size) :
 iO prog 148 [.slice A n c,.int .i64 (i:Int),.int .i64 ((i+1:Nat) : Int)] w fun v w'=>v = .slice A (n-1) c∧Own w' lo 159 4 cm A (n-1) c (l.eraseIdx i)∧w.grownBy w' (aJ A c):=by
 refine dl func148 rfl ntmps148 rfl ?_;have hle:=hO.le;have mH:=hO.len;have hA:=hO.sl.base;have GD:w.grownBy w (aJ A c):=World.grownBy.refl _ _
 repeat' (first|refine Wz ?_|(refine SW.st (s8 (i:=i) (j:=i+1) (k:=n) rfl rfl rfl rfl (by omega) (by omega) (by omega)) rfl ?_))
 all_goals try omega
 have hw:=Ext.refl w;have e0:i+(n-(i+1))=n-1:=by omega
 have el:l.take i++l.drop (i+1)=l.eraseIdx i:=by rw [adM]
 refine CW.any 6 mixed (dk (by kernel_rfl)) rfl fun w1 ai aG => ?_
 obtain ⟨hw,hO⟩:=df ai hw hO;clear ai;refine Wa ?_;refine Wu 2 aG rfl (dn (k:=i) rfl rfl (by omega)) ?_;refine Wa ?_;refine Wu 5 aG rfl (bd (k:=i+1) rfl rfl (by omega) (by omega)) ?_;refine SA.done (by kernel_rfl) ?_;refine SW.u6 (hO.pre (i:=i) (by omega)) (hO.sl.drop (i+1) c (by omega) (by omega)) (by omega) rfl rfl rfl fun w2 bj hg => ?_
 rw [e0,el] at bj;rw [e0];have GF:=(hw.gr (aJ A c));repeat' (first|refine Wz ?_|(refine SW.st (jX (i:=n-1) (j:=n) rfl rfl rfl (by omega) (by omega)) rfl ?_))
 obtain ⟨g,rest,rfl,h1,h2,h3,h4,h5,h6⟩:=bj.opened (by omega);have pf:((l.eraseIdx i).flatMap cm).length=(n-1)*4:=by rw [aW,bj.len]
 refine SW.clear ((n-1)*4) h2 rfl (by rw [adp,pf];omega) (fun h0 => ?_) (by decide) fun w3 cs lT hB qE => ?_
 ·rw [if_neg (by omega)];simp [dc]
 ·have e7:=fb ((l.eraseIdx i).flatMap cm) (rest.take ((n-(n-1))*4)) (rest.drop ((n-(n-1))*4)) cs (by rw [lT];simp;omega) (o:=(n-1)*4) pf.symm;rw [adj (List.flatMap _ _),adh] at e7;rw [e7,adj] at hB;have Ep:=Own.closed (l:=l.eraseIdx i) bj.len hB (by rw [adp,lT];simp;omega) h4 (by omega) h5 h1;rw [<- h6] at qE;have Bf:=bU (bU GF hg (.inl rfl)) qE (.inl rfl);refine Wz ?_;exact ae.bg rfl rfl ⟨_,rfl,rfl,Ep,Bf⟩
def Yv:Option ((ao×ao)×List aT×Int)->Value
 | Option.none => .tuple #[.int .i64 0,.bool false]
 | some q => .tuple #[.int .i64 q.2.2,.bool true]
def TU (s:ao×ao) : Option ((ao×ao)×List aT×Int)->ao×ao
 | Option.none=>s
 | some q=>q.1
def Ru (L:List aT) : Option ((ao×ao)×List aT×Int)->List aT
 | Option.none=>L
 | some q=>q.2.1
theorem MX {k:HK} {p:HP} {y:dx} (hi:i<p.ls.length) (ho:ob y.ax=ob p.ls[i].ax) (h:kH k ⟨p.u0,p.u1,p.li,p.ls.set i y⟩ j) : kH k p j:=by
 rcases h with h|h|h|⟨z,hz,h⟩
 ·exact .inl h
 ·exact .inr (.inl h)
 ·exact .inr (.inr (.inl h))
 ·rcases ads hz with h1|rfl
  ·exact .inr (.inr (.inr ⟨z,h1,h⟩))
  ·exact .inr (.inr (.inr ⟨_,adb hi,ho ▸ h⟩))
theorem MY {k:HK} {p:HP} (h:kH k ⟨p.u0,p.u1,⟨p.li.A,p.li.n-1,p.li.c⟩,p.ls.eraseIdx i⟩ j) : kH k p j:=by
 rcases h with h|h|h|⟨z,hz,h⟩
 ·exact .inl h
 ·exact .inr (.inl h)
 ·exact .inr (.inr (.inl h))
 ·exact .inr (.inr (.inr ⟨z,adV hz,h⟩))
set_option maxHeartbeats 4000000 in
theorem Am (k:HK) (p:HP) (s:ao×ao) (L:List aT) (m0 m1 cpu:Int) (zi:Nat) (t f:Int) (wb w:World) (H:HS wb w k p s L) (hO:mN wb) (hM:Cx k.M m0 m1) (hv:VS s) (hs:EN L) (wA:∀ l∈L,1<=l.ax.length∧l.ax.length<=8) (OX:L.length<=256) (tc:zi<2) (hf : 0<=f∧f<=15) :
 iO prog 109 [.pointer (some ⟨k.b,0,none⟩),.int .i64 cpu,.int .i64 (zi:Int),.int .i64 t,.int .i64 f] w fun v w' => ∃ q,jU m0 m1 cpu zi 0 t f s L q∧v=Yv q ∧ ∃ p',HS wb w' k p' (TU s q) (Ru L q)∧pD w k p w' p':=by
 refine dl func109 rfl ntmps109 rfl ?_;have hw:=Ext.refl w;repeat' (first|refine Wy ?_|fail);have Fu:∀ i,w.heap.size<=i -> ¬ kH k p i:=fun i hi=>H.not hi
 have K0:=pD.refl w k p;refine SW.alloc rfl fun vF w1 ai lM bZ => ?_
 skip;refine SW.ag bZ rfl rfl rfl rfl (LZ ⟨cpu,zi,t,.nil⟩) fun w2 lm hg => ?_
 have ak:=ai.own lM hg;have mT:=hw.up lM
 obtain ⟨hw,H,K0⟩:=cn ak hw H K0;have bZ:=lm;clear lm ai hg ak;obtain ⟨x,hx⟩ : ∃ x:aT,x=⟨cpu,zi,t,[]⟩:=⟨_,rfl⟩;have Mx:wC ⟨cpu,zi,t,.nil⟩ x:=by subst hx;exact ⟨rfl,rfl,rfl⟩
 have UU:x.ax=[]:=by subst hx;rfl
 obtain ⟨l1,l2⟩:=H.ls.rd.len;have hA:=H.ls.row.sl.base;obtain ⟨q,hq⟩ : ∃ q,dB L x=q:=⟨_,rfl⟩;obtain ⟨kp,ux⟩ : ∃ kp,bu L x=kp:=⟨_,rfl⟩
 have cL:∀ w',zw w' p.li p.ls L->bF prog 99 [.agg (dG (k.h p)).toArray,.agg (cm ⟨cpu,zi,t,.nil⟩).toArray] w' fun v _=>v = .tuple #[.int .i64 (kp:Int),.bool q]:=fun w' h=>by
  have:=wD (k.h p) L p.ls x ⟨cpu,zi,t,.nil⟩ w' h Mx (by simp only;omega)
  rwa [hq,ux] at this
 cases q
 ·repeat' (first|refine Wy ?_|fail);(apply CW.bH mixed;(· kernel_rfl);rotate_left;intro w1 ai;obtain ⟨hw,H,bZ,K0⟩:=dv ai hw H bZ K0;clear ai;rotate_right);repeat' (first|refine Wy ?_|(refine CW.fY rfl ?_)|refine Wm ((fun _ _=>H.eM.cell)) ?_|refine Wm ((fun _ _=>bZ.cell)) ?_|refine SW.dK rfl rfl (fun w1 ai=>(cL _ (H.ls.rd.ext ai))) ?_|exact SW.eU rfl)
  clear cL;skip;refine SW.dX rfl rfl (vD k p s L m0 m1 zi 0 t f wb _ H (hO.ext H.base) hM hv tc (by decide) hf) fun v w5 EW => ?_
  obtain ⟨q5,hT,rfl,p5,H5,K5⟩:=EW;have Ks:=K5.not (Fu vF mT) bZ.lt;have bZ:=K5.eM bZ (Fu vF mT);have K5:=K0.trans K5;clear K0 H hw Fu;have hw:=Ext.refl w5
  have oH : ¬ ((0:Int)=0∧dB L ⟨cpu,(zi:Int),t,[]⟩=true):=fun h=>by
   have:=h.2
   rw [<- hx,hq] at this;cases this
  have WI:dB L ⟨cpu,(zi:Int),t,[]⟩=false:=by rw [<- hx];exact hq
  have Sz:=hT.vs hv;cases q5 with
  | none =>
    have Fv:jU m0 m1 cpu zi 0 t f s L none:=by
     cases hT with
     | m9 he=>exact .m9 oH he
     | none he ht hu=>exact .none oH he ht hu
    repeat' (first|refine Wy ?_|fail);refine CW.loop (fun _:Unit=>[(17,.int .i64 0),(18,.bool false),(19,.int .i64 1)]) (fun _ w'=>w'=w5) (fun _=>0) () ⟨rfl,rfl,rfl,trivial⟩ rfl ?_;rintro _ w' rfl;repeat' (first|refine Wy ?_|fail);exact ae.dm rfl rfl rfl ⟨_,rfl,_,Fv,rfl,p5,H5,K5⟩
  | some q5 =>
    obtain ⟨s1,a⟩:=q5
    have Qg:∀ r,jP m0 m1 zi t f s1 [] r->jU m0 m1 cpu zi 0 t f s L (some (r.1,km L x r.2,a)):=fun r hr=>by
     rw [hx];cases hT with
     | ok he ht hu=>exact .fill rfl WI he ht hu hr
    simp only [U5] at H5 Sz;have Yw:HS wb w5 k p5 s1 (km L x []):=by rw [mu];exact H5
    clear H5;repeat' (first|refine Wy ?_|fail)
    refine CW.loop (fun u:HP×(ao×ao)×List Int=>[(0,.pointer (some ⟨k.b,0,none⟩)),(2,.int .i64 (zi:Int)),(3,.int .i64 t),(4,.int .i64 f),(12,.pointer (some ⟨vF,0,none⟩)),(17,.int .i64 a),(18,.bool true),(19,.int .i64 ((u.2.2.length+1:Nat) : Int))])
     (fun u w'=>u.2.2.length<=3∧HS wb w' k u.1 u.2.1 (km L x u.2.2)∧VS u.2.1∧aS w' vF 159 (cm ⟨cpu,zi,t,.nil⟩) ∧ ¬ kH k u.1 vF∧pD w k p w' u.1 ∧ ∀ r,jP m0 m1 zi t f u.2.1 u.2.2 r->jP m0 m1 zi t f s1 [] r) (fun u=>3-u.2.2.length) (p5,s1,[])
     ⟨rfl,rfl,rfl,rfl,rfl,rfl,rfl,rfl,trivial⟩ ⟨by simp,Yw,Sz,bZ,Ks,K5,fun r h=>h⟩ ?_
    clear hw bZ K5 Ks Yw Sz hT;rintro ⟨p6,s6,pg⟩ w' ⟨WL,H,N7,bZ,Fu,K0,I1⟩
    simp only at WL H N7 Fu K0 I1 ⊢;have hw:=Ext.refl w';by_cases eX:pg.length<3
    ·repeat' (first|refine Wy ?_|fail);refine SW.dX rfl rfl (vD k p6 s6 (km L x pg) m0 m1 zi 0 t f wb _ H (hO.ext H.base) hM N7 tc (by decide) hf) fun v w5 EW => ?_
     obtain ⟨q5,hT,rfl,p5,H5,K5⟩:=EW;have Ks:=K5.not Fu bZ.lt;have bZ:=K5.eM bZ Fu;have K5:=K0.trans K5;clear K0 H hw Fu;have hw:=Ext.refl w5;have Sz:=hT.vs N7;cases q5 with
     | none =>
       have Fv:jP m0 m1 zi t f s6 pg (s6,pg):=by
        cases hT with
        | m9 he=>exact .m9 eX he
        | none he ht hu=>exact .none eX he ht hu
       repeat' (first|refine Wy ?_|(refine CW.gu rfl ?_))
       exact ae.dm rfl rfl rfl ⟨_,rfl,_,Qg _ (I1 _ Fv),rfl,p5,H5,K5⟩
     | some q5 =>
       obtain ⟨s7,b⟩:=q5;simp only [U5] at H5 Sz
       have Rv:∀ r,jP m0 m1 zi t f s7 (pg++[b]) r->jP m0 m1 zi t f s1 [] r:=fun r hr=>by
        cases hT with
        | ok he ht hu=>exact I1 _ (.more eX he ht hu hr)
       repeat' (first|refine Wy ?_|(refine CW.fY rfl ?_))
       repeat' (first|refine Wy ?_|refine Wm ((fun _ _=>bZ.cell)) ?_)
       obtain ⟨l3,l4⟩:=H5.ls.rd.len;have Tl:=Cn (pg:=pg) hq
       refine SW.dX rfl rfl (Kq k p5 s7 (km L x pg) x ⟨cpu,zi,t,.nil⟩ b wb _ H5 Mx rfl UU (DG hs hq) (by omega) (fun l hl=>by
        rcases Cm hq l hl with h|rfl
        ·have:=wA l h;omega
        ·simp only [fM];omega)) fun v w8 WM => ?_
       obtain ⟨p8,H8,K8⟩:=WM;have TV:=K8.not Ks bZ.lt;have bZ:=K8.eM bZ Ks;have K8:=K5.trans K8;rw [Hr hq] at H8;clear hw;have hw:=Ext.refl w8;repeat' (first|refine Wy ?_|fail);exact ae.again (p8,s7,pg++[b]) ⟨rfl,rfl,rfl,rfl,rfl,rfl,rfl,congrArg (fun z=>some (Value.int .i64 z)) (by simp),trivial⟩ (by simp;omega) ⟨by simp;omega,H8,Sz,bZ,TV,K8,Rv⟩
    ·have Fv:jP m0 m1 zi t f s6 pg (s6,pg) := .full (by omega)
     repeat' (first|refine Wy ?_|fail);exact ae.dm rfl rfl rfl ⟨_,rfl,_,Qg _ (I1 _ Fv),rfl,p6,H,K0⟩
 ·repeat' (first|refine Wy ?_|fail);(apply CW.bH mixed;(· kernel_rfl);rotate_left;intro w1 ai;obtain ⟨hw,H,bZ,K0⟩:=dv ai hw H bZ K0;clear ai;rotate_right);repeat' (first|refine Wy ?_|(refine CW.gu rfl ?_)|refine Wm ((fun _ _=>H.eM.cell)) ?_|refine Wm ((fun _ _=>bZ.cell)) ?_|refine SW.dK rfl rfl (fun w1 ai=>(cL _ (H.ls.rd.ext ai))) ?_|exact SW.eU rfl)
  clear cL;obtain ⟨iE,qX⟩:=j8 hq;simp only [ux] at iE qX;have gp:kp<p.li.n:=by omega
  have pM:kp<p.ls.length:=by omega
  have P0:=H.ls.each.get kp pM iE;have WN:=wA _ (adb iE);obtain ⟨y,hy⟩ : ∃ y,p.ls[kp]'pM=y:=⟨_,rfl⟩;obtain ⟨yL,TW⟩ : ∃ yL,L[kp].ax=yL:=⟨_,rfl⟩;rw [hy] at P0;have hP:=P0.bC;have pc:=P0.cpu;have pz:=P0.kr;have pt:=P0.ty;rw [TW] at hP WN;clear P0;have E6:=hP.len;have Q8:=hP.sl.base;have vw:y.ax.n-1<y.ax.n:=by omega
  have TX:dh L ⟨cpu,(zi:Int),t,[]⟩=yL:=by
   rw [<- hx,iQ hq (by omega)];simp only [ux,TW]
  have Su:dh L x=yL:=by rw [hx];exact TX
  have aap:=hP.le;have e3:(cm (p.ls[kp]'pM))[3]?=some (Value.slice y.ax.A y.ax.n y.ax.c):=by rw [hy];rfl
  have Ml:yL≠[]:=fun e=>by rw [e] at WN;simp at WN
  have D8:=Ht Ml (i:=y.ax.n-1) (by omega) (by omega);obtain ⟨a,ha⟩ : ∃ a,yL.getLast Ml=a:=⟨_,rfl⟩;rw [ha] at D8
  have Fv:jU m0 m1 cpu zi 0 t f s L (some (s,wL L x yL,a)):=by
   have:=jU.list (m0:=m0) (m1:=m1) (fl:=f) (s:=s) (o:=0) rfl (show dB L ⟨cpu,(zi:Int),t,[]⟩=true by rw [<- hx];exact hq) (by rw [TX];exact Ml)
   simp only [<- hx,Su,ha] at this;exact this
  repeat' (first|refine Wy ?_|refine SW.st (cf (y.ax.n-1) rfl rfl (by assumption) (by omega) (by omega)) rfl ?_|refine Wl (H.eM.cell (i:=3) (v := .slice p.li.A p.li.n p.li.c) rfl) ?_|refine Wl (H.ls.row.sl.jR gp (j:=3) e3) ?_|refine Wl (hP.sl.one vw (congrArg bw D8.symm)) ?_)
  refine CW.gn 17 17 (fun _=>True) mixed (by kernel_rfl) fun w1 ai aG => ?_
  obtain ⟨hw,H,hP,K0⟩:=dv ai hw H hP K0;clear ai;refine Wp 0 [] [] aG rfl rfl ?_;refine Wt 1 [] [] aG rfl (aF rfl) ?_;refine Wt 2 [] [] aG rfl (aA rfl) ?_;refine Wt 3 [] [] aG rfl (aU rfl (H.eM.cell (i:=3) (v := .slice p.li.A p.li.n p.li.c) rfl)) ?_;refine Wp 4 [] [] aG rfl rfl ?_;refine Wp 5 [] [] aG rfl rfl ?_;refine Wt 6 [] [] aG rfl (aF rfl) ?_;refine Wt 7 [] [] aG rfl (aA rfl) ?_;refine Wt 8 [] [] aG rfl (aU rfl (H.eM.cell (i:=3) (v := .slice p.li.A p.li.n p.li.c) rfl)) ?_;refine Wp 9 [] [] aG rfl rfl ?_;refine Wt 10 [] [] aG rfl (cd rfl rfl (by assumption) (by omega)) ?_;refine Wt 11 [] [] aG rfl (aA rfl) ?_;refine Wt 12 [] [] aG rfl (aU rfl (H.ls.row.sl.jR gp (j:=3) e3)) ?_;refine Wp 13 [] [] aG rfl rfl ?_;refine Wt 14 [] [] aG rfl (dn (k:=y.ax.n-1) rfl (congrArg (fun z=>some (Value.int .i64 z)) (by omega)) (by omega)) ?_;refine Wt 15 [16] [16] aG rfl (cd rfl rfl (by assumption) (by omega)) ?_;refine Wt 16 [] [] aG rfl (aA rfl) ?_;refine SF.last rfl (by kernel_rfl) (by kernel_rfl) ?_;refine SW.gZ kp 3 ⟨y.ga,y.ao,y.Ty,⟨y.ax.A,y.ax.n-1,y.ax.c⟩⟩ H.ls.row rfl rfl rfl gp (by decide) rfl (by rw [hy];rfl) fun w6 kD uf => ?_
  have Yx:ob (⟨y.ga,y.ao,y.Ty,⟨y.ax.A,y.ax.n-1,y.ax.c⟩⟩ : dx).ax=ob (p.ls[kp]'pM).ax:=by rw [hy];rfl
  have Bq:=hP.pre (i:=y.ax.n-1) (by omega);have edl:yL.take (y.ax.n-1)=yL.dropLast:=by rw [List.dropLast_eq_take,E6]
  rw [edl] at Bq;have H6:=HS.setRow (y:=⟨y.ga,y.ao,y.Ty,⟨y.ax.A,y.ax.n-1,y.ax.c⟩⟩) (l:=fM x yL.dropLast) H pM kD uf ⟨pc.trans qX.1,pz.trans qX.2.1,pt.trans qX.2.2,Bq⟩ Yx;have K6:pD w k p w6 ⟨p.u0,p.u1,p.li,p.ls.set kp ⟨y.ga,y.ao,y.Ty,⟨y.ax.A,y.ax.n-1,y.ax.c⟩⟩⟩:=K0.step uf (fun i e => .inl (.inr (.inr (.inl e)))) (fun i e => .inl (MX pM Yx e))
  by_cases h1:y.ax.n=1
  ·have eL:wL L x yL=(L.set kp (fM x yL.dropLast)).eraseIdx kp:=by rw [Hs (by omega),ux,List.eraseIdx_set_eq]
   obtain ⟨p6,Yy⟩ : ∃ p6:HP,p6=⟨p.u0,p.u1,p.li,p.ls.set kp ⟨y.ga,y.ao,y.Ty,⟨y.ax.A,y.ax.n-1,y.ax.c⟩⟩⟩:=⟨_,rfl⟩;have Yz:p6.li=p.li:=by rw [Yy]
   rw [<- Yy] at H6 K6;have WO:kp<p6.li.n:=by rw [Yz];exact gp
   clear hw;have hw:=Ext.refl w6;repeat' (first|refine Wy ?_|refine Wl (H6.eM.cell (i:=3) (v := .slice p6.li.A p6.li.n p6.li.c) rfl) ?_)
   refine SW.dX rfl rfl (Al p6.li.A p6.li.n p6.li.c wb.heap.size p6.ls _ H6.ls.row kp WO (by rw [Yz];omega) H6.low) fun v w7 WQ => ?_
   obtain ⟨rfl,hO7,Rw⟩:=WQ;have bf:=H6.eM.aK (H6.ls.Hy Rw) rfl;repeat' (first|refine Wy ?_|fail);refine Wb (i:=3) bf fun w8 bi Rx => ?_
   have H8:=HS.Rr H6 hO7 Rw bi Rx;have K7:=K6.step (p':=p6) Rw (fun i e => .inl (.inr (.inr (.inl e)))) (fun i e => .inl e);have K8:=K7.step Rx (fun i e=>by cases e;exact .inl (.inl rfl)) (fun i e => .inl (MY (i:=kp) e));repeat' (first|refine Wy ?_|fail);exact ae.dm rfl rfl rfl ⟨_,rfl,_,Fv,rfl,_,by simp only [Ru,eL];exact H8,K8⟩
  ·have eL:wL L x yL=L.set kp (fM x yL.dropLast):=by rw [MH (by omega),ux]
   repeat' (first|refine Wy ?_|fail);exact ae.dm rfl rfl rfl ⟨_,rfl,_,Fv,rfl,_,by simp only [Ru,eL];exact H6,K6⟩
variable {p0:HP} {zl:List Int} {sz:Nat} {e:TypeId} {enc:α -> List Value}
theorem pD.Pb {k:HK} {p:HP} (h:pD w0 k p0 w p) {n c:Nat} {l:List α} (hO:Own w0 lo e sz enc A n c l) (hn:∀ g,aJ A c=some g -> ¬ kH k p0 g) : Own w lo e sz enc A n c l:=by
 have eX:=hO.lt_size;refine ⟨hO.len,?_⟩;rcases hO.row with h1|⟨hc,g,jV,rfl,h1,h2,h3⟩
 ·exact .inl h1
 ·have hg:aJ (some (⟨g,0,none⟩ : Addr)) c=some g:=by simp [aJ,Nat.pos_iff_ne_zero.1 hc]
  exact .inr ⟨hc,g,jV,rfl,h1,by rw [h.block g (eX g hg) (hn g hg)];exact h2,h3⟩
def tkT (L:List aT) : Option ((ao×ao)×Int)->Option ((ao×ao)×List aT×Int)
 | none=>none
 | some q=>some (q.1,L,q.2)
theorem Qe.uL {s:ao×ao} {t:Int} {q:Option ((ao×ao)×Int)} (h:Qe m0 m1 s zi o t f q) (ho : 0<o) : jU m0 m1 cpu zi o t f s L (tkT L q):=by
 have oH : ¬ (o=0∧dB L ⟨cpu,zi,t,[]⟩=true):=fun h=>by omega
 cases h with
 | m9 he=>exact .m9 oH he
 | none he ht hu=>exact .none oH he ht hu
 | ok he ht hu=>exact .uL ho he ht hu
theorem vG {t:Int} {s:ao×ao} (hz:(zl=[1,0]∧f % 2=0)∨(zl=[0]∧f % 2=1)) (hj:j<zl.length) (hb:∀ (i:Nat) (h:i<zl.length),i<j->jU m0 m1 cpu zl[i] o t f s L none) (h:jU m0 m1 cpu zl[j] o t f s L (some r)) : ms m0 m1 cpu o t f s L (some r):=by
 rcases hz with ⟨rfl,hf⟩|⟨rfl,hf⟩
 ·have nR:j<2:=hj
  rcases adL j 1 with h1|h1
  ·obtain rfl:j=0:=by omega
   exact .wu hf h
  ·obtain rfl:j=1:=by omega
   exact .low (fun _=>hb 0 (by simp) (by omega)) h
 ·have nR:j<1:=hj
  obtain rfl:j=0:=by omega
  exact .low (fun e=>by omega) h
theorem Fw {t:Int} {s:ao×ao} (hz:(zl=[1,0]∧f % 2=0)∨(zl=[0]∧f % 2=1)) (hb:∀ (i:Nat) (h:i<zl.length),jU m0 m1 cpu zl[i] o t f s L none) : ms m0 m1 cpu o t f s L none:=by
 rcases hz with ⟨rfl,hf⟩|⟨rfl,hf⟩
 ·exact .low (fun _=>hb 0 (by simp)) (hb 1 (by simp))
 ·exact .low (fun e=>by omega) (hb 0 (by simp))
abbrev zA0 (g:Nat) : Option Addr:=some ⟨g,0,none⟩
abbrev zA1 (g:Nat) : Option Addr:=if 2=1 then some ⟨g,0,none⟩ else (some (⟨g,0,none⟩ : Addr)).map (·.add (1*1))
set_option maxHeartbeats 4000000 in
theorem xD (k:HK) (p:HP) (s:ao×ao) (L:List aT) (m0 m1 cpu o t f:Int) (wb w:World) (H:HS wb w k p s L) (hO:mN wb) (hM:Cx k.M m0 m1) (hv:VS s) (hs:EN L) (wA:∀ l∈L,1<=l.ax.length∧l.ax.length<=8) (OX:L.length<=256) (ho : 0<=o∧o<=4) (hf : 0<=f∧f<=15) :
 iO prog 63 [.pointer (some ⟨k.b,0,none⟩),.int .i64 cpu,.int .i64 o,.int .i64 t,.int .i64 f] w fun v w' => ∃ q,ms m0 m1 cpu o t f s L q∧v=Yv q ∧ ∃ p',HS wb w' k p' (TU s q) (Ru L q)∧pD w k p w' p':=by
 refine dl func63 rfl ntmps63 rfl ?_;have hw:=Ext.refl w;obtain ⟨q1,q2,q4,q8⟩:=wR hf;have TY:∀ i,w.heap.size<=i -> ¬ kH k p i:=fun i hi=>H.not hi
 have K0:=pD.refl w k p;refine Wz ?_;refine SW.wI (enc:=bw) 1 0 rfl rfl rfl rfl rfl rfl fun g w2 dE Wr hZ => ?_
 (obtain ⟨hw,H,K0⟩:=cn dE hw H K0);have hn:∀ j,aJ (some (⟨g,0,none⟩ : Addr)) 2=some j -> ¬ kH k p j:=fun j e=>TY j (by simp [aJ] at e;omega)
 obtain ⟨lo,dD⟩ : ∃ lo,w.heap.size=lo:=⟨_,rfl⟩;rw [dD] at hZ;clear TY dD;rcases (show f % 2=0∨f % 2=1 by omega) with WR|WR
 ·obtain ⟨zl,GV⟩ : ∃ zl:List Int,zl=[1,0]:=⟨_,rfl⟩;have Pc:(zl=[1,0]∧f % 2=0)∨(zl=[0]∧f % 2=1):=by rw [GV];exact .inl ⟨rfl,WR⟩
  obtain ⟨A,hA⟩ : ∃ A:Option Addr,A=(zA0 g):=⟨_,rfl⟩
  have WS:∀ w',Own w' lo 3 1 bw (some ⟨g,0,none⟩) 2 2 [1,0]->Sl w' 1 bw A 2 zl:=fun w' h=>by
   rw [GV,hA]
   first|exact h.sl|exact h.sl.drop 1 2 (by decide) (by decide)
  have N3:zl.length=2:=by rw [GV];rfl
  have Bw:∀ (j:Nat) (hj:j<zl.length),∃ zi:Nat,zl[j]=(zi:Int)∧zi<2:=fun j hj=>by
   rcases Pc with ⟨rfl,_⟩|⟨rfl,_⟩
   ·have nR:j<2:=hj
    rcases adL j 1 with h1|h1
    ·obtain rfl:j=0:=by omega
     exact ⟨1,rfl,by omega⟩
    ·obtain rfl:j=1:=by omega
     exact ⟨0,rfl,by omega⟩
   ·have nR:j<1:=hj
    obtain rfl:j=0:=by omega
    exact ⟨0,rfl,by omega⟩
  repeat' (first|refine Wz ?_|(refine SW.st (yK rfl rfl (by omega) (by decide)) rfl ?_))
  all_goals try omega
  refine CW.loop (fun u:Nat×HP=>[(0,.pointer (some ⟨k.b,0,none⟩)),(1,.int .i64 cpu),(2,.int .i64 o),(3,.int .i64 t),(4,.int .i64 f),(23,.slice A 2 2),(24,.int .i64 ((2:Nat) : Int)),(25,.int .i64 (u.1:Int))])
   (fun u w'=>u.1<=zl.length∧HS wb w' k u.2 s L∧pD w k p w' u.2∧Own w' lo 3 1 bw (some ⟨g,0,none⟩) 2 2 [1,0]∧(∀ j,aJ (some (⟨g,0,none⟩ : Addr)) 2=some j -> ¬ kH k u.2 j) ∧ ∀ (i:Nat) (h:i<zl.length),i<u.1->jU m0 m1 cpu zl[i] o t f s L none) (fun u=>zl.length-u.1) (0,p)
   ⟨rfl,rfl,rfl,rfl,rfl,by rw [hA];rfl,rfl,rfl,trivial⟩ ⟨by simp,H,K0,hZ,hn,fun i h h'=>by simp at h'⟩ ?_
  clear hw hZ H K0 hn;rintro ⟨j,p6⟩ w' ⟨hj,H,K0,hZ,hn,hb⟩
  simp only at hj H K0 hn hb ⊢;have hw:=Ext.refl w';have hS:=WS _ hZ;have hSA:=hS.base;by_cases eX:j<zl.length
  ·obtain ⟨zi,tc,MZ⟩:=Bw j eX;have WT:j<2:=by omega
   have fz:=hS.one WT (congrArg bw tc);by_cases OW:o=0
   ·repeat' (first|refine Wz ?_|refine Wl fz ?_)
    subst OW;refine SW.dX rfl rfl (Am k p6 s L m0 m1 cpu zi t f wb _ H hO hM hv hs wA OX MZ hf) fun v w5 EW => ?_
    obtain ⟨q5,hT,rfl,p5,H5,K5⟩:=EW;have Ry:=K5.Pb hZ hn;have Ks:∀ i,aJ (some (⟨g,0,none⟩ : Addr)) 2=some i -> ¬ kH k p5 i:=fun i e=>K5.not (hn i e) (hZ.lt_size i e)
    have K5:=K0.trans K5;clear hw;have hw:=Ext.refl w5;rw [<- tc] at hT;cases q5 with
    | none =>
      repeat' (first|refine Wz ?_|(refine CW.fY rfl ?_))
      exact ae.again (j+1,p5) ⟨rfl,rfl,rfl,rfl,rfl,rfl,rfl,rfl,trivial⟩ (by simp only;omega) ⟨by simp only;omega,H5,K5,Ry,Ks,fun i h h'=>by
       by_cases e:i=j
       ·subst e;exact hT
       ·exact hb i h (by simp only at h';omega)⟩
    | some q5 =>
      repeat' (first|refine Wz ?_|(refine CW.gu rfl ?_))
      exact ae.dm rfl rfl rfl ⟨_,rfl,_,vG Pc eX hb hT,rfl,p5,H5,K5⟩
   ·repeat' (first|refine Wz ?_|refine Wl fz ?_)
    refine SW.dX rfl rfl (vD k p6 s L m0 m1 zi o t f wb _ H (hO.ext H.base) hM hv MZ ho hf) fun v w5 EW => ?_
    obtain ⟨q5,hT,rfl,p5,H5,K5⟩:=EW;have Ry:=K5.Pb hZ hn;have Ks:∀ i,aJ (some (⟨g,0,none⟩ : Addr)) 2=some i -> ¬ kH k p5 i:=fun i e=>K5.not (hn i e) (hZ.lt_size i e)
    have K5:=K0.trans K5;clear hw;have hw:=Ext.refl w5;have hT:=hT.uL (cpu:=cpu) (L:=L) (by omega);rw [<- tc] at hT;cases q5 with
    | none =>
      repeat' (first|refine Wz ?_|(refine CW.fY rfl ?_))
      exact ae.again (j+1,p5) ⟨rfl,rfl,rfl,rfl,rfl,rfl,rfl,rfl,trivial⟩ (by simp only;omega) ⟨by simp only;omega,H5,K5,Ry,Ks,fun i h h'=>by
       by_cases e:i=j
       ·subst e;exact hT
       ·exact hb i h (by simp only at h';omega)⟩
    | some q5 =>
      repeat' (first|refine Wz ?_|(refine CW.gu rfl ?_))
      exact ae.dm rfl rfl rfl ⟨_,rfl,_,vG Pc eX hb hT,rfl,p5,H5,K5⟩
  ·refine Wz ?_;exact ae.dm rfl rfl rfl ⟨_,rfl,none,Fw Pc (fun i h=>hb i h (by omega)),rfl,p6,H,K0⟩
 ·obtain ⟨zl,GV⟩ : ∃ zl:List Int,zl=[0]:=⟨_,rfl⟩;have Pc:(zl=[1,0]∧f % 2=0)∨(zl=[0]∧f % 2=1):=by rw [GV];exact .inr ⟨rfl,WR⟩
  obtain ⟨A,hA⟩ : ∃ A:Option Addr,A=(zA1 g):=⟨_,rfl⟩
  have WS:∀ w',Own w' lo 3 1 bw (some ⟨g,0,none⟩) 2 2 [1,0]->Sl w' 1 bw A (2-1) zl:=fun w' h=>by
   rw [GV,hA]
   first|exact h.sl|exact h.sl.drop 1 2 (by decide) (by decide)
  have N3:zl.length=(2-1):=by rw [GV];rfl
  have Bw:∀ (j:Nat) (hj:j<zl.length),∃ zi:Nat,zl[j]=(zi:Int)∧zi<2:=fun j hj=>by
   rcases Pc with ⟨rfl,_⟩|⟨rfl,_⟩
   ·have nR:j<2:=hj
    rcases adL j 1 with h1|h1
    ·obtain rfl:j=0:=by omega
     exact ⟨1,rfl,by omega⟩
    ·obtain rfl:j=1:=by omega
     exact ⟨0,rfl,by omega⟩
   ·have nR:j<1:=hj
    obtain rfl:j=0:=by omega
    exact ⟨0,rfl,by omega⟩
  repeat' (first|refine Wz ?_|(refine SW.st (yK rfl rfl (by omega) (by decide)) rfl ?_)|(refine SW.st (bd (k:=1) rfl rfl (by omega) (by omega)) rfl ?_))
  all_goals try omega
  refine CW.loop (fun u:Nat×HP=>[(0,.pointer (some ⟨k.b,0,none⟩)),(1,.int .i64 cpu),(2,.int .i64 o),(3,.int .i64 t),(4,.int .i64 f),(23,.slice A (2-1) (2-1)),(24,.int .i64 (((2-1) : Nat) : Int)),(25,.int .i64 (u.1:Int))])
   (fun u w'=>u.1<=zl.length∧HS wb w' k u.2 s L∧pD w k p w' u.2∧Own w' lo 3 1 bw (some ⟨g,0,none⟩) 2 2 [1,0]∧(∀ j,aJ (some (⟨g,0,none⟩ : Addr)) 2=some j -> ¬ kH k u.2 j) ∧ ∀ (i:Nat) (h:i<zl.length),i<u.1->jU m0 m1 cpu zl[i] o t f s L none) (fun u=>zl.length-u.1) (0,p)
   ⟨rfl,rfl,rfl,rfl,rfl,by rw [hA];rfl,rfl,rfl,trivial⟩ ⟨by simp,H,K0,hZ,hn,fun i h h'=>by simp at h'⟩ ?_
  clear hw hZ H K0 hn;rintro ⟨j,p6⟩ w' ⟨hj,H,K0,hZ,hn,hb⟩
  simp only at hj H K0 hn hb ⊢;have hw:=Ext.refl w';have hS:=WS _ hZ;have hSA:=hS.base;by_cases eX:j<zl.length
  ·obtain ⟨zi,tc,MZ⟩:=Bw j eX;have WT:j<(2-1):=by omega
   have fz:=hS.one WT (congrArg bw tc);by_cases OW:o=0
   ·repeat' (first|refine Wz ?_|refine Wl fz ?_)
    subst OW;refine SW.dX rfl rfl (Am k p6 s L m0 m1 cpu zi t f wb _ H hO hM hv hs wA OX MZ hf) fun v w5 EW => ?_
    obtain ⟨q5,hT,rfl,p5,H5,K5⟩:=EW;have Ry:=K5.Pb hZ hn;have Ks:∀ i,aJ (some (⟨g,0,none⟩ : Addr)) 2=some i -> ¬ kH k p5 i:=fun i e=>K5.not (hn i e) (hZ.lt_size i e)
    have K5:=K0.trans K5;clear hw;have hw:=Ext.refl w5;rw [<- tc] at hT;cases q5 with
    | none =>
      repeat' (first|refine Wz ?_|(refine CW.fY rfl ?_))
      exact ae.again (j+1,p5) ⟨rfl,rfl,rfl,rfl,rfl,rfl,rfl,rfl,trivial⟩ (by simp only;omega) ⟨by simp only;omega,H5,K5,Ry,Ks,fun i h h'=>by
       by_cases e:i=j
       ·subst e;exact hT
       ·exact hb i h (by simp only at h';omega)⟩
    | some q5 =>
      repeat' (first|refine Wz ?_|(refine CW.gu rfl ?_))
      exact ae.dm rfl rfl rfl ⟨_,rfl,_,vG Pc eX hb hT,rfl,p5,H5,K5⟩
   ·repeat' (first|refine Wz ?_|refine Wl fz ?_)
    refine SW.dX rfl rfl (vD k p6 s L m0 m1 zi o t f wb _ H (hO.ext H.base) hM hv MZ ho hf) fun v w5 EW => ?_
    obtain ⟨q5,hT,rfl,p5,H5,K5⟩:=EW;have Ry:=K5.Pb hZ hn;have Ks:∀ i,aJ (some (⟨g,0,none⟩ : Addr)) 2=some i -> ¬ kH k p5 i:=fun i e=>K5.not (hn i e) (hZ.lt_size i e)
    have K5:=K0.trans K5;clear hw;have hw:=Ext.refl w5;have hT:=hT.uL (cpu:=cpu) (L:=L) (by omega);rw [<- tc] at hT;cases q5 with
    | none =>
      repeat' (first|refine Wz ?_|(refine CW.fY rfl ?_))
      exact ae.again (j+1,p5) ⟨rfl,rfl,rfl,rfl,rfl,rfl,rfl,rfl,trivial⟩ (by simp only;omega) ⟨by simp only;omega,H5,K5,Ry,Ks,fun i h h'=>by
       by_cases e:i=j
       ·subst e;exact hT
       ·exact hb i h (by simp only at h';omega)⟩
    | some q5 =>
      repeat' (first|refine Wz ?_|(refine CW.gu rfl ?_))
      exact ae.dm rfl rfl rfl ⟨_,rfl,_,vG Pc eX hb hT,rfl,p5,H5,K5⟩
  ·refine Wz ?_;exact ae.dm rfl rfl rfl ⟨_,rfl,none,Fw Pc (fun i h=>hb i h (by omega)),rfl,p6,H,K0⟩
theorem Kt (k:HK) (p:HP) (s:ao×ao) (L:List aT) (bs:List Block) (b:Block) (wb w:World) (H:HS wb w k p s L) (hD:qQ s bs) (hN:pY bs b) :
 iO prog 95 [.pointer (some ⟨k.b,0,none⟩),.int .i64 b.At,.int .i64 b.Order] w fun v w' => ∃ p',p'.li=p.li∧p'.ls=p.ls∧HS wb w' k p' (gB s b) L∧pD w k p w' p':=by
 refine dl func95 rfl ntmps95 rfl ?_;have hw:=Ext.refl w;have H0:=H;have eT:=H.zs.z0.pj;obtain ⟨q1,q2,q3,q4⟩:=td H.zs.z0 hD.lW;obtain ⟨p1,p2,p3,p4⟩:=td H.zs.z1 hD.lG;have hA:=H.zs.row.sl.base;have cz:∀ w',Sl w' 4 dt (some ⟨k.g,0,none⟩) 2 [p.u0,p.u1]->bF prog 96 [.agg (dG (k.h p)).toArray,.int .i64 b.At] w' fun v _=>v = .int .i64 (if b.At<p.u0.To then 0 else 1):=fun w' h=>wG (k.h p) p.u0 p.u1 b.At w' h
 by_cases hx:b.At<p.u0.To
 ·have eP:gB s b=sJ s ((0:Nat) : Int) (fT s.1 b.At b.Order).2:=by unfold gB;rw [if_pos (by omega)];simp [sJ]
  simp only [if_pos hx] at cz;have k0 : 0<2:=by omega
  repeat' (first|refine Wz ?_|refine Wm ((fun _ _=>H.eM.cell)) ?_|(refine Wk (cz _ H.zs.row.sl) ?_;intro v w1 ai hv;subst hv;obtain ⟨hw,H⟩:=df ai hw H;clear ai))
  refine CW.gn 19 19 (fun _=>True) mixed (by kernel_rfl) fun w1 ai aG => ?_
  obtain ⟨hw,H⟩:=df ai hw H;clear ai;refine Wp 0 [] [] aG rfl rfl ?_;refine Wt 1 [] [] aG rfl (aF rfl) ?_;refine Wt 2 [] [] aG rfl (aA rfl) ?_;refine Wt 3 [] [] aG rfl (aU rfl (H.eM.cell rfl)) ?_;refine Wp 4 [] [] aG rfl rfl ?_;refine Wp 5 [] [] aG rfl rfl ?_;refine Wt 6 [] [] aG rfl (aF rfl) ?_;refine Wt 7 [] [] aG rfl (aA rfl) ?_;refine Wt 8 [] [] aG rfl (aU rfl (H.eM.cell rfl)) ?_;refine Wp 9 [] [] aG rfl rfl ?_;refine Wt 10 [] [] aG rfl (cd rfl rfl (by assumption) (by omega)) ?_;refine Wt 11 [] [] aG rfl (aX rfl rfl ((H.zs.row.sl.all k0))) ?_;refine Wp 12 [] [] aG rfl rfl ?_;refine Wp 13 [] [] aG rfl rfl ?_;refine SF.one 14 rfl (by kernel_rfl) rfl ?_;refine Wk (pT p.u0 s.1 b.At b.Order _ H.zs.z0.rd q1 q2 ⟨by omega,by omega⟩ ⟨by omega,by omega⟩) fun v w4 ak hv => ?_
  obtain ⟨u',rfl,nt⟩:=hv;have nt:=nt.low hw.size;(obtain ⟨hw,H⟩:=df ak hw H);refine SW.nil (ae.sf ak ?_);refine Wp 15 [] [] aG rfl rfl ?_;refine Wp 16 [] [] aG rfl rfl ?_;refine SF.jb 17 aG rfl (by kernel_rfl) (by kernel_rfl) rfl (fun _=>aR rfl) rfl ?_;refine Wt 18 [] [] aG rfl (cd rfl rfl (by assumption) (by omega)) ?_;refine SF.last rfl (by kernel_rfl) (by kernel_rfl) ?_;refine SW.p7 (enc:=dt) 0 u' H.zs.row rfl rfl k0 fun w5 OV hg => ?_
  rw [H.zs.own] at hg;have H5:=HS.Rq H0 H k0 OV hg nt;have hK:pD w k p w5 (Ak p 0 u'):=((pD.refl w k p).ext hw).step hg (fun i e=>by cases e;exact .inl (.inr (.inl rfl))) (fun i e => .inl (wQ.1 e))
  refine Wz ?_;exact ae.pV rfl ⟨_,rfl,Ak p 0 u',tr.1,tr.2,by rw [eP];exact H5,hK⟩
 ·have eP:gB s b=sJ s ((1:Nat) : Int) (fT s.2 b.At b.Order).2:=by unfold gB;rw [if_neg (by omega)];simp [sJ]
  simp only [if_neg hx] at cz;have k0 : 1<2:=by omega
  repeat' (first|refine Wz ?_|refine Wm ((fun _ _=>H.eM.cell)) ?_|(refine Wk (cz _ H.zs.row.sl) ?_;intro v w1 ai hv;subst hv;obtain ⟨hw,H⟩:=df ai hw H;clear ai))
  refine CW.gn 19 19 (fun _=>True) mixed (by kernel_rfl) fun w1 ai aG => ?_
  obtain ⟨hw,H⟩:=df ai hw H;clear ai;refine Wp 0 [] [] aG rfl rfl ?_;refine Wt 1 [] [] aG rfl (aF rfl) ?_;refine Wt 2 [] [] aG rfl (aA rfl) ?_;refine Wt 3 [] [] aG rfl (aU rfl (H.eM.cell rfl)) ?_;refine Wp 4 [] [] aG rfl rfl ?_;refine Wp 5 [] [] aG rfl rfl ?_;refine Wt 6 [] [] aG rfl (aF rfl) ?_;refine Wt 7 [] [] aG rfl (aA rfl) ?_;refine Wt 8 [] [] aG rfl (aU rfl (H.eM.cell rfl)) ?_;refine Wp 9 [] [] aG rfl rfl ?_;refine Wt 10 [] [] aG rfl (cd rfl rfl (by assumption) (by omega)) ?_;refine Wt 11 [] [] aG rfl (aX rfl rfl ((H.zs.row.sl.all k0))) ?_;refine Wp 12 [] [] aG rfl rfl ?_;refine Wp 13 [] [] aG rfl rfl ?_;refine SF.one 14 rfl (by kernel_rfl) rfl ?_;refine Wk (pT p.u1 s.2 b.At b.Order _ H.zs.z1.rd p1 p2 ⟨by omega,by omega⟩ ⟨by omega,by omega⟩) fun v w4 ak hv => ?_
  obtain ⟨u',rfl,nt⟩:=hv;have nt:=nt.low hw.size;(obtain ⟨hw,H⟩:=df ak hw H);refine SW.nil (ae.sf ak ?_);refine Wp 15 [] [] aG rfl rfl ?_;refine Wp 16 [] [] aG rfl rfl ?_;refine SF.jb 17 aG rfl (by kernel_rfl) (by kernel_rfl) rfl (fun _=>aR rfl) rfl ?_;refine Wt 18 [] [] aG rfl (cd rfl rfl (by assumption) (by omega)) ?_;refine SF.last rfl (by kernel_rfl) (by kernel_rfl) ?_;refine SW.p7 (enc:=dt) 1 u' H.zs.row rfl rfl k0 fun w5 OV hg => ?_
  rw [H.zs.own] at hg;have H5:=HS.Rq H0 H k0 OV hg nt;have hK:pD w k p w5 (Ak p 1 u'):=((pD.refl w k p).ext hw).step hg (fun i e=>by cases e;exact .inl (.inr (.inl rfl))) (fun i e => .inl (wQ.1 e))
  refine Wz ?_;exact ae.pV rfl ⟨_,rfl,Ak p 1 u',tr.1,tr.2,by rw [eP];exact H5,hK⟩
theorem HS.drop {k:HK} {p:HP} {s:ao×ao} (h:HS wb w k p s L) (hb:aS w' k.b 41 (dG (k.h ⟨p.u0,p.u1,.nil,[]⟩))) (hg:w.grownBy w' (some k.b)) : HS wb w' k ⟨p.u0,p.u1,.nil,[]⟩ s []:=by
 have hG:=h.eM.gr hg;exact ⟨hb,h.zs.aK hG rfl,h.eE.aK hG rfl,h.live.aK hG rfl,gl.nil _ _,vf.nil _ _,h.sf,h.MV,h.base.own h.MV hg⟩
theorem Ku {k:HK} {p:HP} (h:kH k ⟨p.u0,p.u1,.nil,[]⟩ i) : kH k p i:=by
 rcases h with h|h|h|⟨z,hz,h⟩
 ·exact .inl h
 ·exact .inr (.inl h)
 ·cases h
 ·simp at hz
set_option maxHeartbeats 2000000 in
theorem HA (k:HK) (p:HP) (h:Heap) (z0 z1:ao) (hd:n7 h z0 z1) (hs:h.small) (wb w:World) (H:HS wb w k p (z0,z1) h.av) :
 iO prog 64 [.pointer (some ⟨k.b,0,none⟩)] w fun v w' => ∃ p',HS wb w' k p' (bX (z0,z1) (bc h.av)) []∧pD w k p w' p':=by
 refine dl func64 rfl ntmps64 rfl ?_;have hw:=Ext.refl w;have mH:=H.ls.rd.len;have s4:=hs.lists;have Q8:=H.ls.row.sl.base;repeat' (first|refine Wz ?_|refine Wl (H.eM.cell rfl) ?_)
 refine CW.loop (fun t:Nat×HP=>[(0,.pointer (some ⟨k.b,0,none⟩)),(9,.slice p.li.A p.li.n p.li.c),(10,.int .i64 (p.li.n:Int)),(11,.int .i64 (t.1:Int))])
  (fun t w'=>t.1<=p.li.n∧t.2.li=p.li∧t.2.ls=p.ls∧HS wb w' k t.2 (lK h z0 z1 (ku h.av t.1)) h.av∧pD w k p w' t.2) (fun t=>p.li.n-t.1) (0,p)
  ⟨rfl,rfl,rfl,rfl,trivial⟩ ⟨by omega,rfl,rfl,by simpa [lK,ku,bc,bX] using H,pD.refl _ _ _⟩ ?_
 clear hw H Q8;rintro ⟨i,p1⟩ w ⟨hi,e1,e2,H,K0⟩
 simp only at hi e1 e2 H K0 ⊢;have hw:=Ext.refl w;have gm:Sl w 4 cm p.li.A p.li.n p.ls:=by have:=H.ls.row.sl;rwa [e1,e2] at this
 have hA:=gm.base;by_cases cy:i<p.li.n
 ·have tF:i<h.av.length:=by omega
  have By:i<p.ls.length:=by omega
  have E6:h.av[i].ax.length=(p.ls[i]'By).ax.n:=by
   have:=(H.ls.each.get i (by rw [e2];exact By) tF).bC.len
   simpa only [e2] using this
  have Ln:=hs.bC _ (adb tF);obtain ⟨y,hy⟩ : ∃ y,p.ls[i]'By=y:=⟨_,rfl⟩;have M0:=gm.all cy;rw [hy] at M0 E6;repeat' (first|refine Wz ?_|refine Wm M0 ?_)
  refine SW.alloc rfl fun b3 w1 ai cg aq => ?_
  skip;refine SW.ag aq rfl rfl rfl rfl (iy.one (enc:=cm) _) fun w2 ed hg => ?_
  have ak:=ai.own cg hg;have gd:w.heap.size<=b3:=adf hw.size cg
  replace hw:=Ext.trans hw ak;replace H:=H.ext ak;replace K0:=K0.ext ak;replace aq:=ed;clear ed ai hg ak
  have IM:∀ (w':World) (q:HP) (s:ao×ao),q.ls=p.ls->HS wb w' k q s h.av->Own w' wb.heap.size 3 1 bw y.ax.A y.ax.n y.ax.c h.av[i].ax:=fun w' q s eq hh=>by
   have:=(hh.ls.each.get i (by rw [eq];exact By) tF).bC
   simpa only [eq,hy] using this
  have hP:=IM _ p1 _ e2 H;have Mt:=hP.sl.base;repeat' (first|refine Wz ?_|fail)
  refine CW.loop (fun t:Nat×HP=>[(0,.pointer (some ⟨k.b,0,none⟩)),(9,.slice p.li.A p.li.n p.li.c),(10,.int .i64 (p.li.n:Int)),(11,.int .i64 (i:Int)),(16,.slice y.ax.A y.ax.n y.ax.c),(17,.int .i64 (y.ax.n:Int)),(18,.int .i64 (t.1:Int))])
   (fun t w'=>t.1<=y.ax.n∧t.2.li=p.li∧t.2.ls=p.ls∧HS wb w' k t.2 (lK h z0 z1 (ku h.av i+t.1)) h.av∧pD _ k p w' t.2) (fun t=>y.ax.n-t.1) (0,p1)
   ⟨rfl,rfl,rfl,rfl,rfl,rfl,rfl,trivial⟩ ⟨by omega,e1,e2,H,K0⟩ ?_
  clear hw H K0 aq hP Mt gm M0 cg gd e1 e2 p1;rintro ⟨j,p1⟩ w' ⟨hj,e1,e2,H,K0⟩
  simp only at hj e1 e2 H K0 ⊢;have hw:=Ext.refl w';have hP:=IM _ p1 _ e2 H;have Mt:=hP.sl.base;by_cases pO:j<y.ax.n
  ·have rK:j<h.av[i].ax.length:=by omega
   obtain ⟨hK,Tq⟩:=yB tF rK;have hN:=hd.next hK;have hD:=hd.inv (ku h.av i+j) (by omega);have hT:=nw (z0,z1) (bc h.av) _ hK;rw [Tq] at hN hT;have Sm:lK h z0 z1 (ku h.av i+(j+1))=gB (lK h z0 z1 (ku h.av i+j)) (cu h.av[i].ax[j]):=hT
   repeat' (first|refine Wz ?_|refine Wl (hP.sl.one pO rfl) ?_)
   refine SW.dX rfl rfl (Kt k p1 _ h.av _ (cu h.av[i].ax[j]) wb _ H hD hN) fun v w5 hv => ?_
   obtain ⟨p2,e3,e4,H5,K5⟩:=hv;repeat' (first|refine Wz ?_|fail);refine ae.again (j+1,p2) ⟨rfl,rfl,rfl,rfl,rfl,rfl,rfl,trivial⟩ (by simp only;omega) ⟨by simp only;omega,e3.trans e1,e4.trans e2,?_,K0.trans K5⟩;simp only;rw [Sm];exact H5
  ·have ej:ku h.av i+j=ku h.av (i+1):=by rw [zE tF];omega
   rw [ej] at H;repeat' (first|refine Wz ?_|fail);exact ae.again (i+1,p1) ⟨rfl,rfl,rfl,rfl,trivial⟩ (by simp only;omega) ⟨by simp only;omega,e1,e2,H,K0⟩
 ·have ei:i=h.av.length:=by omega
  have Rb:lK h z0 z1 (ku h.av i)=bX (z0,z1) (bc h.av):=by
   rw [ei,Dt,lK,adr (adg _)]
  rw [Rb] at H;repeat' (first|refine Wz ?_|fail);refine SW.sb (i:=3) H.eM rfl rfl rfl rfl fun w6 tE hg => ?_
  have H6:=H.drop tE hg;have K6:=K0.step hg (fun i e=>by cases e;exact .inl (.inl rfl)) (fun i e => .inl (Ku e));repeat' (first|refine Wz ?_|fail);exact ae.pV rfl ⟨_,rfl,_,H6,K6⟩
variable {cs:List Value}
theorem An (r:jy) (l:List Block) (a:Int) (w:World) (hl:Sl w 3 aO r.Live.A r.Live.n l) (hu:l.Pairwise fun x y=>x.At<y.At) (hb:∀ b∈l,0<=b.At∧b.At<=255) (hn:r.Live.n<=1000000000000000000) (ha : 0<=a∧a<256) :
 bF prog 65 [.agg (dG r).toArray,.int .i64 a] w fun v _=>v = .tuple #[.int .i64 (bE l a:Int),.bool (bP l a)]:=by
 refine aC func65 rfl ntmps65 rfl ?_;refine CW.seq (CW.region (SW.box rfl rfl fun b1 w1 hw lp aZ => ?_));refine Wz ?_
 refine Wk (jz _ _ _ _ a _ (hl.ext hw) _ (fun x hx w' _=>by
  have:=sv x a w'
  have h:=hb x hx;rwa [jl (by omega) (by omega)] at this) hu hn) fun v w2 bt hv => ?_
 subst hv;have hw:=hw.trans bt;refine Wz ?_;exact ae.dm rfl rfl rfl ⟨_,rfl,hw,rfl⟩
def oq (lo:Nat) (u:Heap×Int×Int) (v:Value) (w:World) : Prop := ∃ s:jy,v = .tuple #[.agg (dG s).toArray,.int .i64 u.2.1,.int .i64 u.2.2]∧jH w lo s u.1
theorem oq.zero (e:Int) (lo:Nat) (w:World) : oq lo (.zero,0,e) (.tuple #[.agg (dG .zero).toArray,.int .i64 0,.int .i64 e]) w:=⟨.zero,rfl,jH.zero w lo⟩
theorem HS.M1 {k:HK} {p:HP} {s:ao×ao} (h:HS wb w k p s L) (hB:aS w i 41 cs) (bJ:i≠k.b) : ¬ kH k p i:=fun hm=>by
 rcases hm with e|e|e|⟨y,hy,e⟩
 ·exact bJ e
 ·exact h.zs.row.fi hB rfl (by rw [h.zs.own,e])
 ·exact h.ls.row.fi hB rfl e
 ·obtain ⟨l,_,hl⟩:=h.G8 hy;exact hl.bC.fi hB rfl e
theorem M3 {h:Heap} (hm:bK h) : Cx h.dO (kY h 0) (kY h 1):=by
 obtain ⟨m0,m1,e,h0,h1⟩:=hm.eE;unfold kY;rw [e];exact ⟨rfl,h0,h1⟩
set_option maxHeartbeats 8000000 in
theorem qp (r:jy) (h:Heap) (cpu o f:Int) (w:World) (hr:Iz w r h) (hs:h.small) (N3:∀ z∈h.bp,fL z) (hO:mN w) :
 bF prog 28 [.agg (dG r).toArray,.int .i64 cpu,.int .i64 o,.int .i64 f] w fun v w' => ∃ u,cU h cpu o f u∧oq w.heap.size u v w':=by
 refine aC func28 rfl ntmps28 rfl ?_;refine CW.seq (CW.region (SW.box rfl rfl fun b4 w1 hw fP aI => ?_));have eH:=fP;refine SW.alloc rfl fun b8 w2 bt oG bi => ?_
 have gG:w.heap.size<=b8:=adf hw.size oG
 have Ao:b4≠b8:=by have:=aI.lt;omega
 (replace hw:=Ext.trans hw bt;replace aI:=aI.ext bt);have eC:=hr.cpus;obtain ⟨q,hq⟩ : ∃ q,je h=q:=⟨_,rfl⟩
 have c1:∀ w',Ext w w'->bF prog 61 [.agg (dG r).toArray] w' fun v _=>v = .int .i64 (if q then 0 else 8):=fun w' hx=>by
  have:=qT r h w' (hr.ext hx) hs N3
  rwa [hq] at this
 cases q
 ·simp only [Bool.false_eq_true,if_false] at c1;repeat' (first|refine Wy ?_|refine Wm ((fun _ _=>aI.cell)) ?_|(refine Wk (c1 _ hw) ?_;intro v w1 ai hv;subst hv;replace hw:=Ext.trans hw ai;replace aI:=aI.ext ai;replace bi:=bi.ext ai;clear ai))
  refine SW.ag bi rfl rfl rfl rfl (dY .zero) fun w5 cX hg => ?_
  replace hw:=hw.own gG hg;repeat' (first|refine Wy ?_|fail);exact ae.fg rfl rfl rfl rfl cX rfl ⟨_,rfl,hw,_,.bad hq,oq.zero 8 _ _⟩
 ·simp only [if_true] at c1;have hm:=cq.1 hq;obtain ⟨z0,z1,F⟩:=gC hm;by_cases hc:(0<=cpu∧cpu<h.bG)∧0<=o∧o<=4
  ·obtain ⟨q2,lA⟩ : ∃ q2,decide (0<=jE f)=q2:=⟨_,rfl⟩
   have c2:∀ w',bF prog 62 [.int .i64 f] w' fun v _=>v = .tuple #[.int .i64 (if 0<=jE f then jE f else 0),.bool q2]:=fun w'=>by
    have:=Hz f w'
    rwa [lA] at this
   cases q2
   ·have ht:=of_decide_eq_false lA;repeat' (first|refine Wy ?_|(refine CW.gu rfl ?_)|refine Wm ((fun _ _=>aI.cell)) ?_|refine Wl (aI.cell (i:=2) (v := .int .i64 r.bG) rfl) ?_|((first|refine Wk (c1 _ hw) ?_|refine Wk (c2 _) ?_);intro v w1 ai hv;subst hv;replace hw:=Ext.trans hw ai;replace aI:=aI.ext ai;replace bi:=bi.ext ai;clear ai))
    all_goals try omega
    refine SW.ag bi rfl rfl rfl rfl (dY .zero) fun w5 cX hg => ?_
    replace hw:=hw.own gG hg;repeat' (first|refine Wy ?_|fail);exact ae.fg rfl rfl rfl rfl cX rfl ⟨_,rfl,hw,_,.form hq hc (by omega),oq.zero 3 _ _⟩
   ·have ht:=of_decide_eq_true lA;obtain ⟨hf,zt⟩:=sI ht;obtain ⟨t,Pd⟩ : ∃ t,jE f=t:=⟨_,rfl⟩;have rN : 0<=t:=by rw [<- Pd];exact ht
    simp only [Pd,if_pos rN] at c2;repeat' (first|refine Wy ?_|(refine CW.fY rfl ?_)|refine Wm ((fun _ _=>aI.cell)) ?_|refine Wl (aI.cell (i:=2) (v := .int .i64 r.bG) rfl) ?_|((first|refine Wk (c1 _ hw) ?_|refine Wk (c2 _) ?_);intro v w1 ai hv;subst hv;replace hw:=Ext.trans hw ai;replace aI:=aI.ext ai;replace bi:=bi.ext ai;clear ai))
    all_goals try omega
    clear c1 c2;refine Wk (ul r h _ (hr.ext hw) hs) fun v w4 kz hv => ?_
    obtain ⟨s,rfl,M4⟩:=hv;have hM:=M4.own.eE.low hw.size;have hV:=M4.own.live.low hw.size;have BB:=M4.own.cpus;obtain ⟨g,c,u0,u1,ls,eZ,hZ,hL,xU,N2⟩:=M4.split F.d.ct;have hZ:gD w4 w.heap.size g c u0 u1 (z0,z1):=⟨hZ.row.low hw.size,hZ.z0.low hw.size,hZ.z1.low hw.size,adf hw.size hZ.IL,hZ.pos⟩
    replace hL:=hL.low hw.size;clear M4;(replace hw:=Ext.trans hw kz;replace aI:=aI.ext kz;replace bi:=bi.ext kz);obtain ⟨sz,m,cp,li,lv⟩:=s;simp only at eZ hM hV hL xU N2 BB;subst eZ;refine SW.ag aI rfl rfl rfl rfl (dY ⟨⟨some ⟨g,0,none⟩,2,c⟩,m,cp,li,lv⟩) fun w5 de hg => ?_
    have hG:=aI.gr hg;replace hw:=hw.own eH hg;replace bi:=bi.grown hg (by simpa using Ne.symm Ao);(replace hZ:=hZ.aK hG rfl;replace hM:=hM.aK hG rfl;replace hV:=hV.aK hG rfl;replace hL:=hL.aK hG rfl);have H:HS w w5 ⟨b4,g,c,m,lv,cp,h.dO,h.Live⟩ ⟨u0,u1,li,ls⟩ (z0,z1) h.av:=⟨de,hZ,hM,hV,hL,xU,N2,eH,hw⟩
    obtain ⟨k,hk⟩ : ∃ k:HK,k=⟨b4,g,c,m,lv,cp,h.dO,h.Live⟩:=⟨_,rfl⟩;obtain ⟨p0,BC⟩ : ∃ p:HP,p=⟨u0,u1,li,ls⟩:=⟨_,rfl⟩;rw [<- hk,<- BC] at H;have ekb:k.b=b4:=by rw [hk]
    have U7:k.V=h.Live:=by rw [hk]
    have WU:k.M=h.dO:=by rw [hk]
    have YA:k.cp=h.bG:=by rw [hk];exact BB
    clear aI de hZ hM hV hL xU N2 hG hg hk BC BB;subst ekb;have YB:Cx k.M (kY h 0) (kY h 1):=by rw [WU];exact M3 hm
    have Eb:=F.d.start.vs;have TV:=H.M1 bi (Ne.symm Ao);have eX:=kQ F.live
    have S8:∀ b∈h.Live,0<=b.At∧b.At<=255:=fun b hb=>by
     obtain ⟨j,hj,rfl⟩:=ade hb;have:=(F.next hj).at_
     omega
    have mH:=Fl F;repeat' (first|refine Wy ?_|fail);refine SW.dX rfl rfl (xD k p0 (z0,z1) h.av _ _ cpu o t f w _ H hO YB Eb F.n9 F.lists F.count hc.2 hf) fun v w6 N7 => ?_
    obtain ⟨q1,oT,rfl,p1,H1,K1⟩:=N7;have M5:=K1.not TV bi.lt;replace bi:=K1.eM bi TV;clear H hw TV;have hw:=H1.base;cases q1 with
    | none =>
      simp only [TU,Ru] at H1;have YC:=fO F.d;repeat' (first|refine Wy ?_|(refine CW.gu rfl ?_))
      refine SW.dX rfl rfl (HA k p1 h z0 z1 F.d hs w _ H1) fun v w7 WQ => ?_
      obtain ⟨p2,H2,K2⟩:=WQ;have Rz:=K2.not M5 bi.lt;replace bi:=K2.eM bi M5;clear H1 hw M5;have hw:=H2.base;repeat' (first|refine Wy ?_|fail);refine SW.dX rfl rfl (xD k p2 _ [] _ _ cpu o t f w _ H2 hO YB YC.vs List.Pairwise.nil (fun l hl=>by simp at hl) (by simp) hc.2 hf) fun v w8 WM => ?_
      obtain ⟨q3,WV,rfl,p3,H3,K3⟩:=WM;have TZ:=K3.not Rz bi.lt;replace bi:=K3.eM bi Rz;clear H2 hw Rz;have hw:=H3.base;cases q3 with
      | none =>
        repeat' (first|refine Wy ?_|(refine CW.gu rfl ?_))
        refine SW.ag bi rfl rfl rfl rfl (dY .zero) fun w5 cX hg => ?_
        replace hw:=hw.own gG hg;repeat' (first|refine Wy ?_|fail);exact ae.fg rfl rfl rfl rfl cX rfl ⟨_,rfl,hw,_,.room hq hc ht F.d.ct (by rw [Pd];exact oT) (by rw [Pd];exact WV),oq.zero 6 _ _⟩
      | some q3 =>
        obtain ⟨s3,L3,a⟩:=q3;simp only [TU,Ru] at H3;obtain ⟨i,T0,Rn,O7⟩:=ol F (WV.found YC.vs).2;have T0:a=(i:Int):=T0
        have WW:cU h cpu o f (na h s3 L3 (dU h a o t),a,0):=by
         have:=cU.gE hq hc ht F.d.ct (by rw [Pd];exact oT) (by rw [Pd];exact WV)
         rw [Pd] at this;exact this
        have So:=H3.live.len;rw [U7] at So;obtain ⟨fd,WX⟩ : ∃ fd,bP h.Live a=fd:=⟨_,rfl⟩
        have c3:∀ w',Sl w' 3 aO k.lv.A k.lv.n h.Live->bF prog 65 [.agg (dG (k.h p3)).toArray,.int .i64 a] w' fun v _=>v = .tuple #[.int .i64 (bE h.Live a:Int),.bool fd]:=fun w' hh=>by
         have:=An (k.h p3) h.Live a w' hh eX S8 (by simp only;omega) ⟨by omega,by omega⟩
         rwa [WX] at this
        have hV:=H3.live;rw [U7] at hV;have aI:=H3.eM;have hZ:=H3.zs;have hM:=H3.eE;have hL:=H3.ls;rw [WU] at hM;have Sy:=H3.sf;clear H3;have PY:=hV.lt_size;repeat' (first|refine Wy ?_|(refine CW.fY rfl ?_)|refine Wm ((fun _ _=>aI.cell)) ?_|(refine Wk (c3 _ hV.sl) ?_;intro v w1 ai hv;subst hv;replace hw:=Ext.trans hw ai;replace aI:=aI.ext ai;replace bi:=bi.ext ai;replace hV:=hV.ext ai;replace hZ:=hZ.ext ai;replace hM:=hM.ext ai;replace hL:=hL.ext ai;clear ai))
        repeat' (first|refine Wy ?_|refine Wl (aI.cell (i:=4) (v := .slice k.lv.A k.lv.n k.lv.c) rfl) ?_)
        refine SW.dI rfl rfl rfl rfl rfl fun b w9 ak VW hB => ?_
        have wk:aJ k.lv.A k.lv.c≠some b:=fun e=>by have:=hV.lt_size _ e;omega
        (replace hw:=Ext.trans hw ak;replace aI:=aI.ext ak;replace bi:=bi.ext ak;replace hV:=hV.ext ak;replace hZ:=hZ.ext ak;replace hM:=hM.ext ak;replace hL:=hL.ext ak);skip;have Bg:bE h.Live a<=h.Live.length:=List.findIdx_le_length
        refine SW.dX rfl rfl (kN k.lv.A k.lv.n k.lv.c w.heap.size h.Live _ hV (bE h.Live a) (by omega) ⟨a,o,t⟩ b hB wk (by omega) hw.size) fun v pE hv => ?_
        obtain ⟨A',c',rfl,DE,hg⟩:=hv;have hG:=hV.gr hg;replace hw:=aD hw hg (adg _) hV.a9;replace hZ:=hZ.Hc Sy hg hG;(replace aI:=aI.aK hG rfl;replace bi:=bi.aK hG rfl;replace hM:=hM.aK hG rfl;replace hL:=hL.aK hG rfl);repeat' (first|refine Wy ?_|fail);refine Wb (i:=4) aI fun rI de hg => ?_
        have hG:=aI.gr hg;replace hw:=hw.own eH hg;replace bi:=bi.grown hg (by simpa using Ne.symm Ao);(replace hZ:=hZ.aK hG rfl;replace hM:=hM.aK hG rfl;replace hL:=hL.aK hG rfl;replace DE:=DE.aK hG rfl);replace aI:aS rI k.b 41 (dG ⟨⟨some ⟨k.g,0,none⟩,2,k.c⟩,k.m,k.cp,p3.li,⟨A',k.lv.n+1,c'⟩⟩):=de;repeat' (first|refine Wy ?_|refine Wm ((fun _ _=>aI.cell)) ?_)
        refine SW.ag bi rfl rfl rfl rfl (dY ⟨⟨some ⟨k.g,0,none⟩,2,k.c⟩,k.m,k.cp,p3.li,⟨A',k.lv.n+1,c'⟩⟩) fun ji cX hg => ?_
        have hG:=bi.gr hg;replace hw:=hw.own gG hg;(replace hZ:=hZ.aK hG rfl;replace hM:=hM.aK hG rfl;replace hL:=hL.aK hG rfl;replace DE:=DE.aK hG rfl);repeat' (first|refine Wy ?_|fail);exact ae.fg rfl rfl rfl rfl cX rfl ⟨_,rfl,hw,_,WW,⟨⟨some ⟨k.g,0,none⟩,2,k.c⟩,k.m,k.cp,p3.li,⟨A',k.lv.n+1,c'⟩⟩,rfl,⟨YA,hM,DE,⟨[p3.u0,p3.u1],⟨hZ.row,gg.two hZ.z0 hZ.z1⟩⟩,⟨p3.ls,hL⟩⟩⟩
    | some q3 =>
      obtain ⟨s3,L3,a⟩:=q3;simp only [TU,Ru] at H1;obtain ⟨i,T0,Rn,O7⟩:=qg F (oT.found Eb).2;have T0:a=(i:Int):=T0
      have WW:cU h cpu o f (na h s3 L3 (dU h a o t),a,0):=by
       have:=cU.once hq hc ht F.d.ct (by rw [Pd];exact oT)
       rw [Pd] at this;exact this
      have H3:=H1;have TZ:=M5;obtain ⟨p3,hp3⟩ : ∃ p3,p1=p3:=⟨_,rfl⟩;rw [hp3] at H3 TZ;clear H1 M5;have So:=H3.live.len;rw [U7] at So;obtain ⟨fd,WX⟩ : ∃ fd,bP h.Live a=fd:=⟨_,rfl⟩
      have c3:∀ w',Sl w' 3 aO k.lv.A k.lv.n h.Live->bF prog 65 [.agg (dG (k.h p3)).toArray,.int .i64 a] w' fun v _=>v = .tuple #[.int .i64 (bE h.Live a:Int),.bool fd]:=fun w' hh=>by
       have:=An (k.h p3) h.Live a w' hh eX S8 (by simp only;omega) ⟨by omega,by omega⟩
       rwa [WX] at this
      have hV:=H3.live;rw [U7] at hV;have aI:=H3.eM;have hZ:=H3.zs;have hM:=H3.eE;have hL:=H3.ls;rw [WU] at hM;have Sy:=H3.sf;clear H3;have PY:=hV.lt_size;repeat' (first|refine Wy ?_|(refine CW.fY rfl ?_)|refine Wm ((fun _ _=>aI.cell)) ?_|(refine Wk (c3 _ hV.sl) ?_;intro v w1 ai hv;subst hv;replace hw:=Ext.trans hw ai;replace aI:=aI.ext ai;replace bi:=bi.ext ai;replace hV:=hV.ext ai;replace hZ:=hZ.ext ai;replace hM:=hM.ext ai;replace hL:=hL.ext ai;clear ai))
      repeat' (first|refine Wy ?_|refine Wl (aI.cell (i:=4) (v := .slice k.lv.A k.lv.n k.lv.c) rfl) ?_)
      refine SW.dI rfl rfl rfl rfl rfl fun b w9 ak VW hB => ?_
      have wk:aJ k.lv.A k.lv.c≠some b:=fun e=>by have:=hV.lt_size _ e;omega
      (replace hw:=Ext.trans hw ak;replace aI:=aI.ext ak;replace bi:=bi.ext ak;replace hV:=hV.ext ak;replace hZ:=hZ.ext ak;replace hM:=hM.ext ak;replace hL:=hL.ext ak);skip;have Bg:bE h.Live a<=h.Live.length:=List.findIdx_le_length
      refine SW.dX rfl rfl (kN k.lv.A k.lv.n k.lv.c w.heap.size h.Live _ hV (bE h.Live a) (by omega) ⟨a,o,t⟩ b hB wk (by omega) hw.size) fun v pE hv => ?_
      obtain ⟨A',c',rfl,DE,hg⟩:=hv;have hG:=hV.gr hg;replace hw:=aD hw hg (adg _) hV.a9;replace hZ:=hZ.Hc Sy hg hG;(replace aI:=aI.aK hG rfl;replace bi:=bi.aK hG rfl;replace hM:=hM.aK hG rfl;replace hL:=hL.aK hG rfl);repeat' (first|refine Wy ?_|fail);refine Wb (i:=4) aI fun rI de hg => ?_
      have hG:=aI.gr hg;replace hw:=hw.own eH hg;replace bi:=bi.grown hg (by simpa using Ne.symm Ao);(replace hZ:=hZ.aK hG rfl;replace hM:=hM.aK hG rfl;replace hL:=hL.aK hG rfl;replace DE:=DE.aK hG rfl);replace aI:aS rI k.b 41 (dG ⟨⟨some ⟨k.g,0,none⟩,2,k.c⟩,k.m,k.cp,p3.li,⟨A',k.lv.n+1,c'⟩⟩):=de;repeat' (first|refine Wy ?_|refine Wm ((fun _ _=>aI.cell)) ?_)
      refine SW.ag bi rfl rfl rfl rfl (dY ⟨⟨some ⟨k.g,0,none⟩,2,k.c⟩,k.m,k.cp,p3.li,⟨A',k.lv.n+1,c'⟩⟩) fun ji cX hg => ?_
      have hG:=bi.gr hg;replace hw:=hw.own gG hg;(replace hZ:=hZ.aK hG rfl;replace hM:=hM.aK hG rfl;replace hL:=hL.aK hG rfl;replace DE:=DE.aK hG rfl);repeat' (first|refine Wy ?_|fail);exact ae.fg rfl rfl rfl rfl cX rfl ⟨_,rfl,hw,_,WW,⟨⟨some ⟨k.g,0,none⟩,2,k.c⟩,k.m,k.cp,p3.li,⟨A',k.lv.n+1,c'⟩⟩,rfl,⟨YA,hM,DE,⟨[p3.u0,p3.u1],⟨hZ.row,gg.two hZ.z0 hZ.z1⟩⟩,⟨p3.ls,hL⟩⟩⟩
  ·repeat' (first|refine Wy ?_|refine SW.gi rfl rfl rfl (fun h => ?_) (fun h => ?_)|refine Wm ((fun _ _=>aI.cell)) ?_|refine Wl (aI.cell (i:=2) (v := .int .i64 r.bG) rfl) ?_|(refine Wk (c1 _ hw) ?_;intro v w1 ai hv;subst hv;replace hw:=Ext.trans hw ai;replace aI:=aI.ext ai;replace bi:=bi.ext ai;clear ai))
   all_goals try omega
   all_goals
    refine SW.ag bi rfl rfl rfl rfl (dY .zero) fun w5 cX hg => ?_
    replace hw:=hw.own gG hg;repeat' (first|refine Wy ?_|fail);exact ae.fg rfl rfl rfl rfl cX rfl ⟨_,rfl,hw,_,.range hq hc,oq.zero 1 _ _⟩
variable {ops:Array Oper} {Q:Exit->Act->World->Prop} {b:Nat} {tb:TypeId}
theorem SW.gq {n:Nat} {rest:List Oper} {L:Env} {pos:String} [G:fE P t k] {vs:List Value} {x:Operand} (o:Nat)
 (hB:aS w b tb cs) (hx:cT L x=some (.pointer (some ((⟨b,0,none⟩ : Addr).add o)))) (hy:cT L y=some (.agg vs.toArray)) (hl:vs.length=k) (hc:o+k<=cs.length) (h1:∀ v∈vs,v.oneCell'=true) (cs':List Value) (lT:cs.take o++vs++cs.drop (o+k)=cs')
 (h:∀ w',aS w' b tb cs'->w.grownBy w' (some b)->SW P n ops (.gM Q) rest L w') : SW P n ops (.gM Q) (⟨none,.store t x y,T,pos,af,none⟩::rest) L w :=
 ⟨fun a ha=>by
  rw [dc] at hx;have Bc:=run_storeCells_at P b o tb vs 0 cs.toArray w hB (by simp only [List.size_toArray];omega) h1;simp only [Nat.add_zero,hl,lT] at Bc;simp only [swp,wpList,Region.wanted,if_true];refine .inl ?_;unfold Oper.wp
  have sw:(execOp a.eval ⟨none,.store t x y,T,pos,af,none⟩).run P w = .ok .skip (w.setRow b cs'.toArray):=by
   simp [execOp,ha.eval hx,ha.eval hy,Instr.storeAt,Instr.sureAddr,storeVar,Value.cells,run_sizeOf G.size,hl,Bc]
  rw [sw,Oper.upon_skip];obtain ⟨v7,Lk⟩:=ij (cs:=cs') hB;exact (h _ v7 Lk).out _ ha⟩
variable {d:Nat} {op:Op} {o':Oper}
section
variable {P:Program} {n:Nat} {ops:Array Oper} {Q:Exit->Act->World->Prop} {fin e8 f:Nat} {S2:World->Prop} {listed:Array Bool} {L:Env} {w:World}
theorem SF.two (i k:Nat) {o:Oper} (hi:ops[i]?=some o) (hk:ops[k]?=some o') (hr:Region.ready .any ops listed=[i,k]) (hw:(!Nat.beq i e8 && !Nat.beq i fin)=true) (ni:(!Nat.beq k e8 && !Nat.beq k fin)=true)
 (h:SW P n ops (.gM (Gu P n ops Q fin e8 S2 f (listed.setIfInBounds i true) w)) [o] L w) (h':SW P n ops (.gM (Gu P n ops Q fin e8 S2 f (listed.setIfInBounds k true) w)) [o'] L w) : SF P n ops Q fin e8 S2 (f+1) listed L w :=
 ⟨fun a ha inv=>⟨by rw [hr];simp,fun j hj=>by
  have nR:=hj;rw [hr] at nR;simp only [List.mem_cons,List.not_mem_nil,or_false] at nR;rcases nR with rfl|rfl
  ·obtain ⟨n1,n2⟩:=Iu hw;have cy:j<ops.size:=(ado.1 hi).1
   refine ⟨cy,oJ (Q1:=Gu P n ops Q fin e8 S2 f (listed.setIfInBounds j true) w) hi (fun e a w ne h=>by cases e<;>first|exact h|exact absurd rfl ne) (fun h=>h) (fun a' w' hh=>⟨fun e=>absurd e n1,fun _ e=>absurd e n2,fun _ _=>⟨hh.1,lc f (fun Lw El=>Ext.trans hh.1 El) _ _ _ (hh.2 (inv.set hj cy))⟩⟩) (h.out a ha)⟩
  ·obtain ⟨n1,n2⟩:=Iu ni;have cy:j<ops.size:=(ado.1 hk).1
   refine ⟨cy,oJ (Q1:=Gu P n ops Q fin e8 S2 f (listed.setIfInBounds j true) w) hk (fun e a w ne h=>by cases e<;>first|exact h|exact absurd rfl ne) (fun h=>h) (fun a' w' hh=>⟨fun e=>absurd e n1,fun _ e=>absurd e n2,fun _ _=>⟨hh.1,lc f (fun Lw El=>Ext.trans hh.1 El) _ _ _ (hh.2 (inv.set hj cy))⟩⟩) (h'.out a ha)⟩⟩⟩
theorem SF.T1 (k:Nat) {o:Oper} (hi:ops[fin]?=some o) (hk:ops[k]?=some o') (hr:Region.ready .any ops listed=[fin,k]) (hw:Nat.beq fin e8=false) (ni:(!Nat.beq k e8 && !Nat.beq k fin)=true)
 (h:SW P n ops (.gM (LF P n ops Q fin e8 S2 f (listed.setIfInBounds fin true))) [o] L w) (h':SW P n ops (.gM (Gu P n ops Q fin e8 S2 f (listed.setIfInBounds k true) w)) [o'] L w) : SF P n ops Q fin e8 S2 (f+1) listed L w :=
 ⟨fun a ha inv=>⟨by rw [hr];simp,fun j hj=>by
  have nR:=hj;rw [hr] at nR;simp only [List.mem_cons,List.not_mem_nil,or_false] at nR;rcases nR with ja|rfl
  ·have n1:j≠e8:=fun e=>by rw [<- ja,e] at hw;simp at hw
   subst ja;have cy:j<ops.size:=(ado.1 hi).1
   exact ⟨cy,oJ (Q1:=LF P n ops Q j e8 S2 f (listed.setIfInBounds j true)) hi (fun e a w ne h=>by cases e<;>first|exact h|exact absurd rfl ne) (fun h=>h) (fun a' w' hh=>⟨fun e=>absurd e n1,fun _ _=>⟨hh.1,hh.2 (inv.set hj cy)⟩,fun _ n2=>absurd rfl n2⟩) (h.out a ha)⟩
  ·obtain ⟨n1,n2⟩:=Iu ni;have cy:j<ops.size:=(ado.1 hk).1
   refine ⟨cy,oJ (Q1:=Gu P n ops Q fin e8 S2 f (listed.setIfInBounds j true) w) hk (fun e a w ne h=>by cases e<;>first|exact h|exact absurd rfl ne) (fun h=>h) (fun a' w' hh=>⟨fun e=>absurd e n1,fun _ e=>absurd e n2,fun _ _=>⟨hh.1,lc f (fun Lw El=>Ext.trans hh.1 El) _ _ _ (hh.2 (inv.set hj cy))⟩⟩) (h'.out a ha)⟩⟩⟩
theorem SG.jb (i:Nat) {pos:String} {v:Value} (hB:Region.noSelect ops=true) (hi:ops[i]?=some ⟨some d,op,T,pos,af,none⟩) (hf:Region.free .any ops listed i=true) (hr:(Region.ready .any ops listed).contains i=true) (hw:(!Nat.beq i e8 && !Nat.beq i fin)=true) (hs:S2 w)
 (h1:∀ w2,St P ⟨some d,op,T,pos,af,none⟩ L w2 v) (hn:Nat.blt d n=true) (h:SG P n ops Q fin e8 S2 f (listed.setIfInBounds i true) ((d,v)::L) w) : SG P n ops Q fin e8 S2 (f+1) listed L w :=
 ⟨fun a ha inv=>by
  obtain ⟨n1,n2⟩:=Iu hw;have ph:i∈Region.ready .any ops listed:=by simpa using hr
  have cy:i<ops.size:=(ado.1 hi).1
  exact nS (T:=fun _=>True) hi (Region.noSelect_spec hB) n1 n2 (fun _ _ _ h=>(h:False).elim) (.inl fun _=>trivial) (.inl fun _ _=>trivial) f (fun _ _=>trivial) listed a w inv (Region.free_spec hi hf) ph (v:=v)
   (.inl ⟨by simp [Region.wanted],fun w' _=>(h1 w').out n a ha w' (Ext.refl w')⟩) hs (h.out _ (ha.put hn v) (inv.set ph cy))⟩
end
end Go.Proofs.YtohigmjjbgpfmaaGreatDoor
