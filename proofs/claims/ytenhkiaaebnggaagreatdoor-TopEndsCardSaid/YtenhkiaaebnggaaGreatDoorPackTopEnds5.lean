/- Part 5 of what topEnds_holds leans on. -/
import Derived.Test.YtenhkiaaebnggaaGreatDoorPackTopEnds4
set_option linter.unusedVariables false
set_option linter.unusedSimpArgs false
set_option linter.defProp false
open Go.Proofs.Tryz
namespace Go.Proofs.YtenhkiaaebnggaaGreatDoor
variable {r:(aj×aj)×List aS×Int} {a cpu f fl m0 m1 o zi:Int} {l:List Block} {L:List aS} {i k:Nat} {z z0 z1:aj}
def ku (l:List Block) (i:Nat) : Nat:=l.countP fun b=>qP b i
def yB (a o:Int) (i:Nat) : Nat:=(qP ⟨a,o,0⟩ i).toNat
def y7 (i:Nat) : ku [] i=0:=rfl
def dY (l m:List Block) (i:Nat) : ku (l++m) i=ku l i+ku m i:=List.countP_append
def vR (b:Block) (i:Nat) : ku [b] i=yB b.At b.Order i:=by
 unfold ku yB;have:qP ⟨b.At,b.Order,0⟩ i=qP b i:=rfl
 rw [List.countP_singleton,this];cases qP b i<;>rfl
def AB (b:Block) (l:List Block) (i:Nat) : ku (b::l) i=yB b.At b.Order i+ku l i:=by
 rw [<- aeO,dY,vR]
def mU:eI l i=true↔0<ku l i:=by
 unfold eI ku;rw [List.countP_pos_iff,aeG]
def Eo (h:ku l i<=1) : ku l i=(eI l i).toNat:=by
 cases e:eI l i with
 | true=>have:=mU.1 e;simp;omega
 | false =>
   have : ¬ 0<ku l i:=fun h=>by rw [mU.2 h] at e;cases e
   simp;omega
def tE (hk:k<l.length) (i:Nat) : ku l i=ku (l.eraseIdx k) i+yB l[k].At l[k].Order i:=by
 have e:l=l.take k++l[k]::l.drop (k+1):=by simp
 rw [aeR]
 conv=>lhs;rw [e]
 rw [dY,dY,AB];omega
def xi (l:List Block) (p:Nat) (x:Block) (i:Nat) : ku (aM l p x) i=ku l i+yB x.At x.Order i:=by
 unfold aM;have e:ku l i=ku (l.take p) i+ku (l.drop p) i:=by rw [<- dY,aex]
 rw [dY,dY,vR];omega
def PP {f:Block->Block} (h:∀ b,(f b).At=b.At∧(f b).Order=b.Order) (l:List Block) (i:Nat) : ku (l.map f) i=ku l i:=by
 unfold ku;rw [List.countP_map];congr 1
 funext b
 simp only [Function.comp_apply,qP,(h b).1,(h b).2]
def AD (a o:Int) (i:Nat) : yB a o i<=1:=by unfold yB;cases qP ⟨a,o,0⟩ i<;>simp
def rB : 0<yB a o i↔a<=(i:Int)∧(i:Int)<a+pw o:=by
 unfold yB;cases e:qP ⟨a,o,0⟩ i with
 | true=>simpa [qP] using e
 | false =>
   simp only [Bool.toNat_false,Nat.lt_irrefl,false_iff];intro h;unfold qP at e;simp only [h.1,h.2,decide_true,Bool.and_self,Bool.true_eq_false] at e
def PQ {b:Block} (hb:b∈l) (h:b.At<=(i:Int)∧(i:Int)<b.At+pw b.Order) : 0<ku l i:=by
 refine mU.1 (aeG.2 ⟨b,hb,?_⟩);simp [qP,h.1,h.2]
def AE {t:Int}:∀ {l:List Block},sw l->(∀ b∈l,lq f t b) -> ∀ i,ku l i<=1
 | [],_,_,i=>by simp [ku]
 | b::l,hu,hb,i=>by
   unfold sw at hu;rw [afq] at hu;have ih:=AE (l:=l) hu.2 (fun x hx=>hb x (by simp [hx])) i;rw [AB];have h1:=AD b.At b.Order i;rcases aeL (yB b.At b.Order i) with h0|h0
   ·omega
   ·have hi:=rB.1 h0
    have:ku l i=0:=by
     rcases aeL (ku l i) with h2|h2
     ·exact h2
     ·obtain ⟨x,hx,V6⟩:=aeG.1 (mU.2 h2);have:=hu.1 x hx
      simp only [qP,Bool.and_eq_true,decide_eq_true_eq] at V6;omega
    omega
def qB (hz:bW z) : ∀ b∈z.ai,lq z.aT z.To b:=fun b hb=>by
 obtain ⟨i,hi,rfl⟩:=aeu hb;exact hz.eV i hi
def FU (hz:bW z) (i:Nat) : ku z.ai i<=1:=AE (qa hz) (qB hz) i
def PR {q:Int} (h1 : 1<=q) (h4:q<=4) : pw q=2*pw (q-1):=by
 have:=qY (o:=q-1) (by omega) (by omega)
 rwa [af1] at this
def Nt {q:Int} (h1 : 1<=q) (h4:q<=4) (i:Nat) : yB a q i=yB a (q-1) i+yB (a+pw (q-1)) (q-1) i:=by
 have hp:=PR h1 h4;have VT:=(cM (o:=q-1) (by omega) (by omega)).1;have e0:=rB (a:=a) (o:=q) (i:=i);have e1:=rB (a:=a) (o:=q-1) (i:=i);have e2:=rB (a:=a+pw (q-1)) (o:=q-1) (i:=i);have l0:=AD a q i;have l1:=AD a (q-1) i;have l2:=AD (a+pw (q-1)) (q-1) i;omega
def AF {ty a:Int} (i:Nat) : ∀ (k:Nat) (q:Int) (l:List Block),(k:Int)<=q->q<=4->ku (mF ty a k q l) i+yB a (q-k) i=ku l i+yB a q i
 | 0,q,l,_,_=>by simp [mF]
 | k+1,q,l,h,h4=>by
   have ih:=AF (ty:=ty) (a:=a) i k (q-1) (ug ty a q l) (by omega) (by omega);have e:ku (ug ty a q l) i=ku l i+yB (a+pw (q-1)) (q-1) i:=xi _ _ _ _
   have hh:=Nt (a:=a) (q:=q) (by omega) h4 i;simp only [mF];rw [show q-((k+1:Nat) : Int)=q-1-(k:Int) by omega];omega
def KU (z:aj) (b:Block) (t:Int) (st:Bool) (i:Nat) : ku (kB z b t st) i=ku z.ai i:=by
 unfold kB kd;split
 ·split
  ·rfl
  ·exact PP (pM _ _ _) _ _
 ·rfl
def iD.ku {t:Int} {u:aj×Int×Int} (h:iD z o t u) (h0:u.2.2=0) (i:Nat) : Go.Proofs.YtenhkiaaebnggaaGreatDoor.ku z.ai i=Go.Proofs.YtenhkiaaebnggaaGreatDoor.ku u.1.ai i+yB u.2.1 o i:=by
 cases h with
 | bad|range|kind|room=>simp at h0
 | @ok k st hq ho ht hk hp =>
   have hz:=fD.1 hq;obtain ⟨_,p1,p2⟩:=hp.ord;have bP:k<(kB z z.ai[k] t st).length:=by rw [(vw hz ht st).1];exact hk
   have e1:=tE bP i;rw [KU,wH hz ht st hk] at e1;have e2:=AF (ty:=yn z t st z.ai[k]) (a:=z.ai[k].At) i (z.ai[k].Order-o).toNat z.ai[k].Order ((kB z z.ai[k] t st).eraseIdx k) (by omega) p2;rw [show z.ai[k].Order-((z.ai[k].Order-o).toNat:Int)=o by omega] at e2;have e3:(uF z o t z.ai[k] k st).ai=mF (yn z t st z.ai[k]) z.ai[k].At (z.ai[k].Order-o).toNat z.ai[k].Order ((kB z z.ai[k] t st).eraseIdx k):=rfl
   simp only [e3];simp only at e1;omega
def pS (s:aj×aj) (i:Nat) : Nat:=ku s.1.ai i+ku s.2.ai i
def lE (l:List Int) (i:Nat) : Nat:=ku (l.map ct) i
def jA (L:List aS) (i:Nat) : Nat:=ku (a9 L) i
def vS (p:Int) (i:Nat) : lE [p] i=yB p 0 i:=vR _ _
def nd (l m:List Int) (i:Nat) : lE (l++m) i=lE l i+lE m i:=by unfold lE;rw [aeV,dY]
def js (L M:List aS) (i:Nat) : jA (L++M) i=jA L i+jA M i:=by unfold jA a9;rw [aeM,dY]
def FV (x:aS) (i:Nat) : jA [x] i=lE x.av i:=by unfold jA a9 lE;simp
def xj (x:aS) (L:List aS) (i:Nat) : jA (x::L) i=lE x.av i+jA L i:=by rw [<- aeO,js,FV]
def AG (L:List aS) (p:Nat) (x:aS) (i:Nat) : jA (aM L p x) i=jA L i+lE x.av i:=by
 unfold aM;have e:jA L i=jA (L.take p) i+jA (L.drop p) i:=by rw [<- js,aex]
 rw [js,js,FV];omega
def H9 (hk:k<L.length) (i:Nat) : jA L i=jA (L.eraseIdx k) i+lE L[k].av i:=by
 have e:L=L.take k++L[k]::L.drop (k+1):=by simp
 rw [aeR]
 conv=>lhs;rw [e]
 rw [js,js,xj];omega
def FW (hk:k<L.length) (x:aS) (i:Nat) : jA (L.set k x) i+lE L[k].av i=jA L i+lE x.av i:=by
 have e:L=L.take k++L[k]::L.drop (k+1):=by simp
 have e2:L.set k x=L.take k++x::L.drop (k+1):=by rw [afo,if_pos hk]
 rw [e2]
 conv=>rhs;rw [e]
 rw [js,js,xj,xj];omega
def AH {s:aj×aj} {t:Int} {u:aj×Int×Int} (h:iD (yA s zi) o t u) (h0:u.2.2=0) (i:Nat) : pS s i=pS (sW s zi u.1) i+yB u.2.1 o i:=by
 have:=h.ku h0 i
 unfold yA at this;unfold pS sW;split at this
 ·rename_i e;rw [if_pos e];simp only;omega
 ·rename_i e;rw [if_neg e];simp only;omega
def tF {s:aj×aj} {t:Int} {u:aj×Int×Int} (h:iD (yA s zi) o t u) (h0:u.2.2=0) : (sW s zi u.1).1.To=s.1.To:=by
 have hk:=(h.jQ h0).1.pJ;unfold yA at hk;unfold sW;split at hk
 ·rename_i e;rw [if_pos e];exact hk
 ·rename_i e;rw [if_neg e]
def j1.to {t:Int} {s:aj×aj} {l:List Int} {r:(aj×aj)×List Int} (h:j1 m0 m1 zi t fl s l r) : r.1.1.To=s.1.To:=by
 induction h with
 | full|nw|none=>rfl
 | more h he ht hu hr ih=>rw [ih,tF ht hu]
def j7.to {t:Int} {s:aj×aj} (h:j7 m0 m1 cpu zi o t fl s L (some r)) : r.1.1.To=s.1.To:=by
 cases h with
 | list=>rfl
 | u6 ho he ht hu=>exact tF ht hu
 | fill ho hk he ht hu hr=>simp only;rw [hr.to,tF ht hu]
def mK.to {t:Int} {s:aj×aj} (h:mK m0 m1 cpu o t fl s L (some r)) : r.1.1.To=s.1.To:=by
 cases h with
 | wN _ h=>exact h.to
 | low _ h=>exact h.to
def j1.ku {t:Int} {s:aj×aj} {l:List Int} {r:(aj×aj)×List Int} (h:j1 m0 m1 zi t fl s l r) (i:Nat) : pS s i+lE l i=pS r.1 i+lE r.2 i:=by
 induction h with
 | full|nw|none=>rfl
 | more h he ht hu hr ih =>
   have:=AH ht hu i
   rw [nd,vS] at ih;omega
def Nu {x:aS} (hk:dz L x=true) (hp:dh L x≠[]) (i:Nat) : jA L i=jA (xf L x (dh L x)) i+yB ((dh L x).getLast hp) 0 i:=by
 obtain ⟨hl,_⟩:=ko hk
 have e:=je hk hl
 obtain ⟨pg,wS⟩ : ∃ pg,dh L x=pg:=⟨_,rfl⟩
 simp only [wS] at hp ⊢
 rw [wS] at e
 have e2:pg=pg.dropLast++[pg.getLast hp]:=(List.dropLast_concat_getLast hp).symm
 have e3:lE pg i=lE pg.dropLast i+yB (pg.getLast hp) 0 i:=by
  conv=>lhs;rw [e2]
  rw [nd,vS]
 unfold xf
 split
 ·rename_i h1
  have:=H9 hl i
  rw [<- e] at this
  have h0:pg.dropLast=[]:=aeN (by rw [List.length_dropLast];omega)
  rw [h0] at e3
  simp only [lE,List.map_nil,y7] at e3
  simp only [lE] at this
  omega
 ·have:=FW hl (fW x pg.dropLast) i
  rw [<- e] at this
  simp only [fW] at this ⊢
  omega
def KV {x:aS} (hk:dz L x=false) (pg:List Int) (i:Nat) : jA (kC L x pg) i=jA L i+lE pg i:=by
 by_cases h:pg=[]
 ·subst h;rw [mL];rfl
 ·rw [qx hk h,AG];rfl
def j7.ku {t:Int} {s:aj×aj} (h:j7 m0 m1 cpu zi o t fl s L (some r)) (i:Nat) : pS s i+jA L i=pS r.1 i+jA r.2.1 i+yB r.2.2 o i:=by
 cases h with
 | list ho hk hp=>subst ho;have:=Nu hk hp i;simp only;omega
 | u6 ho he ht hu=>have:=AH ht hu i;simp only;omega
 | fill ho hk he ht hu hr =>
   have h1:=AH ht hu i
   have h2:=hr.ku i
   have h3:=fun pg=>KV hk pg i
   simp only [h3]
   simp only [lE,List.map_nil,y7] at h2
   simp only [lE]
   omega
def mK.ku {t:Int} {s:aj×aj} (h:mK m0 m1 cpu o t fl s L (some r)) (i:Nat) : pS s i+jA L i=pS r.1 i+jA r.2.1 i+yB r.2.2 o i:=by
 cases h with
 | wN _ h=>exact h.ku i
 | low _ h=>exact h.ku i
def uo:∀ {l bs:List Block},(∀ b∈bs++l,0<=b.At∧1<=pw b.Order)->(∀ i,ku bs i<=1)->(bB (some bs) l).isSome=true -> ∀ i,ku (bs++l) i<=1
 | [],bs,_,hc,_,i=>by simpa using hc i
 | b::l,bs,hg,hc,h,i=>by
   have e:bB (some bs) (b::l)=bB (mq (some bs) b) l:=rfl
   rw [e] at h;by_cases hf:xH bs b
   ·have e2:mq (some bs) b=some (bs++[b]):=by simp only [mq,if_pos hf]
    rw [e2] at h
    have QX:∀ i,ku (bs++[b]) i<=1:=fun i=>by
     rw [dY,vR];have h1:=hc i;have h2:=AD b.At b.Order i;rcases aeL (yB b.At b.Order i) with h0|h0
     ·omega
     ·have hi:=rB.1 h0;have hm:=(tr (fun x hx=>hg x (by simp [hx])) (hg b (by simp)).2).2 hf;have hq:=hm.2.2.2 i hi.1 hi.2;have : ¬ 0<ku bs i:=fun h=>by rw [mU.2 h] at hq;cases hq
      omega
    have:=uo (l:=l) (bs:=bs++[b]) (by simpa using hg) QX h i
    simpa using this
   ·have e2:mq (some bs) b=none:=by simp only [mq,if_neg hf]
    rw [e2,jn] at h;cases h
def uq:∀ {l bs:List Block},(∀ b∈bs++l,0<=b.At∧1<=pw b.Order)->(∀ b∈l,b.At+pw b.Order<=256)->(∀ i,ku (bs++l) i<=1)->(bB (some bs) l).isSome=true
 | [],bs,_,_,_=>rfl
 | b::l,bs,hg,hr,hc=>by
   have EH:=hg b (by simp);have hrb:=hr b (by simp)
   have hf:xH bs b:=by
    refine (tr (fun x hx=>hg x (by simp [hx])) EH.2).1 ⟨EH.1,by omega,by omega,fun i h1 h2 => ?_⟩;cases e:eI bs i with
    | false=>rfl
    | true =>
      have h3:=mU.1 e;have h4:=hc i;have h5:=rB.2 (⟨h1,h2⟩ : b.At<=(i:Int)∧(i:Int)<b.At+pw b.Order);rw [dY,AB] at h4;omega
   have e:bB (some bs) (b::l)=bB (mq (some bs) b) l:=rfl
   have e2:mq (some bs) b=some (bs++[b]):=by simp only [mq,if_pos hf]
   rw [e,e2];exact uq (by simpa using hg) (fun x hx=>hr x (by simp [hx])) (by simpa using hc)
def uN (s:aj×aj) (L:List aS) (lv:List Block) (i:Nat) : Nat:=pS s i+jA L i+ku lv i
def Nv {h:Heap} (f:jK h z0 z1) : ∀ b∈z0.ai++z1.ai++a9 h.au++h.Live,0<=b.At∧1<=pw b.Order:=fun b hb=>by
 obtain ⟨bs,Tv⟩:=aeZ.1 f.all;have pL:=xL f.all b hb;refine ⟨pL.1,?_⟩;simp only [List.mem_append] at hb;rcases hb with ((hb|hb)|hb)|hb
 ·exact (lz f.d.mr b hb).2
 ·exact (lz f.d.lQ b hb).2
 ·unfold a9 at hb;obtain ⟨x,_,hx⟩:=aeK.1 hb;obtain ⟨p,_,rfl⟩:=aeH.1 hx;simp only [ct,jv];omega
 ·obtain ⟨j,hj,rfl⟩:=aeu hb;have:=(f.live.each j hj).1
  exact (cM this.1 this.2).1
def jK.Sj {h:Heap} (f:jK h z0 z1) (i:Nat) : uN (z0,z1) h.au h.Live i<=1:=by
 have:=uo (bs:=[]) (l:=z0.ai++z1.ai++a9 h.au++h.Live) (by simpa using Nv f) (fun i=>by simp [ku]) f.all i
 simp only [List.nil_append,dY] at this;unfold uN pS jA;simp only;omega
def AI (hz:bW z) (h : 0<ku z.ai i) : z.aT<=(i:Int)∧(i:Int)<z.To:=by
 obtain ⟨x,hx,V6⟩:=aeG.1 (mU.2 h);simp only [qP,Bool.and_eq_true,decide_eq_true_eq] at V6;obtain ⟨⟨f1,f2,f3,f4,f5⟩,_⟩:=qB hz x hx;obtain ⟨k1,k2,k3,k4,k5⟩:=hz.ok;refine ⟨by omega,?_⟩;rcases fQ f1 f2 with ⟨e1,e2⟩|⟨e1,e2⟩|⟨e1,e2⟩|⟨e1,e2⟩|⟨e1,e2⟩<;>rw [e2] at f5 V6<;>omega
def AJ {s:aj×aj} (h:VS s) (i:Nat) : pS s i=(eI s.1.ai i || eI s.2.ai i).toNat:=by
 have h0:=FU h.mr i;have h1:=FU h.lQ i;have e0:=Eo h0;have e1:=Eo h1;unfold pS;rcases aeL (ku s.1.ai i) with g0|g0
 ·have c0:eI s.1.ai i=false:=by
   cases e:eI s.1.ai i with
   | false=>rfl
   | true=>have:=mU.1 e;omega
  rw [g0,e1,c0];simp
 ·have r0:=AI h.mr g0
  have:ku s.2.ai i=0:=by
   rcases aeL (ku s.2.ai i) with g1|g1
   ·exact g1
   ·have:=AI h.lQ g1
    have:=h.EK
    omega
  rw [this,e0,mU.2 g0];simp
def xS {h:Heap} (f:jK h z0 z1) (i:Nat) : pS (bX (z0,z1) (a9 h.au)) i=pS (z0,z1) i+jA h.au i:=by
 have hd:=fX f.d;have ht:=f.Sj i;unfold uN at ht;have hc:ku (z0.ai++z1.ai++a9 h.au) i=pS (z0,z1) i+jA h.au i:=by rw [dY,dY];rfl
 rw [AJ hd.vs i,hd.Jh i,<- Eo (by rw [hc];omega),hc]
def AK {h:Heap} (d:oD h z0 z1) : (bX (z0,z1) (a9 h.au)).1.To=z0.To:=by
 have key:∀ k,k<=(a9 h.au).length->(bX (z0,z1) ((a9 h.au).take k)).1.To=z0.To:=by
  intro k;induction k with
  | zero=>intro _;simp [bX]
  | succ k ih =>
    intro hk;rw [nO _ _ _ hk];exact ((d.inv k (by omega)).back (d.next hk)).2.trans (ih (by omega))
 have:=key _ (aew _)
 rwa [afk] at this
def cU.ku {h:Heap} {u:Heap×Int×Int} (a:cU h cpu o fl u) (h0:u.2.2=0) : ∃ z0 z1 s,h.bl=[z0,z1]∧jK h z0 z1∧VS s∧u.1.bl=[s.1,s.2]∧(∃ t,lf t∧u.1.Live=dX h u.2.1 o t)∧u.1.dP=h.dP∧u.1.bJ=h.bJ∧s.1.To=z0.To ∧
 ∀ i,uN (z0,z1) h.au h.Live i=uN s u.1.au u.1.Live i∧pS (z0,z1) i+jA h.au i=pS s i+jA u.1.au i+yB u.2.1 o i:=by
 cases a with
 | bad|range|form|room=>simp at h0
 | @once z0 z1 r hb hr ht hz ha =>
   obtain ⟨y0,y1,F⟩:=gL (bT.1 hb);have oW:=F.d.cq;rw [hz] at oW;simp only [List.cons.injEq,and_true] at oW;obtain ⟨rfl,rfl⟩:=oW;have hv:=(ha.found F.d.start.vs).1;refine ⟨z0,z1,r.1,hz,F,hv,rfl,⟨_,(sV ht).2,rfl⟩,rfl,rfl,?_,fun i => ?_⟩
   ·exact ha.to
   ·have e:=ha.ku i;refine ⟨?_,e⟩;unfold uN ny dX;simp only [xi];omega
 | @gQ z0 z1 r hb hr ht hz ha h2 =>
   obtain ⟨y0,y1,F⟩:=gL (bT.1 hb);have oW:=F.d.cq;rw [hz] at oW;simp only [List.cons.injEq,and_true] at oW;obtain ⟨rfl,rfl⟩:=oW;have hv:=(h2.found (fX F.d).vs).1;refine ⟨z0,z1,r.1,hz,F,hv,rfl,⟨_,(sV ht).2,rfl⟩,rfl,rfl,?_,fun i => ?_⟩
   ·rw [h2.to];exact AK F.d
   ·have e:=h2.ku i;have e2:=xS F i;have e3:jA [] i=0:=rfl
    refine ⟨?_,by simp only [ny];omega⟩;unfold uN ny dX;simp only [xi];omega
open Go.RowKit
noncomputable def ln (h:Heap) : Int×Heap:=if jo h then (match h.bl with | [z0,z1]=>(0,mT h z0 z1)|_=>(8,⟨[],[],0,[],[]⟩)) else (8,⟨[],[],0,[],[]⟩)
def FX {h:Heap} (hb:jo h=false) : ln h=(8,⟨[],[],0,[],[]⟩):=by simp [ln,hb]
def sX {h:Heap} (hb:jo h=true) (hz:h.bl=[z0,z1]) : ln h=(0,mT h z0 z1):=by simp [ln,hb,hz]
set_option maxHeartbeats 2000000 in
def CX (r:jH) (h:Heap) (w:World) (hr:Jb w r h) (hs:h.small) (OR:∀ z∈h.bl,fV z) :
 bI prog 30 [.agg (dD r).toArray] w (k9 w.heap.size (ln h)):=by
 refine Wj func30 ntmps30 ?_;refine Ww fun b1 w1 hw lD aX => ?_;have Nb:=lD;refine SW.alloc rfl fun b2 w2 bq eW aq => ?_
 have vo:=hw.up eW
 have bG:b1≠b2:=by have:=aX.lt;omega
 (obtain ⟨hw,aX⟩:=cT bq hw aX);obtain ⟨q,hq⟩ : ∃ q,jo h=q:=⟨_,rfl⟩
 have c1:∀ w',Ext w w'->bI prog 56 [.agg (dD r).toArray] w' fun v _=>v = .int .i64 (if q then 0 else 8):=fun w' hx=>by
  have:=rl r h w' (hr.ext hx) hs OR
  rwa [hq] at this
 cases q
 ·simp only [Bool.false_eq_true,if_false] at c1;rw [FX hq];repeat' (first|refine Wz ?_|(refine Wk (c1 _ hw) ?_;intro v w1 ah hv;subst hv;obtain ⟨hw,aX,aq⟩:=cd ah hw aX aq;clear ah))
  refine Wg aq (ed .zero) fun w5 cK hg => ?_
  have hw:=hw.own vo hg;refine Wz ?_;exact ae.dj rfl rfl rfl cK rfl ⟨_,rfl,hw,k9.zero 8 _ _⟩
 ·simp only [if_true] at c1;have hm:=bT.1 hq;obtain ⟨z0,z1,hd⟩:=Fk hm;rw [sX hq hd.cq];repeat' (first|refine Wz ?_|(refine Wk (c1 _ hw) ?_;intro v w1 ah hv;subst hv;obtain ⟨hw,aX,aq⟩:=cd ah hw aX aq;clear ah))
  refine Wk (mG r h _ (hr.ext hw) hs) fun v w4 kN hv => ?_
  obtain ⟨s,rfl,hO⟩:=hv;have hO:=hO.low hw.size;(obtain ⟨hw,aX,aq⟩:=cd kN hw aX aq);clear c1;obtain ⟨g,c,u0,u1,ls,eZ,hZ,hR⟩:=hO.split hd.cq;have Cb:=hO.cpus;clear hO;obtain ⟨sz,m,cp,li,lv⟩:=s;simp only at eZ hR Cb;subst eZ;refine Wg aX (ed ⟨⟨some ⟨g,0,none⟩,2,c⟩,m,cp,li,lv⟩) fun w5 tT hg => ?_
  have hG:=aX.gr hg;have hw:=hw.own Nb hg;have aq:=aq.grown hg (by simpa using Ne.symm bG);obtain ⟨hZ,hR⟩:=cT hG hZ hR;have aX:=tT;clear tT hg hG;refine Wz ?_;have dB:b2≠g:=fun e=>hZ.row.fr aq rfl (by rw [hZ.own,e])
  refine SW.dK rfl rfl (KL h z0 z1 hd hs m cp li lv ls u0 u1 g c b1 w.heap.size w _ hw (aew _) hw.size Nb aX hZ hR) fun v w6 hv => ?_
  obtain ⟨nl,hE,tT,hR',u2,u3,GY⟩:=hv;have aq:=hE.eV aq dB (Ne.symm bG);clear hw aX hR hZ hE;have hw:=nl;clear nl;refine Wz ?_;refine Wg aq (ed ⟨⟨some ⟨g,0,none⟩,2,c⟩,m,cp,.nil,lv⟩) fun w7 cK hg => ?_
  have hG:=aq.gr hg;have hw:=hw.own vo hg;refine Wz ?_;exact ae.dj rfl rfl rfl cK rfl ⟨_,rfl,hw,⟨⟨some ⟨g,0,none⟩,2,c⟩,m,cp,.nil,lv⟩,rfl,(hR'.aJ hG rfl).join (GY.aJ hG rfl) Cb⟩
def Jx (h:bW z) : z.ai.length*24<=140737488355328∧z.Types.length*8<=140737488355328:=by
 have:=kO h
 exact ⟨aev (aeW 24 this.1) (by decide),by omega⟩
def Ep (h:Heap) (hs:h.small) : (ln h).2.small:=by
 cases hq:jo h
 ·rw [FX hq];constructor<;>simp
 ·obtain ⟨z0,z1,hd⟩:=Fk (bT.1 hq);rw [sX hq hd.cq];have hI:=hd.inv _ (aew _);rw [afk] at hI;refine ⟨by simp [mT],hs.eQ,by simp [mT],hs.live,fun z hz => ?_,fun l hl=>by simp [mT] at hl⟩;simp only [mT,List.mem_cons,List.not_mem_nil,or_false] at hz;rcases hz with rfl|rfl
  ·exact Jx hI.mr
  ·exact Jx hI.lQ
variable {pg:List Int}
def KW (to zi p:Int) : Prop:=(0<=p∧p<256)∧(p<to↔zi=0)
structure kU (c to:Int) (L:List aS) : Prop where
 head:∀ l∈L,lL c l
 lT:Fl L
 kE:∀ l∈L,∀ p∈l.av,KW to l.aj p
def kU.nil (c to:Int) : kU c to []:=⟨by simp,List.Pairwise.nil,by simp⟩
def kU.ok {c to:Int} (h:kU c to L) : nM c to L:=by
 refine ⟨fun i hi=>h.head _ (aet hi),fun i hi=>h.lT.get hi (by omega),fun i hi p hp=>(h.kE _ (aet hi) p hp).2⟩
def jK.ls {h:Heap} (f:jK h z0 z1) (hm:bK h) : kU h.bJ z0.To h.au:=by
 obtain ⟨y0,y1,h1,_,_,_,_,_,h7,_⟩:=hm.cq;have hz:=f.d.cq;rw [h1] at hz;simp only [List.cons.injEq,and_true] at hz;obtain ⟨rfl,rfl⟩:=hz;refine ⟨fun l hl => ?_,f.lT,fun l hl p hp => ?_⟩
 ·obtain ⟨i,hi,rfl⟩:=aeu hl;exact h7.head i hi
 ·obtain ⟨i,hi,rfl⟩:=aeu hl;refine ⟨?_,h7.kE i hi p hp⟩;obtain ⟨j,hj,rfl⟩:=aeu hp;exact (f.HF hi hj).at_
def kU.erase {c to:Int} (h:kU c to L) (k:Nat) : kU c to (L.eraseIdx k) :=
 ⟨fun l hl=>h.head l (ae4 hl),List.Pairwise.sublist (afm L k) h.lT,fun l hl=>h.kE l (ae4 hl)⟩
def kU.tW {c to:Int} (h:kU c to L) (hk:k<L.length) {y:aS} (he:jr L[k] y) (hy:lL c y) (hz:∀ p∈y.av,KW to y.aj p) : kU c to (L.set k y):=by
 refine ⟨fun l hl => ?_,?_,fun l hl => ?_⟩
 ·rcases aeI hl with h1|rfl
  ·exact h.head l h1
  ·exact hy
 ·unfold Fl;rw [aeB];intro i j hi hj o6;simp only [List.length_set] at hi hj;have h0:=h.lT.get hj o6;rw [aeP,aeP];unfold dg jr at *;split
  ·rename_i e;subst e
   rw [if_neg (by omega)];omega
  ·split
   ·rename_i e;subst e;omega
   ·exact h0
 ·rcases aeI hl with h1|rfl
  ·exact h.kE l h1
  ·exact hz
def kU.ins {c to:Int} (h:kU c to L) {y:aS} (hk:dz L y=false) (hy:lL c y) (hz:∀ p∈y.av,KW to y.aj p) : kU c to (aM L (br L y) y):=by
 have kF:∀ l∈aM L (br L y) y,l∈L∨l=y:=fun l hl=>by
  unfold aM at hl;simp only [List.mem_append,List.mem_singleton] at hl;rcases hl with (hl|rfl)|hl
  ·exact .inl (aeX hl)
  ·exact .inr rfl
  ·exact .inl (afa hl)
 refine ⟨fun l hl => ?_,Aw h.lT hk,fun l hl => ?_⟩
 ·rcases kF l hl with h1|rfl
  ·exact h.head l h1
  ·exact hy
 ·rcases kF l hl with h1|rfl
  ·exact h.kE l h1
  ·exact hz
def kU.QY {c to:Int} (h:kU c to L) {y:aS} (hy:lL c y) (hz:∀ p∈y.av,KW to y.aj p) : kU c to (jk L y):=by
 cases hk:dz L y
 ·rw [sH hk];exact h.ins hk hy hz
 ·obtain ⟨hl,he⟩:=ko hk;rw [sG hk];exact h.tW hl he hy hz
def kU.pop {c to:Int} (h:kU c to L) {x:aS} (hk:dz L x=true) : kU c to (xf L x (dh L x)):=by
 obtain ⟨hl,he⟩:=ko hk;have e:=je hk hl;unfold xf;split
 ·exact h.erase _
 ·rename_i h1;have h2:=h.head _ (aet hl);have h3:=h.kE _ (aet hl);rw [e] at h1 ⊢;refine h.tW hl (by unfold jr fW at *;simpa using he) ?_ fun p hp => ?_
  ·unfold lL fW at *;unfold jr at he;simp only [List.length_dropLast];omega
  ·have:=h3 p ((List.dropLast_sublist _).subset hp)
   unfold jr at he;simp only [fW] at this ⊢;rwa [<- he.2.1]
def kU.more {c to:Int} (h:kU c to L) {x:aS} (hk:dz L x=false) (h1:(0<=x.gl∧x.gl<c)∧(0<=x.aj∧x.aj<=1)∧(0<=x.Ty∧x.Ty<=2)) (h2:pg.length<=8) (hz:∀ p∈pg,KW to x.aj p) : kU c to (kC L x pg):=by
 by_cases e:pg=[]
 ·subst e;rw [mL];exact h
 ·rw [qx hk e];obtain ⟨k1,k2⟩:=kR (L:=L) (ry (x:=x) (pg:=pg));refine h.ins (by rw [<- k2];exact hk) ?_ hz;have : 0<pg.length:=List.length_pos_iff.2 e
  unfold lL fW;simp only;omega
def VS.range {s:aj×aj} (h:VS s) : 0<=s.1.To∧s.1.To<=256:=by
 have h1:=h.mr.ok;have h2:=h.lQ.ok;have:=h.EK
 obtain ⟨a1,a2,a3,a4,a5⟩:=h1;obtain ⟨b1,b2,b3,b4,b5⟩:=h2;omega
def KX {s:aj×aj} {t:Int} {u:aj×Int×Int} (hv:VS s) (tx:zi=0∨zi=1) (h:iD (yA s zi) o t u) (h0:u.2.2=0) : KW s.1.To zi u.2.1:=by
 obtain ⟨_,⟨x,hx,e⟩,_⟩:=h.jQ h0;obtain ⟨⟨f1,f2,f3,f4,f5⟩,_⟩:=qB (hv.yA zi) x hx;have hr:=hv.range;have:=hv.qk;have:=hv.EK;have:=hv.Ko
 unfold yA at f3 f4;unfold KW;rcases tx with rfl|rfl
 ·simp only [if_true] at f3 f4;omega
 ·simp only [show ¬ (1:Int)=0 by omega,if_false] at f3 f4;omega
def j1.bD {t:Int} {s:aj×aj} {l:List Int} {r:(aj×aj)×List Int} (h:j1 m0 m1 zi t fl s l r) (tx:zi=0∨zi=1) : VS s->(∀ p∈l,KW s.1.To zi p) -> ∀ p∈r.2,KW s.1.To zi p:=by
 induction h with
 | full|nw|none=>exact fun _ h=>h
 | more h he ht hu hr ih =>
   intro hv hl;rw [<- tF ht hu];refine ih (hv.tW (ht.jQ hu).1) fun p hp => ?_
   rw [tF ht hu];rcases aeC.1 hp with hp|hp
   ·exact hl p hp
   ·simp only [List.mem_singleton] at hp;subst hp;exact KX hv tx ht hu
def j7.ls {t c:Int} {s:aj×aj} (h:j7 m0 m1 cpu zi o t fl s L (some r)) (tx:zi=0∨zi=1) (hv:VS s) (hL:kU c s.1.To L) (hc : 0<=cpu∧cpu<c) (ht : 0<=t∧t<=2) : kU c s.1.To r.2.1:=by
 cases h with
 | list ho hk hp=>exact hL.pop hk
 | u6 ho he ht hu=>exact hL
 | fill ho hk he HD hu hr =>
   have W6:=hv.tW (HD.jQ hu).1;have h3:=(hr.vs W6).2;refine hL.more hk ⟨hc,by rcases tx with rfl|rfl<;>simp,ht⟩ (by omega) fun p hp => ?_
   have:=hr.bD tx W6 (by simp) p hp
   rwa [tF HD hu] at this
def mK.ls {t c:Int} {s:aj×aj} (h:mK m0 m1 cpu o t fl s L (some r)) (hv:VS s) (hL:kU c s.1.To L) (hc : 0<=cpu∧cpu<c) (ht : 0<=t∧t<=2) : kU c s.1.To r.2.1:=by
 cases h with
 | wN _ h=>exact h.ls (.inr rfl) hv hL hc ht
 | low _ h=>exact h.ls (.inl rfl) hv hL hc ht
def Sk {k:Int} (ho : 0<=o) (h:o<=k) (hk:k<=4) (ha:a % pw k=0) : a % pw o=0:=by
 rcases fQ (o:=o) ho (by omega) with ⟨e1,e2⟩|⟨e1,e2⟩|⟨e1,e2⟩|⟨e1,e2⟩|⟨e1,e2⟩<;>rcases fQ (o:=k) (by omega) hk with ⟨e3,e4⟩|⟨e3,e4⟩|⟨e3,e4⟩|⟨e3,e4⟩|⟨e3,e4⟩<;>rw [e2]<;>rw [e4] at ha<;>omega
def iD.al {t:Int} {u:aj×Int×Int} (h:iD z o t u) (h0:u.2.2=0) : u.2.1 % pw o=0:=by
 cases h with
 | bad|range|kind|room=>simp at h0
 | @ok k st hq ho ht hk hp =>
   obtain ⟨_,p1,p2⟩:=hp.ord;have hb:=(qB (fD.1 hq) _ (aet hk)).1;exact Sk ho.1 (by omega) (by omega) hb.2.2.2.2
def j7.al {t:Int} {s:aj×aj} (h:j7 m0 m1 cpu zi o t fl s L (some r)) : r.2.2 % pw o=0:=by
 cases h with
 | list ho hk hp=>subst ho;simp only [jv];omega
 | u6 ho he ht hu=>exact ht.al hu
 | fill ho hk he ht hu hr=>exact ht.al hu
def mK.al {t:Int} {s:aj×aj} (h:mK m0 m1 cpu o t fl s L (some r)) : r.2.2 % pw o=0:=by
 cases h with
 | wN _ h=>exact h.al
 | low _ h=>exact h.al
def Er (h1:∀ b∈l,wG b) (h2:l.Pairwise fun x y=>x.At<y.At) : gf l:=by
 rw [aeB] at h2;exact ⟨fun i hi=>h1 _ (aet hi),fun i hi=>h2 i (i+1) (by omega) hi (by omega)⟩
def gf.all (h:gf l) : ∀ b∈l,wG b:=fun b hb=>by
 obtain ⟨i,hi,rfl⟩:=aeu hb;exact h.each i hi
def gf.erase (h:gf l) (k:Nat) : gf (l.eraseIdx k) :=
 Er (fun b hb=>h.all b (ae4 hb)) (List.Pairwise.sublist (afm l k) (k7 h))
def gf.UP {h:Heap} (hl:gf h.Live) {t:Int} (hb:wG ⟨a,o,t⟩) (hn:∀ b∈h.Live,b.At≠a) : gf (dX h a o t):=by
 refine Er (fun b iL => ?_) ?_
 ·rcases wM iL with rfl|h1
  ·exact hb
  ·exact hl.all b h1
 ·have hp:=k7 hl
  have hd:∀ x∈h.Live.drop (bE h.Live a),a<x.At:=fun x hx=>by
   obtain ⟨j,hj,rfl⟩:=aeu hx;simp only [List.length_drop] at hj;rw [afl];have h1:=E0 (l:=h.Live) (a:=a) (by omega);have h2:=hn _ (aet (show bE h.Live a+j<h.Live.length by omega));rcases aeL j with e|e
   ·subst e;simp only [Nat.add_zero] at h2 ⊢;omega
   ·rw [aeB] at hp;have h3:=hp (bE h.Live a) (bE h.Live a+j) (by omega) (by omega) (by omega);omega
  have ht:∀ x∈h.Live.take (bE h.Live a),x.At<a:=fun x hx=>by
   obtain ⟨j,hj,rfl⟩:=aeu hx;simp only [List.length_take] at hj;rw [ae3];exact qb (by omega)
  unfold dX aM;rw [aey,aeT];refine ⟨List.Pairwise.sublist (List.take_sublist _ _) hp,?_,fun x hx y hy => ?_⟩
  ·rw [aeO,afq];exact ⟨hd,List.Pairwise.sublist (List.drop_sublist _ _) hp⟩
  ·have h1:=ht x hx;rcases aeC.1 hy with hy|hy
   ·simp only [List.mem_singleton] at hy;subst hy;exact h1
   ·have:=hd y hy;omega
def qC {h:Heap} {s:aj×aj} (hz:h.bl=[s.1,s.2]) (hv:VS s) (hl:kU h.bJ s.1.To h.au) (hm:∃ m0 m1,h.dP=[m0,m1]∧(0<=m0∧m0<=256)∧(0<=m1∧m1<=256)) (hc : 1<=h.bJ∧h.bJ<=4) (Ma:gf h.Live) (ht:∀ i,uN s h.au h.Live i<=1) : bK h:=by
 refine ⟨⟨s.1,s.2,hz,hv.mr,hv.lQ,hv.qk,hv.EK,hv.Ko,hl.ok,?_⟩,hm,hc,Ma⟩;have hr:=hv.range
 have key:∀ b∈s.1.ai++s.2.ai++a9 h.au++h.Live,(0<=b.At∧1<=pw b.Order)∧b.At+pw b.Order<=256:=fun b hb=>by
  have al:∀ x o:Int,0<=o->o<=4->0<=x->x<256->x % pw o=0->(0<=x∧1<=pw o)∧x+pw o<=256:=fun x o o1 o2 x1 x2 h3=>by
   rcases fQ o1 o2 with ⟨e1,e2⟩|⟨e1,e2⟩|⟨e1,e2⟩|⟨e1,e2⟩|⟨e1,e2⟩<;>rw [e2] at h3 ⊢<;>omega
  have z0:=hv.mr.ok;have z1:=hv.lQ.ok;unfold fR at z0 z1;rw [aeC,aeC,aeC] at hb;rcases hb with ((hb|hb)|hb)|hb
  ·obtain ⟨⟨f1,f2,f3,f4,f5⟩,_⟩:=qB hv.mr b hb;exact al _ _ f1 f2 (by omega) (by omega) f5
  ·obtain ⟨⟨f1,f2,f3,f4,f5⟩,_⟩:=qB hv.lQ b hb;exact al _ _ f1 f2 (by omega) (by omega) f5
  ·unfold a9 at hb;obtain ⟨x,hx,hb⟩:=aeK.1 hb;obtain ⟨p,hp,rfl⟩:=aeH.1 hb;have:=(hl.kE x hx p hp).1
   exact al p 0 (by omega) (by omega) this.1 this.2 (by rw [jv];omega)
  ·obtain ⟨l1,l2,l3,_⟩:=Ma.all b hb;exact al _ _ l1.1 l1.2 l2.1 (by omega) l3
 refine uq (bs:=[]) (fun b hb=>(key b (by simpa using hb)).1) (fun b hb=>(key b hb).2) fun i => ?_
 have:=ht i
 unfold uN pS jA at this;simp only [List.nil_append,dY];omega
def cU.may {h:Heap} {u:Heap×Int×Int} (a:cU h cpu o fl u) (h0:u.2.2=0) : bK u.1:=by
 obtain ⟨y0,y1,s,c1,c2,c3,c4,⟨t,c5,c6⟩,c7,c8,c9,ZA⟩:=a.ku h0;have kZ:=a.at_ h0
 have hm:bK h:=by
  cases a with
  | bad|range|form|room=>simp at h0
  | once hb|gQ hb=>exact bT.1 hb
 have ym:(0<=o∧o<=4)∧u.2.1 % pw o=0∧kU h.bJ y0.To u.1.au ∧ ∀ b∈h.Live,b.At≠u.2.1:=by
  cases a with
  | bad|range|form|room=>simp at h0
  | @once z0 z1 r hb hr ht hz ha =>
    rw [c1] at hz;simp only [List.cons.injEq,and_true] at hz;obtain ⟨rfl,rfl⟩:=hz;obtain ⟨i,e,h1,h2⟩:=qy c2 (ha.found c2.d.start.vs).2;exact ⟨hr.2,ha.al,ha.ls c2.d.start.vs (c2.ls hm) hr.1 (sV ht).2,c2.tC e h2⟩
  | @gQ z0 z1 r hb hr ht hz ha h2 =>
    rw [c1] at hz;simp only [List.cons.injEq,and_true] at hz;obtain ⟨rfl,rfl⟩:=hz;obtain ⟨i,e,h1,h3⟩:=oK c2 (h2.found (fX c2.d).vs).2;have:=h2.ls (c:=h.bJ) (fX c2.d).vs (kU.nil _ _) hr.1 (sV ht).2
    rw [AK c2.d] at this;exact ⟨hr.2,h2.al,this,c2.tC e h3⟩
 obtain ⟨o1,o2,o3,o4⟩:=ym;have XP:=fun i=>c2.Sj i
 refine qC c4 c3 (by rw [c8,c9];exact o3) (by rw [c7];exact hm.eQ) (by rw [c8];exact hm.cpus) ?_ fun i=>by rw [<- (ZA i).1];exact XP i
 rw [c6];exact c2.live.UP ⟨o1,by simp only;omega,o2,c5⟩ o4
def KY {h:Heap} (hm:bK h) (hz:h.bl=[z0,z1]) : bK (mT h z0 z1):=by
 obtain ⟨y0,y1,f⟩:=gL hm;have oW:=f.d.cq;rw [hz] at oW;simp only [List.cons.injEq,and_true] at oW;obtain ⟨rfl,rfl⟩:=oW;refine qC rfl (fX f.d).vs (kU.nil _ _) hm.eQ hm.cpus f.live fun i => ?_
 have h1:=f.Sj i;have h2:=xS f i;have h3:jA [] i=0:=rfl
 unfold uN at h1 ⊢;simp only [mT];omega
def PS (l:List Block) (i:Nat) : (eI l i).toNat<=ku l i:=by
 cases e:eI l i with
 | false=>simp
 | true=>have:=mU.1 e;simp;omega
def Nw (L:List aS) (y:aS) (i:Nat) : jA (jk L y) i+lE (dh L y) i=jA L i+lE y.av i:=by
 cases hk:dz L y
 ·rw [sH hk,og hk,AG];simp [lE,y7]
 ·obtain ⟨hl,_⟩:=ko hk;rw [sG hk,je hk hl];exact FW hl y i
def jK.Nx {h:Heap} (f:jK h z0 z1) (hi:i<h.au.length) : ∀ j,j<=h.au[i].av.length->(bX (z0,z1) ((h.au[i].av.take j).map ct)).1.To=z0.To
 | 0,_=>by simp [bX]
 | j+1,hj=>by
   have ih:=((f.inv hi j (by omega)).back (f.HF hi (show j<_ by omega))).2
   have e:(h.au[i].av.take (j+1)).map ct=(h.au[i].av.take j).map ct++[ct h.au[i].av[j]]:=by
    rw [aeA (by omega),aeV];rfl
   rw [e,oC];exact ih.trans (f.Nx hi j (by omega))
def FY (hz:bW z) (h1:z.aT<=a) (h2:a<z.To) : lf (Ae z a):=by
 have hl:=hz.len;have hi:((a-z.aT) / 8).toNat<z.Types.length:=by omega
 unfold Ae;rw [afh,aez hi];exact hz.types _ (aet hi)
def Ny {h:Heap} (f:jK h z0 z1) (hc : 0<=cpu∧cpu<h.bJ) (ha : 0<=a∧a<256) : ((0<=(keyOf z0 z1 cpu a).gl∧(keyOf z0 z1 cpu a).gl<h.bJ)∧(0<=(keyOf z0 z1 cpu a).aj∧(keyOf z0 z1 cpu a).aj<=1)∧(0<=(keyOf z0 z1 cpu a).Ty∧(keyOf z0 z1 cpu a).Ty<=2))∧KW z0.To (keyOf z0 z1 cpu a).aj a:=by
 have h0:=f.d.qk;have hm:=f.d.EK;have ht:=f.d.Ko
 unfold keyOf KW;by_cases hl:a<z0.To
 ·simp only [if_pos hl];exact ⟨⟨hc,by omega,FY f.d.mr (by omega) hl⟩,ha,by simp [hl]⟩
 ·simp only [if_neg hl];exact ⟨⟨hc,by omega,FY f.d.lQ (by omega) (by omega)⟩,ha,by simp [hl]⟩
def Ia (l:List Int) (k i:Nat) : lE l i=lE (l.take k) i+lE (l.drop k) i:=by rw [<- nd,aex]
def tG {h:Heap} (hm:bK h) (hc : 0<=cpu∧cpu<h.bJ) (hf:bM h.Live a=true) : bK (gK h cpu a):=by
 obtain ⟨z0,z1,f⟩:=gL hm;obtain ⟨hk,QQ⟩:=jJ hf;obtain ⟨k,ek⟩ : ∃ k,bE h.Live a=k:=⟨_,rfl⟩;simp only [ek] at hk QQ;have hL:=f.ls hm;have Kj:=f.live.each k hk;have hN:=f.next hk
 have PT:∀ (s:aj×aj) (bs:List Block),rf s (z0.ai++z1.ai++bs) -> ∀ i,pS s i<=pS (z0,z1) i+ku bs i:=fun s bs D i=>by
  rw [AJ D.vs i,D.Jh i];have:=PS (z0.ai++z1.ai++bs) i
  rw [dY,dY] at this;exact this
 by_cases ho : 0<h.Live[k].Order
 ·rw [rn f.d.cq hk ek ho];obtain ⟨D,EJ⟩:=f.d.start.back hN;refine qC (s:=gJ (z0,z1) h.Live[k]) rfl D.vs (by rw [EJ];exact hL) hm.eQ hm.cpus (f.live.erase k) fun i => ?_
  have h1:=f.Sj i;have h2:=PT _ _ D i;have h3:=tE hk i;rw [vR] at h2;unfold uN at h1 ⊢;simp only [sI];omega
 ·have e0:h.Live[k].Order=0:=by have:=Kj.1;omega
  rw [rp f.d.cq hk ek ho];obtain ⟨hx,hz⟩:=Ny f hc (a:=a) (by have:=Kj.2.1;omega);obtain ⟨x,ex⟩ : ∃ x,keyOf z0 z1 cpu a=x:=⟨_,rfl⟩;rw [ex] at hx hz ⊢;obtain ⟨q,eq⟩ : ∃ q,dh h.au x=q:=⟨_,rfl⟩;rw [eq]
  have hq8:q.length<=8∧(∀ p∈q,KW z0.To x.aj p)∧(q≠[] -> ∃ hl:br h.au x<h.au.length,h.au[br h.au x].av=q):=by
   cases hh:dz h.au x
   ·rw [og hh] at eq;subst eq;exact ⟨by simp,by simp,fun h=>absurd rfl h⟩
   ·obtain ⟨hl,he⟩:=ko hh;rw [je hh hl] at eq;subst eq;refine ⟨(hL.head _ (aet hl)).2.2.2.2,fun p hp => ?_,fun _=>⟨hl,rfl⟩⟩;have:=hL.kE _ (aet hl) p hp
    rwa [he.2.1] at this
  obtain ⟨q1,q2,q3⟩:=hq8
  have ZB:∀ p∈q++[a],KW z0.To x.aj p:=fun p hp=>by
   rcases aeC.1 hp with hp|hp
   ·exact q2 p hp
   ·simp only [List.mem_singleton] at hp;subst hp;exact hz
  have PI:∀ (pg:List Int) (i:Nat),jA (jk h.au (nE x pg)) i+lE q i=jA h.au i+lE pg i:=fun pg i=>by
   have h1:=Nw h.au (nE x pg) i;have XQ:jr (nE x pg) x:=⟨rfl,rfl,rfl⟩
   obtain ⟨k1,k2⟩:=kR (L:=h.au) XQ
   have:dh h.au (nE x pg)=q:=by
    rw [<- eq];unfold dh;rw [k2];split
    ·rename_i hh;obtain ⟨hl,_⟩:=ko hh;rw [k1,afh,afh,aez hl]
     rfl
    ·rfl
   rw [this] at h1;exact h1
  have h3:=fun i=>tE hk i
  rw [QQ,e0] at h3;unfold kT;split
  ·rename_i h9;simp only [List.length_append,List.length_singleton] at h9;have hq:q.length=8:=by omega
   have ZC:(q++[a]).take 4=q.take 4:=afW (by omega)
   obtain ⟨hl,XR⟩:=q3 (fun e=>by rw [e] at hq;simp at hq);have D:=f.inv hl 4 (by rw [XR];omega);have EJ:=f.Nx hl 4 (by rw [XR];omega);rw [XR] at D EJ;rw [ZC];refine qC (s:=bX (z0,z1) ((q.take 4).map ct)) rfl D.vs ?_ hm.eQ hm.cpus (f.live.erase k) fun i => ?_
   ·simp only [EJ];refine hL.QY ?_ fun p hp=>ZB p (afa hp)
    unfold lL nE;simp only [List.length_drop,List.length_append,List.length_singleton];omega
   ·have h1:=f.Sj i;have h2:=PT _ _ D i;have h4:=PI ((q++[a]).drop 4) i;have h5:=Ia (q++[a]) 4 i;rw [nd,vS,ZC] at h5;have h6:=h3 i;have h7:lE (q.take 4) i=ku ((q.take 4).map ct) i:=rfl
    unfold uN at h1 ⊢;simp only;omega
  ·rename_i h9;simp only [List.length_append,List.length_singleton] at h9;refine qC (s:=(z0,z1)) rfl f.d.start.vs ?_ hm.eQ hm.cpus (f.live.erase k) fun i => ?_
   ·refine hL.QY ?_ ZB;unfold lL nE;simp only [List.length_append,List.length_singleton];omega
   ·have h1:=f.Sj i;have h4:=PI (q++[a]) i;rw [nd,vS] at h4;have h6:=h3 i;unfold uN at h1 ⊢;simp only;omega
variable {l':List Slab} {A:Option Addr} {w:World}
def KZ {n:Nat} {l:List Slab} (h:Sl w 3 bd A n l) (h':Sl w 3 bd A n l') : l=l':=by
 have e1:=h.len;have e2:=h'.len;refine afj (by omega) fun k h1 h2 => ?_
 obtain ⟨x,hx⟩ : ∃ x,l[k]=x:=⟨_,rfl⟩;obtain ⟨y,hy⟩ : ∃ y,l'[k]=y:=⟨_,rfl⟩;have a:=h.all (i:=k) (by omega);have b:=h'.all (i:=k) (by omega);rw [show l[k]'(h.lt (by omega))=x from hx] at a;rw [show l'[k]'(h'.lt (by omega))=y from hy] at b;have p0:=(a 0 (.int .i64 x.At) rfl).symm.trans (b 0 (.int .i64 y.At) rfl);have p1:=(a 1 (.int .i64 x.ai) rfl).symm.trans (b 1 (.int .i64 y.ai) rfl);have p2:=(a 2 (.int .i64 x.cj) rfl).symm.trans (b 2 (.int .i64 y.cj) rfl);simp at p0 p1 p2;rw [hx,hy];cases x
 cases y
 simp only at p0 p1 p2;rw [p0,p1,p2]
def sY (A:Option Addr) (n c:Nat) (l:List Slab) (w:World) (hl:Sl w 3 bd A n l) (f:FuncId) (cap:List Value) [Body prog f] (p:Slab->Bool) (arg:Slab->Value) (pK:∀ x,arg x=(if 3=1 then (bd x)[0]?.getD undef else .agg (bd x).toArray))
 (hf:∀ x∈l,∀ w',Ext w w'->bI prog f ([arg x]++cap) w' fun v _=>v = .bool (p x)) (hn:n<=9223372036854775807) :
 bI prog 111 [.slice A n c,.func (.func f) #[] cap.toArray] w fun v _=>v = .bool (l.any p):=by
 refine Wj func111 ntmps111 ?_;have hw:=Ext.refl w;repeat' (first|refine Wz ?_|(refine Wk (jW _ _ _ _ _ (hl.ext hw) f cap p arg pK (fun x hx w1 h1=>hf x hx w1 (hw.trans h1)) hn) ?_;intro v w1 ah hv;subst hv;have hw:=hw.trans ah;clear ah))
 exact ae.bh rfl rfl ⟨_,rfl,hw,by rw [lJ]⟩
def ur (t:Int) (c:aN) : Bool:=c.ab.any (yu t)
def mV (s:ag) (t:Int) : Bool:=s.aa.any (ur t)
def cV (s:ag) (a:Int) : Bool:=decide (0<=a∧a % 16=0) && (!mV s (a / 16) && bM s.Heap.Live (a / 16))
def Nz (w:World) (t:Int) : ∃ p:dT->Bool,∀ x c,Hx w x c->p x=ur t c:=by
 classical
 refine ⟨fun x=>decide (∃ c,Hx w x c∧ur t c=true),fun x c h => ?_⟩;cases e:ur t c
 ·refine decide_eq_false ?_;rintro ⟨c',h',e'⟩
  unfold ur at e e';rw [KZ h'.aB h.aB,e] at e';cases e'
 ·exact decide_eq_true ⟨c,h,e⟩
def PU (t:Int) (b6:Nat) (x:Slab) (w:World) (h6:aR w b6 3 [.int .i64 t]) :
 bI prog 112 ([.agg (bd x).toArray]++[.pointer (some ⟨b6,0,none⟩)]) w fun v _=>v = .bool (yu t x):=by
 refine Wj func112 ntmps112 ?_;refine Ww fun b1 w1 hw lD aX => ?_;have h6:=h6.ext hw;have K4:=h6.cell (i:=0) (v := .int .i64 t) rfl;rw [add_zero] at K4;repeat' (first|refine Wz ?_|refine Wl K4 ?_)
 exact ae.bh rfl rfl ⟨_,rfl,hw,rfl⟩
def PV (t:Int) (b6:Nat) (x:dT) (c:aN) (w:World) (h6:aR w b6 3 [.int .i64 t]) (hx:Hx w x c) (hn:x.ab.n<=9223372036854775807) :
 bI prog 110 ([.agg (fu x).toArray]++[.pointer (some ⟨b6,0,none⟩)]) w fun v _=>v = .bool (ur t c):=by
 refine Wj func110 ntmps110 ?_;refine Ww fun b2 w1 hw eW aq => ?_;have h6:=h6.ext hw;repeat' (first|refine Wz ?_|(refine SW.st (iX (vs:=[.pointer (some ⟨b6,0,none⟩)]) rfl) rfl ?_))
 refine Wk (sY _ _ _ c.ab _ (hx.aB.ext hw) _ [.pointer (some ⟨b6,0,none⟩)] (yu t) (fun x => .agg (bd x).toArray) (fun x=>rfl) (fun x hx w1 lj=>PU t b6 x w1 (h6.ext lj)) hn) fun v w4 kN hv => ?_
 subst hv;have hw:=hw.trans kN;refine Wz ?_;exact ae.bh rfl rfl ⟨_,rfl,hw,rfl⟩
def NA (x:Block) (a:Int) (w:World) (hx : -4000000000000000000<=x.At∧x.At<=4000000000000000000) (ha : -4000000000000000000<=a∧a<=4000000000000000000) : bI prog 113 ([.agg (aO x).toArray,.int .i64 a]++[]) w fun v _=>v = .int .i64 (x.At-a):=by
 refine Wj func113 ntmps113 ?_;refine Ww fun b1 w1 hw lD aX => ?_;refine Wz ?_;exact ae.bh rfl rfl ⟨_,rfl,hw,rfl⟩
def tH (r:de) (s:ag) (a:Int) (w:World) (hr:zU w r s) (hs:s.small) (hM:aA s) (ha : -9223372036854775808<=a∧a<=9223372036854775807) :
 bI prog 62 [.agg (aK r).toArray,.int .i64 a] w fun v _ => ∃ i:Int,v = .tuple #[.int .i64 i,.bool (cV s a)]∧(cV s a=true->i=(bE s.Heap.Live (a / 16) : Int)):=by
 refine Wj func62 ntmps62 ?_;refine Ww fun b2 w1 hw eW aq => ?_;obtain ⟨cs,hc⟩:=hr.bo;obtain ⟨z1,z2⟩:=hc.len;have m3:=hs.bo;have mx:=hr.heap.live.len;have m5:=hs.heap.live;by_cases h0 : 0<=a
 ·have XS:a.tmod 16=a % 16:=ae7 h0
  by_cases h1:a % 16=0
  ·obtain ⟨t,ht⟩ : ∃ t,a / 16=t:=⟨_,rfl⟩;have VZ : 0<=t∧t<=1000000000000000000:=by omega
   obtain ⟨p,hp⟩:=Nz w t;have qs:=nc (p:=p) (q:=ur t) (l:=cs) (m:=s.aa) (by omega) fun k h1 h2=>hp _ _ (hc.each.get k h1 h2)
   have hP:cV s a=(!mV s t && bM s.Heap.Live t):=by unfold cV;rw [decide_eq_true ⟨h0,h1⟩,ht,agt]
   refine Wz ?_;refine SW.alloc rfl fun b6 w2 bq VU ap => ?_
   have WY:=hw.up VU
   (obtain ⟨hw,aq⟩:=cT bq hw aq);skip;refine Wb (i:=0) ap fun w3 bQ hg => ?_
   have hG:=ap.gr hg;have hw:=hw.own WY hg;(have aq:=aq.aJ hG rfl);have ap:aR w3 b6 3 [.int .i64 t]:=by rw [<- ht];exact bQ
   have K4:=ap.cell (i:=0) (v := .int .i64 t) rfl;rw [add_zero] at K4;clear bQ hg hG;repeat' (first|refine Wz ?_|(refine SW.st (iX (vs:=[.pointer (some ⟨b6,0,none⟩)]) rfl) rfl ?_))
   refine Wk (na _ _ _ cs _ (hc.row.ext hw) _ [.pointer (some ⟨b6,0,none⟩)] p (fun x => .agg (fu x).toArray) (fun x=>rfl) (fun x hx w1 lj=>by
    obtain ⟨k,hk,rfl⟩:=aeu hx;have bP:k<s.aa.length:=by omega
    have kf:=hc.each.get k hk bP;have q1:=(hs.each _ (aet bP)).aB;have q2:=kf.aB.len;rw [hp _ _ kf];exact PV t b6 _ _ w1 (ap.ext lj) (kf.ext (hw.trans lj)) (by omega)) (by omega)) fun v w4 kN hv => ?_
   subst hv;rw [qs.2,show s.aa.any (ur t)=mV s t from rfl];(obtain ⟨hw,aq,ap⟩:=cd kN hw aq ap);have K4:=ap.cell (i:=0) (v := .int .i64 t) rfl;rw [add_zero] at K4;cases hi:mV s t
   ·rw [hi] at hP;simp only [Bool.not_false,Bool.true_and] at hP;repeat' (first|refine Wz ?_|refine Wl K4 ?_)
    refine Wk (jI _ _ _ s.Heap.Live t _ (hr.heap.live.ext hw) 113 (fun x hx w1 lj=>by
     obtain ⟨k,hk,rfl⟩:=aeu hx;obtain ⟨l1,l2,l3,l4⟩:=hM.heap.live.each k hk;exact NA _ t w1 (by omega) (by omega)) (k7 hM.heap.live) (by omega)) fun v w5 oX hv => ?_
    subst hv;(obtain ⟨hw,aq,ap⟩:=cd oX hw aq ap);refine Wz ?_;exact ae.dl rfl rfl rfl ⟨_,rfl,hw,(bE s.Heap.Live t:Int),by rw [hP];rfl,fun _=>by rw [ht]⟩
   ·rw [hi] at hP;simp only [Bool.not_true,Bool.false_and] at hP;refine Wz ?_;exact ae.dl rfl rfl rfl ⟨_,rfl,hw,0,by rw [hP],fun h=>by rw [hP] at h;cases h⟩
  ·have hP:cV s a=false:=by unfold cV;rw [decide_eq_false (by omega)];rfl
   refine Wz ?_;exact ae.dl rfl rfl rfl ⟨_,rfl,hw,0,by rw [hP],fun h=>by rw [hP] at h;cases h⟩
 ·have hP:cV s a=false:=by unfold cV;rw [decide_eq_false (by omega)];rfl
  refine Wz ?_;exact ae.dl rfl rfl rfl ⟨_,rfl,hw,0,by rw [hP],fun h=>by rw [hP] at h;cases h⟩
def pT (s:ag) (a:Int) : Int:=if cV s a=true then o8 s.Heap.Live (a / 16) else -1
variable {s:ag}
inductive qD (s:ag) (a:Int) : Option Nat->Prop where
 | no {u:Int×Int×Int} (hF:im s a u) (hn:∀ (i:Nat) (hi:i<s.aa.length),u.2.2=0->u.1=(i:Int)->nF s.aa[i]=false) : qD s a none
 | yes {i:Nat} {k:Int} (hF:im s a ((i:Int),k,0)) (hi:i<s.aa.length) (hm:nF s.aa[i]=true) : qD s a (some i)
def qD.dm {u v:Option Nat} (h:qD s a u) (hv:qD s a v) : u=v:=by
 cases h with
 | no hF hn=>cases hv with
   | no=>rfl
   | @yes i k y6 hi hm =>
     have e:=hF.dm y6;subst e;rw [hn i hi rfl rfl] at hm;cases hm
 | @yes i k hF hi hm=>cases hv with
   | no y6 hn =>
     have e:=hF.dm y6;subst e;rw [hn i hi rfl rfl] at hm;cases hm
   | @yes i' k' y6 mo lA =>
     have e:=hF.dm y6;simp only [Prod.mk.injEq] at e;have:i=i':=by omega
     rw [this]
def im.NB {u:Int×Int×Int} (h:im s a u) (h0:u.2.2=0) : ∃ (i:Nat) (hi:i<s.aa.length),u.1=(i:Int):=by
 cases h with
 | bad=>simp at h0
 | none=>simp at h0
 | free=>simp at h0
 | @hit i k out h hF hC hm=>exact ⟨i,hF.hi,rfl⟩
def im.code {u:Int×Int×Int} (h:im s a u) (hq:gg s=true) : u.2.2=0∨u.2.2=4:=by
 cases h with
 | bad h=>rw [h] at hq;cases hq
 | none=>exact .inr rfl
 | free=>exact .inr rfl
 | hit=>exact .inl rfl
inductive jT (s:ag) (a:Int) : Int×Int->Prop where
 | bad (h:gg s=false) : jT s a (0,8)
 | obj {i:Nat} (h:gg s=true) (hi:i<s.aa.length) (ho:qD s a (some i)) : jT s a (s.aa[i].ay,0)
 | whole (h:gg s=true) (ho:qD s a none) (hw:cV s a=true) : jT s a (16*pw (pT s a),0)
 | no (h:gg s=true) (ho:qD s a none) (hw:cV s a=false) : jT s a (0,4)
def jT.dm {u v:Int×Int} (h:jT s a u) (k:jT s a v) : u=v:=by
 cases h with
 | bad h=>cases k with
   | bad=>rfl
   | obj h'|whole h'|no h'=>rw [h] at h';cases h'
 | obj h hi ho=>cases k with
   | bad h'=>rw [h] at h';cases h'
   | obj h' mo ou=>cases ho.dm ou;rfl
   | whole _ ou|no _ ou=>cases ho.dm ou
 | whole h ho hw=>cases k with
   | bad h'=>rw [h] at h';cases h'
   | obj h' mo ou=>cases ho.dm ou
   | whole=>rfl
   | no _ _ nl=>rw [hw] at nl;cases nl
 | no h ho hw=>cases k with
   | bad h'=>rw [h] at h';cases h'
   | obj h' mo ou=>cases ho.dm ou
   | whole _ _ nl=>rw [hw] at nl;cases nl
   | no=>rfl
def CY (hM:aA s) (h:cV s a=true) : ∃ hk:bE s.Heap.Live (a / 16)<s.Heap.Live.length,pT s a=s.Heap.Live[bE s.Heap.Live (a / 16)].Order∧0<=pT s a∧pT s a<=4:=by
 have hf:bM s.Heap.Live (a / 16)=true:=by
  unfold cV at h;simp only [Bool.and_eq_true] at h;exact h.2.2
 obtain ⟨hk,_⟩:=jJ hf;have e:=Ag hf hk;obtain ⟨l1,l2,l3,l4⟩:=hM.heap.live.each _ hk;unfold pT;rw [if_pos h,e];exact ⟨hk,rfl,by omega,by omega⟩
def NC (r:de) (s:ag) (a:Int) (w:World) (hr:zU w r s) (hf:s.cS) (ha : -9223372036854775808<=a∧a<=9223372036854775807) (hS:iQ w) :
 bI prog 28 [.agg (aK r).toArray,.int .i64 a] w fun v _ => ∃ u,jT s a u∧v = .tuple #[.int .i64 u.1,.int .i64 u.2]:=by
 refine Wj func28 ntmps28 ?_;refine Ww fun b2 w1 hw eW aq => ?_;have hs:=hf.small;obtain ⟨q,hq⟩ : ∃ q,gg s=q:=⟨_,rfl⟩
 have c1:∀ w',Ext w w'->bI prog 41 [.agg (aK r).toArray] w' fun v _=>v = .int .i64 (if q then 0 else 8):=fun w' hx=>by
  have:=mI r s w' (hr.ext hx) hf
  rwa [hq] at this
 cases q
 ·simp only [Bool.false_eq_true,if_false] at c1;repeat' (first|refine Wz ?_|(refine Wk (c1 _ hw) ?_;intro v w1 ah hv;subst hv;obtain ⟨hw,aq⟩:=cT ah hw aq;clear ah))
  exact ae.dl rfl rfl rfl ⟨_,rfl,hw,_,.bad hq,rfl⟩
 ·simp only [if_true] at c1;have hM:=iE.1 hq;obtain ⟨cs,hc⟩:=hr.bo;obtain ⟨z1,z2⟩:=hc.len;have hA:=hc.row.base;repeat' (first|refine Wz ?_|(refine Wk (c1 _ hw) ?_;intro v w1 ah hv;subst hv;obtain ⟨hw,aq⟩:=cT ah hw aq;clear ah))
  refine Wk (vM r s a _ (hr.ext hw) hf ha) fun v w5 oX hv => ?_
  obtain ⟨u,hu,rfl⟩:=hv;(obtain ⟨hw,aq⟩:=cT oX hw aq);clear c1;by_cases h0:u.2.2=0
  ·obtain ⟨i,hi,R7⟩:=hu.NB h0;obtain ⟨i',k,e⟩:=u;simp only at h0 R7;subst h0 R7;simp only [CO];have cx:i<r.aa.n:=by omega
   have Ib:i<cs.length:=by omega
   have kf:=hc.each.get i Ib hi;have q1:=kf.names.len;have q2:=(hs.each _ (aet hi)).names;have eS:=kf.size;obtain ⟨bm,Mh⟩ : ∃ bm,nF s.aa[i]=bm:=⟨_,rfl⟩
   have c2:∀ w',Ext w w'->bI prog 67 [.agg (fu cs[i]).toArray] w' fun v _=>v = .bool bm:=fun w' hx=>by
    have:=Ar cs[i] _ w' (kf.ext hx) (by omega) (hS.ext hx)
    rwa [Mh] at this
   cases bm
   ·have hO:qD s a none := .no hu fun i2 Si _ e=>by
     have e:i=i2:=by simp only at e;omega
     subst e;exact Mh
    repeat' (first|refine Wz ?_|refine Wo hw ((hc.row.all cx)) ?_|(refine Wk (c2 _ hw) ?_;intro v w1 ah hv;subst hv;obtain ⟨hw,aq⟩:=cT ah hw aq;clear ah))
    refine Wk (tH r s a _ (hr.ext hw) hs hM ha) fun v w6 FP hv => ?_
    obtain ⟨ix,rfl,oe⟩:=hv;(obtain ⟨hw,aq⟩:=cT FP hw aq);cases hW:cV s a
    ·repeat' (first|refine Wz ?_|(refine CW.gj rfl ?_))
     exact ae.dl rfl rfl rfl ⟨_,rfl,hw,_,.no hq hO hW,rfl⟩
    ·obtain ⟨hk,e1,e2,e3⟩:=CY hM hW;obtain rfl:=oe hW;have Kj:=hr.heap.live.len;have Zn:=hr.heap.live.base;have gC:bE s.Heap.Live (a / 16)<r.Heap.Live.n:=by omega
     have g1:=hr.heap.live.jF gC (j:=1) (u := .int .i64 (pT s a)) (by rw [e1];rfl);have hp:=cM e2 e3;repeat' (first|refine Wz ?_|(refine CW.gG rfl ?_)|refine Wn hw g1 ?_|(refine SW.st (fO (r:=16*pw (pT s a)) rfl rfl (by omega) (by omega) (by simp [pw]) (by omega) (by omega)) rfl ?_))
     exact ae.dl rfl rfl rfl ⟨_,rfl,hw,_,.whole hq hO hW,rfl⟩
   ·have hO:qD s a (some i) := .yes hu hi Mh
    repeat' (first|refine Wz ?_|refine Wo hw ((hc.row.all cx)) ?_|refine Wn hw (hc.row.jF cx (j:=1) (u := .int .i64 cs[i].ay) rfl) ?_|(refine Wk (c2 _ hw) ?_;intro v w1 ah hv;subst hv;obtain ⟨hw,aq⟩:=cT ah hw aq;clear ah))
    exact ae.dl rfl rfl rfl ⟨_,rfl,hw,_,.obj hq hi hO,by rw [eS]⟩
  ·obtain ⟨i',k,e⟩:=u;simp only at h0;simp only [CO];have hO:qD s a none := .no hu fun i hi h=>absurd h h0
   obtain rfl:e=4:=(hu.code hq).resolve_left h0;refine Wz ?_;refine Wk (tH r s a _ (hr.ext hw) hs hM ha) fun v w6 FP hv => ?_
   obtain ⟨ix,rfl,oe⟩:=hv;(obtain ⟨hw,aq⟩:=cT FP hw aq);cases hW:cV s a
   ·refine Wz ?_;exact ae.dl rfl rfl rfl ⟨_,rfl,hw,_,.no hq hO hW,rfl⟩
   ·obtain ⟨hk,e1,e2,e3⟩:=CY hM hW;obtain rfl:=oe hW;have Kj:=hr.heap.live.len;have Zn:=hr.heap.live.base;have gC:bE s.Heap.Live (a / 16)<r.Heap.Live.n:=by omega
    have g1:=hr.heap.live.jF gC (j:=1) (u := .int .i64 (pT s a)) (by rw [e1];rfl);have hp:=cM e2 e3;repeat' (first|refine Wz ?_|refine Wn hw g1 ?_|(refine SW.st (fO (r:=16*pw (pT s a)) rfl rfl (by omega) (by omega) (by simp [pw]) (by omega) (by omega)) rfl ?_))
    exact ae.dl rfl rfl rfl ⟨_,rfl,hw,_,.whole hq hO hW,rfl⟩
variable {u:ag×Int}
def qE (c:aN) : ByteArray:=c.Names.getD 0 ⟨#[]⟩
def oN (s:ag) (h:Heap) : ag:=⟨s.Words,h,s.aa⟩
def kj (s:ag) (cpu:Int) : Prop:=0<=cpu∧cpu<s.Heap.bJ
inductive jU (s:ag) (cpu a:Int) : ag×Int->Prop where
 | bad (h:gg s=false) : jU s cpu a (.zero,8)
 | range (h:gg s=true) (hc : ¬ kj s cpu) : jU s cpu a (.zero,1)
 | obj {i:Nat} {u:ag×Int} (h:gg s=true) (hc:kj s cpu) (hi:i<s.aa.length) (ho:qD s a (some i)) (hp:pP s (qE s.aa[i]) cpu a u) : jU s cpu a u
 | no (h:gg s=true) (hc:kj s cpu) (ho:qD s a none) (hw:cV s a=false) : jU s cpu a (.zero,4)
 | whole (h:gg s=true) (hc:kj s cpu) (ho:qD s a none) (hw:cV s a=true) : jU s cpu a (oN s (fq s.Heap cpu (a / 16)).2,0)
def jU.dm {v:ag×Int} (x:jU s cpu a u) (y:jU s cpu a v) : u=v:=by
 cases x with
 | bad h=>cases y with
   | bad=>rfl
   | range h'|obj h'|no h'|whole h'=>rw [h] at h';cases h'
 | range h hc=>cases y with
   | bad h'=>rw [h] at h';cases h'
   | range=>rfl
   | obj _ iq|no _ iq|whole _ iq=>exact absurd iq hc
 | obj h hc hi ho hp=>cases y with
   | bad h'=>rw [h] at h';cases h'
   | range _ iq=>exact absurd hc iq
   | obj _ _ _ ou Hj=>cases ho.dm ou;exact hp.dm Hj
   | no _ _ ou|whole _ _ ou=>cases ho.dm ou
 | no h hc ho hw=>cases y with
   | bad h'=>rw [h] at h';cases h'
   | range _ iq=>exact absurd hc iq
   | obj _ _ _ ou=>cases ho.dm ou
   | no=>rfl
   | whole _ _ _ nl=>rw [hw] at nl;cases nl
 | whole h hc ho hw=>cases y with
   | bad h'=>rw [h] at h';cases h'
   | range _ iq=>exact absurd hc iq
   | obj _ _ _ ou=>cases ho.dm ou
   | no _ _ _ nl=>rw [hw] at nl;cases nl
   | whole=>rfl
def dG (h:cV s a=true) : bM s.Heap.Live (a / 16)=true∧0<=a∧a % 16=0:=by
 unfold cV at h;simp only [Bool.and_eq_true,decide_eq_true_eq] at h;exact ⟨h.2.2,h.1.1,h.1.2⟩
def K9 (hM:aA s) (hc:kj s cpu) (hw:cV s a=true) : (fq s.Heap cpu (a / 16)).1=0:=by
 rw [lS (bT.2 hM.heap) hc (dG hw).1]
def ND (hf:s.cS) (hi:i<s.aa.length) : (qE s.aa[i]).size<=140737488351232:=by
 unfold qE;rcases aeL s.aa[i].Names.length with h|h
 ·rw [List.length_eq_zero_iff.1 h];decide
 ·have:=hf.names _ (aet hi) _ (aet h)
  simpa [h] using this
variable {j:Nat}
def CZ (h:iQ w) : ∀ j v,(kL.map (Value.int .i64))[j]?=some v->w.cell? ((⟨0,0,none⟩ : Addr).add j)=some v:=fun j v hv=>by
 rcases ae5 j 6 with hj|hj
 ·have:=h.sl.one (i:=j) (u:=v) hj (by
   rcases (show j=0∨j=1∨j=2∨j=3∨j=4∨j=5 by omega) with rfl|rfl|rfl|rfl|rfl|rfl<;>simpa [kL,bt] using hv)
  simpa using this
 ·rw [aff (by simp [kL];omega)] at hv;cases hv
def kP (j:Nat) : Int:=(2:Int) ^ j
def NE (h:j<6) : kP j∈kL∧kL[j]?=some (kP j)∧1<=kP j∧kP j<=32:=by
 unfold kP;rcases (show j=0∨j=1∨j=2∨j=3∨j=4∨j=5 by omega) with rfl|rfl|rfl|rfl|rfl|rfl<;>decide
def PW (j:Nat) : kP (j+1)=2*kP j:=by unfold kP;rw [Int.pow_succ,afD]
def C0 (h:j<6) : (eJ (kP j)).size<=140737488351232:=by
 unfold kP;rcases (show j=0∨j=1∨j=2∨j=3∨j=4∨j=5 by omega) with rfl|rfl|rfl|rfl|rfl|rfl<;>decide
variable {s':ag} {cs':List dT} {m n':Nat} {A':Option Addr}
structure SJ (G:Nat->Prop) (w:World) (lo:Nat) (r:de) (s:ag) (cs:List dT) : Prop where
 ints:∃ m1 m2,lo<=m1∧jY w m1 m2 r.Heap s.Heap ∧ ∀ g,((∃ u∈cs,aG u.ak.A u.ak.c=some g)∨G g)->(g<m1∨m2<=g)∧aG r.Words.A r.Words.c≠some g
 sep:∀ u∈cs,∀ g,G g->aG u.ak.A u.ak.c≠some g
section
variable {w w':World} {lo t:Nat} {r:de} {s:ag} {cs:List dT} {i:Nat} {p:Heap×aN} {G:Nat->Prop}
def SJ.rows (h:SJ G w lo r s cs) (hh:s'.Heap=s.Heap) (hc:∀ u∈cs',∃ v∈cs,aG u.ak.A u.ak.c=aG v.ak.A v.ak.c) : SJ G w lo r s' cs':=by
 obtain ⟨m1,m2,h1,h2,h3⟩:=h.ints;refine ⟨⟨m1,m2,h1,by rw [hh];exact h2,fun g e=>h3 g ?_⟩,fun u hu => ?_⟩
 ·rcases e with ⟨u,hu,e⟩|e
  ·obtain ⟨v,hv,e2⟩:=hc u hu;exact .inl ⟨v,hv,e2 ▸ e⟩
  ·exact .inr e
 ·obtain ⟨v,hv,e2⟩:=hc u hu;rw [e2];exact h.sep v hv
def SI.sj (h:SI w lo r s cs) : SJ (fun _=>False) w lo r s cs:=by
 obtain ⟨m1,m2,h1,h2,h3,h4,h5⟩:=h.ints;refine ⟨⟨m1,m2,h1,h4,fun g e => ?_⟩,fun u hu g e=>e.elim⟩;rcases e with ⟨u,hu,e⟩|e
 ·obtain ⟨j,hj,rfl⟩:=aeu hu;have:=(h5.get j hj (by rw [<- h5.len];exact hj)).aV.aW g e
  exact ⟨.inr this,fun e2=>by have:=h3 g e2;omega⟩
 ·exact e.elim
def SJ.ext (h:SJ G w lo r s cs) (hx:Ext w w') : SJ G w' lo r s cs:=by
 obtain ⟨m1,m2,h1,h2,h3⟩:=h.ints;exact ⟨⟨m1,m2,h1,h2.ext hx,h3⟩,h.sep⟩
def SJ.aJ (h:SJ G w lo r s cs) (hG:se w w' t) (bG:(Nat.beq t 3 || (Nat.beq t 143 || (Nat.beq t 113 || Nat.beq t 155)))=false) : SJ G w' lo r s cs:=by
 obtain ⟨m1,m2,h1,h2,h3⟩:=h.ints;exact ⟨⟨m1,m2,h1,h2.aJ hG bG,h3⟩,h.sep⟩
def SJ.ne (h:SJ G w lo r s cs) {g:Nat} (hg:G g) (hi:i<cs.length) : some g≠aG cs[i].ak.A cs[i].ak.c:=fun e=>h.sep _ (aet hi) g hg e.symm
def ru.act {l':List Int} (h:SX w lo r (bz s i p) cs) (hJ:SJ G w lo r (bz s i p) cs) (hi:i<cs.length) (mo:i<s.aa.length) (hO:Own w' lo 3 1 bt cs[i].ak.A cs[i].ak.n cs[i].ak.c l') (hg:w.grownBy w' (aG cs[i].ak.A cs[i].ak.c)) :
 SX w' lo r (bz s i (p.1,⟨p.2.Names,p.2.ay,p.2.bL,p.2.Order,p.2.ab,l'⟩)) cs∧SJ G w' lo r (bz s i (p.1,⟨p.2.Names,p.2.ay,p.2.bL,p.2.Order,p.2.ab,l'⟩)) cs:=by
 obtain ⟨m1,m2,h1,h2,h3⟩:=hJ.ints;have hc:=h.get hi mo;have hG:=hc.aV.gr hg;have Jt:cs.set i cs[i]=cs:=afb hi
 have hh:jY w' m1 m2 r.Heap p.1:=by
  cases e:aG cs[i].ak.A cs[i].ak.c with
  | none=>rw [e] at hg;exact h2.aJ (⟨none,hg,fun k hk=>by cases hk⟩ : se w w' 44) rfl
  | some g=>rw [e] at hg;exact h2.Js hg hG (h3 g (.inl ⟨_,aet hi,e⟩)).1
 have UE:Own w' lo 3 1 bt r.Words.A r.Words.n r.Words.c s.Words:=h.words.apart hg fun g e e2=>(h3 g (.inl ⟨_,aet hi,e2⟩)).2 e
 refine ⟨⟨UE,hh.own.low h1,h.row.aJ hG rfl,?_,h.pair⟩,⟨⟨m1,m2,h1,hh,h3⟩,hJ.sep⟩⟩;have:=fK.setAt (x:=cs[i]) (R':=o7 w' lo) h.each (i:=i) (y:=⟨p.2.Names,p.2.ay,p.2.bL,p.2.Order,p.2.ab,l'⟩) ⟨hc.size,hc.per,hc.order,hc.names.aJ hG rfl,hc.aB.aJ hG rfl,hO⟩ fun j h1 h2 ji ho=>⟨ho.size,ho.per,ho.order,ho.names.aJ hG rfl,ho.aB.aJ hG rfl,ho.aV.grown hg (oh (.inl (lW h.pair hi h1 ji).aV))⟩
 rw [Jt] at this;simpa [bz] using this
def ru.fresh {X:fY} {l':List Int} {H:jH} {h':Heap} (h:SX w lo r (bz s i p) cs) (dt:lo<=m) (hm:∀ u∈cs,∀ g,aG u.ak.A u.ak.c=some g->g<m) (ZD:∀ g,G g->g<m ∧ ∀ u∈cs,aG u.ak.A u.ak.c≠some g) (hX:Own w m 3 1 bt X.A X.n X.c l') (hH:jP w m H h') :
 SX w lo ⟨X,H,r.aa⟩ (bz ⟨l',s.Heap,s.aa⟩ i (h',p.2)) cs∧SJ G w lo ⟨X,H,r.aa⟩ (bz ⟨l',s.Heap,s.aa⟩ i (h',p.2)) cs:=by
 have key:∀ g,((∃ u∈cs,aG u.ak.A u.ak.c=some g)∨G g)->g<m:=fun g e=>by
  rcases e with ⟨u,hu,e⟩|e
  ·exact hm u hu g e
  ·exact (ZD g e).1
 refine ⟨⟨hX.low dt,hH.low dt,h.row,h.each,h.pair⟩,⟨m,w.heap.size,dt,hH.vK,fun g e=>⟨.inl (key g e),fun e2 => ?_⟩⟩,fun u hu g e=>(ZD g e).2 u hu⟩;have:=key g e
 have:=hX.aW g e2
 omega
def ru.C2 {c':Nat} (h:SX w lo r (bz s i p) cs) (hi:i<cs.length) (mo:i<s.aa.length) (hO:Own w' lo 107 3 bd A' n' c' l') (hg:w.grownBy w' (aG cs[i].ab.A cs[i].ab.c)) (kb:∀ k,aG A' c'=some k->aG cs[i].ab.A cs[i].ab.c=some k∨w.heap.size<=k) :
 ru w' lo r (bz s i (p.1,⟨p.2.Names,p.2.ay,p.2.bL,p.2.Order,l',p.2.ak⟩)) cs (cs.set i ⟨cs[i].Names,cs[i].ay,cs[i].bL,cs[i].Order,⟨A',n',c'⟩,cs[i].ak⟩):=by
 have hc:=h.get hi mo;have hG:=hc.aB.gr hg;refine ⟨h.words.aJ hG rfl,h.heap.aJ hG rfl,h.row.aJ hG rfl,?_,?_⟩
 ·have:=fK.setAt (R':=o7 w' lo) (i:=i) (x:=⟨cs[i].Names,cs[i].ay,cs[i].bL,cs[i].Order,⟨A',n',c'⟩,cs[i].ak⟩) (y:=⟨p.2.Names,p.2.ay,p.2.bL,p.2.Order,l',p.2.ak⟩) h.each ⟨hc.size,hc.per,hc.order,hc.names.aJ hG rfl,hO,hc.aV.aJ hG rfl⟩ fun j h1 h2 ji ho=>⟨ho.size,ho.per,ho.order,ho.names.aJ hG rfl,ho.aB.grown hg (oh (.inl (lW h.pair hi h1 ji).aB)),ho.aV.aJ hG rfl⟩
  simpa [bz] using this
 ·refine As h.pair fun j hj ji => ?_
  have hp:=lW h.pair hi hj ji;have e8:=(h.each.get j hj (by rw [<- h.each.len];exact hj)).aB.lt_size
  have ha:apart ⟨A',n',c'⟩ cs[j].ab:=fun k e e2=>by
   rcases kb k e with e3|e3
   ·exact hp.aB k e3 e2
   ·have:=e8 k e2;omega
  exact ⟨⟨hp.names,ha,hp.aV⟩,⟨gh hp.names,gh ha,gh hp.aV⟩⟩
def ru.Jy (h:SX w lo r s cs) : ∀ u∈cs,∀ g,aG u.ak.A u.ak.c=some g->g<w.heap.size:=fun u hu g e=>by
 obtain ⟨j,hj,rfl⟩:=aeu hu;exact (h.each.get j hj (by rw [<- h.each.len];exact hj)).aV.lt_size g e
end
set_option maxHeartbeats 4000000 in
def sZ (A:Option Addr) (n c lo:Nat) (l:List Slab) (w:World) (hO:Own w lo 107 3 bd A n c l) (i:Nat) (hi:i<=n) (x:Slab) (b:Nat) (hB:aR w b 107 (bd x)) (bG:aG A c≠some b) (hn:(n+1)*24<=140737488355328) (dt:lo<=w.heap.size) :
 iO prog 174 [.slice A n c,.int .i64 (i:Int),.slice (some ⟨b,0,none⟩) 1 1] w fun v w' => ∃ A' c',v = .slice A' (n+1) c'∧Own w' lo 107 3 bd A' (n+1) c' (aM l i x)∧w.grownBy w' (aG A c) ∧ ∀ k,aG A' c'=some k->aG A c=some k∨w.heap.size<=k:=by
 refine dc func174 rfl ntmps174 rfl ?_;have hle:=hO.le;have mx:=hO.len;have hA:=hO.sl.base;have hw:=Ext.refl w;have lj:Sl w 3 bd (some ⟨b,0,none⟩) 1 [x]:=aR.wv hB
 have od:(bd x).length=3:=rfl
 have nK:∀ q:List Slab,(q.flatMap bd).length=q.length*3:=fun q=>aQ q
 have pH:∀ (q:List Slab) (v:Value),v∈q.flatMap bd->v.oneCell'=true:=fun q v hv=>by
  obtain ⟨u,_,hu⟩:=aeK.1 hv;exact iK.one (enc:=bd) u v hu
 by_cases cx:i=n
 ·subst cx;repeat' (first|refine Wz ?_|(refine SW.st (aZ (k:=i) rfl rfl (by omega) (by omega)) rfl ?_))
  all_goals try omega
  refine SW.yX hO lj dt (by omega) rfl rfl rfl (by omega) (by omega) fun A2 c2 w2 uj => ?_
  have jw:Own w2 lo 107 3 bd A2 (i+1) c2 (l++[x])∧w.grownBy w2 (aG A c) ∧ ∀ k,aG A2 c2=some k->aG A c=some k∨w.heap.size<=k:=by
   rcases uj with ⟨rfl,rfl,h1,h2⟩|⟨h1,h2⟩
   ·exact ⟨h1,h2,fun k e => .inl e⟩
   ·exact ⟨h1.low dt,(aD (Ext.refl w) h2 (aew _) (fun k e=>by cases e)).gr _,fun k e => .inr (h1.aW k e)⟩
  obtain ⟨bg,hg,kb⟩:=jw;refine Wz ?_;refine ae.bh rfl rfl ⟨_,rfl,A2,c2,rfl,?_,hg,kb⟩;have e:aM l i x=l++[x]:=by unfold aM;rw [aeF (by omega),afH (by omega)];simp
  rw [e];exact bg
 ·by_cases kM:n+1<=c
  ·obtain ⟨g,rest,rfl,h1,h2,h3,h4,h5,h6⟩:=hO.opened (by omega);have EH:g≠b:=fun e=>bG (by rw [h6,e])
   have es:l.flatMap bd++rest=(l.take i).flatMap bd++((l.drop i).flatMap bd++rest):=by rw [<- aey,<- aeM,aex]
   have e1:((l.take i).flatMap bd).length=i*3:=by rw [nK];simp;omega
   have e2:((l.drop i).flatMap bd).length=(n-i)*3:=by rw [nK];simp [mx]
   have mn:=hO.sl.drop i c (by omega) (by omega);rw [if_neg (by omega)] at mn;rw [es] at h2
   have J6:∀ w',Ext w w'->(Extern.SlicesOverlaps.overlaps #[101,101] #[4] #[.slice (some ⟨b,0,none⟩) 1 1,.slice (if c=i+1 then (some ⟨g,0,none⟩) else (some (⟨g,0,none⟩ : Addr)).map (·.add ((i+1)*3))) (n+1-(i+1)) (c-(i+1))]).run prog w' = .ok (.bool false) w':=fun w' hx=>by
    rw [if_neg (by omega),age,cJ];have b1:=hB.ext hx;have b2:=h2.ext hx;unfold aR at b1 b2
    exact Lib.run_overlaps_apart w' 101 4 107 (bu.ot (t:=101)) 3 (fun w0=>run_sizeOf (bu.size (t:=101)) w0) ⟨b,0,none⟩ ⟨g,(i+1)*3,none⟩ 1 1 _ _ (fun e=>EH e.symm) 107 107 (bd x).toArray.size ((l.take i).flatMap bd++((l.drop i).flatMap bd++rest)).toArray.size
     (by simp only [World.shape?,b1]) (by simp only [World.shape?,b2]) (by simp [e1,e2];omega) (by simp [World.frozen?,b1]) (by simp [World.frozen?,b1])
   repeat' (first|refine Wz ?_|(refine CW.gG rfl ?_)|(refine SW.st (aZ (k:=i) rfl rfl (by omega) (by omega)) rfl ?_)|(refine SW.st (cW (k:=n+1) rfl rfl (by omega)) rfl ?_)|(refine SW.st (aZ (k:=i+1) rfl rfl (by omega) (by omega)) rfl ?_)|(refine SW.entry func179 (by kernel_rfl) (by kernel_rfl) (by kernel_rfl) (e:=Extern.SlicesOverlaps.overlaps #[101,101] #[4]) (by kernel_rfl) rfl rfl (J6 _ hw) ?_))
   all_goals try omega
   have nq:((n-i)+1)*3<=((l.drop i).flatMap bd++rest).length:=by rw [aeD,e2];omega
   have e4:(l.drop i).flatMap bd++rest=((l.drop i).flatMap bd++rest).take 3++(((l.drop i).flatMap bd++rest).drop 3).take ((n-i)*3)++((l.drop i).flatMap bd++rest).drop (3+(n-i)*3):=by
    rw [aey,<- afB,aex,aex]
   generalize Hg:((l.drop i).flatMap bd++rest).take 3=D1 at e4
   generalize Hh:(((l.drop i).flatMap bd++rest).drop 3).take ((n-i)*3)=D2 at e4
   generalize Hi:((l.drop i).flatMap bd++rest).drop (3+(n-i)*3)=D3 at e4
   have f1:D1.length=3:=by rw [<- Hg];simp only [List.length_take];omega
   have f2:D2.length=(n-i)*3:=by rw [<- Hh];simp only [List.length_take,List.length_drop];omega
   have f3:D3.length+3=rest.length:=by rw [<- Hi];simp only [List.length_drop,List.length_append,e2];omega
   rw [e4] at h2;refine CW.any 8 mixed (db (by kernel_rfl)) rfl fun w1 ah aI => ?_
   obtain ⟨hw,hO,hB,h2⟩:=dJ ah hw hO hB h2;clear ah;refine Wa ?_;refine Wu 4 aI rfl (aZ (k:=i+1) rfl rfl (by omega) (by omega)) ?_;refine Wa ?_;refine Wu 7 aI rfl (aZ (k:=i) rfl rfl (by omega) (by omega)) ?_;refine SA.fZ ?_;refine SW.copy (k:=n-i) ((i+1)*3) ((l.drop i).flatMap bd) h2 rfl rfl rfl (by omega) e2 (by simp only [List.length_append,e1,e2,f1,f2];omega) (fun h0=>⟨by rw [if_neg (by omega)];simp [cJ],(⟨g,0,none⟩ : Addr).add (i*3),by rw [if_neg (by omega)];rfl,fun j v hv=>du (by omega) (mn.ext hw) j v hv⟩) (pH _) fun w3 nI oZ => ?_
   have g1:=eH ((l.take i).flatMap bd++D1) D2 D3 ((l.drop i).flatMap bd) (by rw [e2,f2]) (o:=(i+1)*3) (by rw [aeD,e1,f1];omega);have g0:(l.take i).flatMap bd++(D1++D2++D3)=(l.take i).flatMap bd++D1++D2++D3:=by simp only [List.append_assoc]
   rw [g0,g1] at nI;have DL:=bC (hw.gr (aG (some ⟨g,0,none⟩) c)) oZ (.inl h6.symm);have RG:=hB.grown oZ (by simpa using fun e=>EH e.symm);repeat' (first|refine Wz ?_|(refine SW.st (aZ (k:=i) rfl rfl (by omega) (by omega)) rfl ?_))
   refine SW.copy (k:=1) (i*3) (bd x) nI rfl rfl rfl (by omega) od (by simp only [List.length_append,e1,e2,f1,od];omega) (fun h0=>⟨by rw [if_neg (by omega)];simp [cJ],⟨b,0,none⟩,rfl,fun j v hv=>RG.cell hv⟩) (iK.one (enc:=bd) x) fun w4 oy yi => ?_
   have g2:=eH ((l.take i).flatMap bd) D1 ((l.drop i).flatMap bd++D3) (bd x) (by rw [od,f1]) (o:=i*3) e1.symm;have g3:(l.take i).flatMap bd++D1++(l.drop i).flatMap bd++D3=(l.take i).flatMap bd++D1++((l.drop i).flatMap bd++D3):=by simp only [List.append_assoc]
   have g4:(l.take i).flatMap bd++bd x++((l.drop i).flatMap bd++D3)=(aM l i x).flatMap bd++D3:=by unfold aM;simp only [List.flatMap_append,List.flatMap_cons,List.flatMap_nil,List.append_nil,List.append_assoc]
   rw [g3,g2,g4] at oy;have E2:=Own.closed (n:=n+1) (c:=c) (l:=aM l i x) (by unfold aM;simp;omega) oy (by omega) kM (by omega) h5 h1;have eE:=bC DL yi (.inl h6.symm);refine Wz ?_;exact ae.bh rfl rfl ⟨_,rfl,_,_,rfl,E2,eE,fun k e => .inl e⟩
  ·have Tt:c=n:=by omega
   have mn:=hO.sl.drop i c (by omega) (by omega);have BP:=hO.sl.pre (i:=i) (by omega);repeat' (first|refine Wz ?_|(refine SW.st (aZ (k:=i) rfl rfl (by omega) (by omega)) rfl ?_)|(refine SW.st (cW (k:=i) rfl rfl (by omega)) rfl ?_))
   all_goals try omega
   refine SW.yO (k:=n+1-i) BP Tryz.underlying3 rfl rfl (by omega) rfl (by omega) (by omega) (by omega) (by omega) fun g rest c2 w2 bq dB h2 h3 h4 h5 => ?_
   have e1:((l.take i).flatMap bd).length=i*3:=by rw [nK];simp;omega
   have e2:((l.drop i).flatMap bd).length=(n-i)*3:=by rw [nK];simp [mx]
   have nq:((n-i)+1)*3<=rest.length:=by omega
   have e4:rest=rest.take 3++(rest.drop 3).take ((n-i)*3)++rest.drop (3+(n-i)*3):=by
    rw [aey,<- afB,aex,aex]
   generalize Hg:rest.take 3=D1 at e4
   generalize Hh:(rest.drop 3).take ((n-i)*3)=D2 at e4
   generalize Hi:rest.drop (3+(n-i)*3)=D3 at e4
   have f1:D1.length=3:=by rw [<- Hg];simp only [List.length_take];omega
   have f2:D2.length=(n-i)*3:=by rw [<- Hh];simp only [List.length_take,List.length_drop];omega
   have f3:D3.length+((n-i)+1)*3=rest.length:=by rw [<- Hi];simp only [List.length_drop];omega
   rw [e4] at h2;have fP:aG A c≠some g:=fun e=>by have:=hO.lt_size _ e;omega
   have EH:b≠g:=by have:=hB.lt;omega
   obtain ⟨mn,hB,hw⟩:=cd bq mn hB hw;repeat' (first|refine Wz ?_|(refine SW.st (aZ (k:=i) rfl rfl (by omega) (by omega)) rfl ?_))
   refine SW.copy (k:=1) (i*3) (bd x) h2 rfl rfl rfl (by omega) od (by simp only [List.length_append,e1,f1,f2,od];omega) (fun h0=>⟨by rw [if_neg (by omega)];simp [cJ],⟨b,0,none⟩,rfl,fun j v hv=>hB.cell hv⟩) (iK.one (enc:=bd) x) fun w3 nI oZ => ?_
   have g2:=eH ((l.take i).flatMap bd) D1 (D2++D3) (bd x) (by rw [od,f1]) (o:=i*3) e1.symm;have g3:(l.take i).flatMap bd++(D1++D2++D3)=(l.take i).flatMap bd++D1++(D2++D3):=by simp only [List.append_assoc]
   rw [g3,g2] at nI;have MA:Ext w w3:=hw.own dB oZ
   have lK:Sl w3 3 bd (if c=i then A else A.map (·.add (i*3))) (n-i) (l.drop i):=(hO.sl.drop i c (by omega) (by omega)).ext MA
   have hw:=MA;refine Wz ?_;refine CW.any 8 mixed (db (by kernel_rfl)) rfl fun w1 ah aI => ?_
   obtain ⟨hw,nI,lK⟩:=cd ah hw nI lK;clear ah;refine Wa ?_;refine Wu 4 aI rfl (aZ (k:=i+1) rfl rfl (by omega) (by omega)) ?_;refine Wa ?_;refine Wu 7 aI rfl (aZ (k:=i) rfl rfl (by omega) (by omega)) ?_;refine SA.fZ ?_;refine SW.copy (k:=n-i) ((i+1)*3) ((l.drop i).flatMap bd) nI rfl rfl rfl (by omega) e2 (by simp only [List.length_append,e1,e2,f2,od];omega) (fun h0=>⟨by rw [if_neg (by omega)];simp [cJ],(if c=i then A else A.map (·.add (i*3))).getD default,?_,fun j v hv=>du (by omega) lK j v hv⟩) (pH _) fun w4 oy yi => ?_
   ·obtain ⟨a,ha⟩:=aeZ.1 (lK.base h0);rw [ha];rfl
   ·have g4:=eH ((l.take i).flatMap bd++bd x) D2 D3 ((l.drop i).flatMap bd) (by rw [e2,f2]) (o:=(i+1)*3) (by rw [aeD,e1,od];omega);have g5:(l.take i).flatMap bd++bd x++(D2++D3)=(l.take i).flatMap bd++bd x++D2++D3:=by simp only [List.append_assoc]
    have g6:(l.take i).flatMap bd++bd x++(l.drop i).flatMap bd++D3=(aM l i x).flatMap bd++D3:=by unfold aM;simp only [List.flatMap_append,List.flatMap_cons,List.flatMap_nil,List.append_nil,List.append_assoc]
    rw [g5,g4,g6] at oy;have E2:=Own.closed (n:=n+1) (c:=c2) (lo:=lo) (l:=aM l i x) (by unfold aM;simp;omega) oy (by omega) (by omega) (by omega) h5 (by omega);have kN:Ext w w4:=hw.own dB yi
    have e9:i+(n+1-i)=n+1:=by omega
    refine Wz ?_;rw [e9]
    exact ae.bh rfl rfl ⟨_,rfl,_,_,rfl,E2,kN.gr _,fun k e => .inr (by
     have:k=g:=by
      unfold aG at e;split at e
      ·cases e
      ·simpa using e.symm
     omega)⟩
variable {α β:Type} {KA:List dw} {args:List Value} {ys:List β} {lo:Nat} {P:Program} {li:fY} {R':Value->World->Prop} {w' w0 w1 wb:World}
def iO.mono {f:FuncId} {R:Value->World->Prop} (h:iO P f args w R) (hr:∀ v w',R v w'->R' v w') : iO P f args w R' :=
 ⟨Calls.mono h.out fun e w' ⟨v,he,hv⟩=>⟨v,he,hr v w' hv⟩⟩
structure HK where
 b:Nat
 g:Nat
 c:Nat
 m:fY
 lv:fY
 cp:Int
 M:List Int
 V:List Block
structure HP where
 u0:eG
 u1:eG
 li:fY
 ls:List dw
abbrev HK.h (k:HK) (p:HP) : jH:=⟨⟨some ⟨k.g,0,none⟩,2,k.c⟩,k.m,k.cp,p.li,k.lv⟩
structure HS (wb w:World) (k:HK) (p:HP) (s:aj×aj) (L:List aS) : Prop where
 eV:aR w k.b 41 (dD (k.h p))
 zs:gM w wb.heap.size k.g k.c p.u0 p.u1 s
 eQ:Own w wb.heap.size 3 1 bt k.m.A k.m.n k.m.c k.M
 live:Own w wb.heap.size 143 3 aO k.lv.A k.lv.n k.lv.c k.V
 ls:gw w wb.heap.size p.li p.ls L
 sm:vx k.m [p.u0,p.u1] p.ls
 sf:yo k.lv [p.u0,p.u1]
 NF:wb.heap.size<=k.b
 base:Ext wb w
def kV (k:HK) (p:HP) (i:Nat) : Prop:=i=k.b∨i=k.g∨ob p.li=some i ∨ ∃ y∈p.ls,ob y.av=some i
section
variable {w w' w0 w1 w2 wb:World} {i t:Nat} {k:HK} {p p' p0 p1 p2:HP} {s:aj×aj} {L:List aS} {cs:List Value} {row:Option Nat}
def HS.ext (h:HS wb w k p s L) (hx:Ext w w') : HS wb w' k p s L:=⟨h.eV.ext hx,h.zs.ext hx,h.eQ.ext hx,h.live.ext hx,h.ls.ext hx,h.sm,h.sf,h.NF,h.base.trans hx⟩
def HS.HF (h:HS wb w k p s L) {y:dw} (hy:y∈p.ls) : ∃ l∈L,rV w wb.heap.size y l:=by
 obtain ⟨j,hj,rfl⟩:=aeu hy;have nr:j<L.length:=by rw [<- h.ls.each.len];exact hj
 exact ⟨_,aet nr,h.ls.each.get j hj nr⟩
def HS.lt (h:HS wb w k p s L) (hi:kV k p i) : i<w.heap.size:=by
 rcases hi with rfl|rfl|hi|⟨y,hy,hi⟩
 ·exact h.eV.lt
 ·exact h.zs.row.lt_size _ h.zs.own
 ·exact h.ls.row.lt_size i hi
 ·obtain ⟨l,_,hl⟩:=h.HF hy;exact hl.bD.lt_size i hi
def HS.not (h:HS wb w k p s L) (hi:w.heap.size<=i) : ¬ kV k p i:=fun hm=>by have:=h.lt hm;omega
def HS.low (h:HS wb w k p s L) : wb.heap.size<=w.heap.size:=afK (ago h.NF h.eV.lt)
structure pU (w0:World) (k:HK) (p0:HP) (w:World) (p:HP) : Prop where
 os:w.os=w0.os
 tape:w.tape=w0.tape
 output:w.output=w0.output
 size:w0.heap.size<=w.heap.size
 block:∀ i,i<w0.heap.size -> ¬ kV k p0 i->w.heap[i]?=w0.heap[i]?
 La:∀ i,kV k p i->kV k p0 i∨w0.heap.size<=i
def pU.refl (w:World) (k:HK) (p:HP) : pU w k p w p:=⟨rfl,rfl,rfl,aew _,fun _ _ _=>rfl,fun _ h => .inl h⟩
def pU.step (h:pU w0 k p0 w p) (hg:w.grownBy w' row) (hr:∀ i,row=some i->kV k p i∨w0.heap.size<=i) (hp:∀ i,kV k p' i->kV k p i∨w0.heap.size<=i) : pU w0 k p0 w' p' :=
 ⟨hg.os.trans h.os,hg.tape.trans h.tape,hg.output.trans h.output,aev h.size hg.size,fun i hi hm=>by
  rw [hg.block i (afp hi h.size) (fun e=>by
   rcases hr i e.symm with e|e
   ·rcases h.La i e with e|e
    ·exact hm e
    ·omega
   ·omega)]
  exact h.block i hi hm,fun i hi=>by
  rcases hp i hi with e|e
  ·exact h.La i e
  ·exact .inr e⟩
def pU.ext (h:pU w0 k p0 w p) (hx:Ext w w') : pU w0 k p0 w' p:=h.step (hx.gr none) (fun i e=>by cases e) (fun i e => .inl e)
def pU.trans (h:pU w0 k p0 w1 p1) (h':pU w1 k p1 w2 p2) : pU w0 k p0 w2 p2 :=
 ⟨h'.os.trans h.os,h'.tape.trans h.tape,h'.output.trans h.output,aev h.size h'.size,fun i hi hm=>by
  rw [h'.block i (afp hi h.size) (fun e=>by rcases h.La i e with e|e;exact hm e;omega)];exact h.block i hi hm,fun i hi=>by
  rcases h'.La i hi with e|e
  ·exact h.La i e
  ·exact .inr (aev h.size e)⟩
def pU.eV (h:pU w0 k p0 w p) (hB:aR w0 i t cs) (hn : ¬ kV k p0 i) : aR w i t cs:=(h.block i hB.lt hn).trans hB
def pU.not (h:pU w0 k p0 w p) (hn : ¬ kV k p0 i) (hi:i<w0.heap.size) : ¬ kV k p i:=fun e=>by rcases h.La i e with e|e;exact hn e;omega
end
def AL (p:HP) (zi:Nat) (u:eG) : HP:=if zi=0 then ⟨u,p.u1,p.li,p.ls⟩ else ⟨p.u0,u,p.li,p.ls⟩
def tI {p:HP} {zi:Nat} {u:eG}:(AL p zi u).li=p.li∧(AL p zi u).ls=p.ls:=by unfold AL;split<;>exact ⟨rfl,rfl⟩
def xk {k:HK} {p:HP} {zi:Nat} {u:eG}:kV k (AL p zi u) i↔kV k p i:=by unfold kV;rw [tI.1,tI.2]
def HS.Sm {k:HK} {p:HP} {s:aj×aj} {zi:Nat} {u:eG} (h0:HS wb w0 k p s L) (h:HS wb w k p s L) (hz:zi<2)
 (hO:Own w' wb.heap.size 113 4 dq (some ⟨k.g,0,none⟩) 2 k.c ([p.u0,p.u1].set zi u)) (hg:w.grownBy w' (some k.g)) (hn:iS w w0.heap.size u z) : HS wb w' k (AL p zi u) (sW s (zi:Int) z) L:=by
 have hG:=h.zs.gr hg;have hx:Ext wb w':=h.base.own h.zs.Jm hg
 have kA:=(hn.low h0.low).aJ hG rfl;have hf:∀ g,aG u.Types.A u.Types.c=some g->w0.heap.size<=g:=fun g e=>hn.types.aW g e
 have hff:∀ g,aG u.ai.A u.ai.c=some g->w0.heap.size<=g:=fun g e=>hn.free.aW g e
 have Ee:∀ (j:Nat) (hj:j<p.ls.length) (g:Nat),aG p.ls[j].av.A p.ls[j].av.c=some g->g<w0.heap.size:=fun j hj g e=>h0.lt (.inr (.inr (.inr ⟨_,aet hj,e⟩)))
 have ri:∀ us:List eG,(∀ v∈us,v∈[p.u0,p.u1]∨v=u)->vx k.m us p.ls:=fun us hu=>⟨h.sm.eQ,fun j hj g e v hv=>by
  rcases hu v hv with h1|rfl
  ·exact h.sm.types j hj g e v h1
  ·intro e2;have:=hf g e2;have:=Ee j hj g e;omega,h.sm.sep⟩
 have TI:∀ us:List eG,(∀ v∈us,v∈[p.u0,p.u1]∨v=u)->yo k.lv us:=fun us hu v hv g e=>by
  rcases hu v hv with h1|rfl
  ·exact h.sf v h1 g e
  ·intro e2;have:=hff g e;have:=h0.live.lt_size g e2;omega
 unfold AL sW;by_cases tx:zi=0
 ·subst tx;simp only [if_true,Int.ofNat_eq_natCast,Int.natCast_zero] at *;exact ⟨h.eV.aJ hG rfl,⟨hO,kA,h.zs.z1.aJ hG rfl,h.zs.Jm,h.zs.pos⟩,h.eQ.aJ hG rfl,h.live.aJ hG rfl,h.ls.aJ hG rfl,ri _ (by simp),TI _ (by simp),h.NF,hx⟩
 ·obtain rfl:zi=1:=by omega
  have e1 : ¬ ((1:Nat)=0):=by omega
  have e2 : ¬ (((1:Nat) : Int)=0):=by omega
  simp only [if_neg e1,if_neg e2] at *;exact ⟨h.eV.aJ hG rfl,⟨hO,h.zs.z0.aJ hG rfl,kA,h.zs.Jm,h.zs.pos⟩,h.eQ.aJ hG rfl,h.live.aJ hG rfl,h.ls.aJ hG rfl,ri _ (by simp),TI _ (by simp),h.NF,hx⟩
def gw.Ic {ls:List dw} (h:gw w lo li ls L) (hg:w.grownBy w' (ob li)) : se w w' 155:=h.row.gr hg
def Jz {m:fY} {us:List eG} {ls:List dw} (h:vx m us ls) (hs:Hw KA) (ho:∀ y∈KA,∃ x∈ls,ob y.av=ob x.av) : vx m us KA:=by
 refine ⟨fun j hj g e => ?_,fun j hj g e v hv => ?_,hs⟩
 ·obtain ⟨x,hx,e2⟩:=ho _ (aet hj);obtain ⟨i,hi,rfl⟩:=aeu hx;exact h.eQ i hi g (e2.symm.trans e)
 ·obtain ⟨x,hx,e2⟩:=ho _ (aet hj);obtain ⟨i,hi,rfl⟩:=aeu hx;exact h.types i hi g (e2.symm.trans e) v hv
def HS.setRow {k:HK} {p:HP} {s:aj×aj} {y:dw} {l:aS} (h:HS wb w k p s L) (hi:i<p.ls.length) (hO:Own w' wb.heap.size 155 4 cm p.li.A p.li.n p.li.c (p.ls.set i y)) (hg:w.grownBy w' (ob p.li)) (hy:rV w wb.heap.size y l)
 (ho:ob y.av=ob p.ls[i].av) : HS wb w' k ⟨p.u0,p.u1,p.li,p.ls.set i y⟩ s (L.set i l):=by
 have hG:=h.ls.Ic hg;have hx:Ext wb w':=aD h.base hg (aew _) h.ls.row.aW
 have hm:∀ z∈p.ls.set i y,∃ x∈p.ls,ob z.av=ob x.av:=fun z hz=>by
  rcases aeI hz with h1|rfl
  ·exact ⟨z,h1,rfl⟩
  ·exact ⟨_,aet hi,ho⟩
 have e8:∀ x∈p.ls,∀ g,ob x.av=some g->g<w.heap.size:=fun x hx g e=>h.lt (.inr (.inr (.inr ⟨x,hx,e⟩)))
 refine ⟨h.eV.aJ hG rfl,h.zs.aJ hG rfl,h.eQ.aJ hG rfl,h.live.aJ hG rfl,⟨hO,?_⟩,Jz h.sm (B9.tW (li:=p.li) h.sm.sep e8 hi (fun g e => .inl (ho ▸ e))).sep hm,h.sf,h.NF,hx⟩;exact fK.setAt (R:=rV w wb.heap.size) h.ls.each (hy.aJ hG rfl) (fun j h1 h2 _ hh=>hh.aJ hG rfl)
def fK.erase {R : α -> β -> Prop} {xs:List α} (h:fK R xs ys) (i:Nat) : fK R (xs.eraseIdx i) (ys.eraseIdx i):=by
 refine ⟨by rw [afz,afz,h.len],fun j h1 h2 => ?_⟩;have hl:=h.len;rw [afz] at h1 h2;rw [afw,afw];split
 ·exact h.get j _ _
 ·exact h.get (j+1) _ _
def HS.Sn {k:HK} {p:HP} {s:aj×aj} (h:HS wb w k p s L) (hO:Own w1 wb.heap.size 155 4 cm p.li.A (p.li.n-1) p.li.c (p.ls.eraseIdx i)) (hg:w.grownBy w1 (ob p.li))
 (hb:aR w' k.b 41 (dD (k.h ⟨p.u0,p.u1,⟨p.li.A,p.li.n-1,p.li.c⟩,p.ls.eraseIdx i⟩))) (dB:w1.grownBy w' (some k.b)) : HS wb w' k ⟨p.u0,p.u1,⟨p.li.A,p.li.n-1,p.li.c⟩,p.ls.eraseIdx i⟩ s (L.eraseIdx i):=by
 have hG:=h.ls.Ic hg;have eE:=(h.eV.aJ hG rfl).gr dB;have hx:Ext wb w':=(aD h.base hg (aew _) h.ls.row.aW).own h.NF dB
 refine ⟨hb,(h.zs.aJ hG rfl).aJ eE rfl,(h.eQ.aJ hG rfl).aJ eE rfl,(h.live.aJ hG rfl).aJ eE rfl,⟨hO.aJ eE rfl,(h.ls.each.erase i).mono fun _ _ hh=>(hh.aJ hG rfl).aJ eE rfl⟩,Jz h.sm ?_ (fun y hy=>⟨y,ae4 hy,rfl⟩),h.sf,h.NF,hx⟩;exact vG.2 ((vG.1 h.sm.sep).sublist (afm _ _))
set_option maxHeartbeats 1000000 in
def Lb (k:HK) (p:HP) (s:aj×aj) (L:List aS) (x:aS) (y:dw) (a:Int) (wb w0:World) (H:HS wb w0 k p s L) (hk:wV y x) (TD:y.av = .nil) (VX:x.av=[])
 (hs:Fl L) (hn:(p.li.n+1)*48<=140737488355328) (Mc:∀ l∈L,l.av.length<=1000) :
 iO prog 93 [.pointer (some ⟨k.b,0,none⟩),.agg (cm y).toArray,.int .i64 a] w0 fun v w' => ∃ p',HS wb w' k p' s (jk L ⟨x.gl,x.aj,x.Ty,dh L x++[a]⟩)∧pU w0 k p w' p':=by
 obtain ⟨F,hF⟩ : ∃ F:World->Prop,F=fun v=>gM v wb.heap.size k.g k.c p.u0 p.u1 s∧Own v wb.heap.size 3 1 bt k.m.A k.m.n k.m.c k.M∧Own v wb.heap.size 143 3 aO k.lv.A k.lv.n k.lv.c k.V∧pU w0 k p v p:=⟨_,rfl⟩
 have hZ:=H.zs;have hM:=H.eQ;have hV:=H.live;have hL:=H.ls;have hb:=H.eV
 have sO:Pz F w0:=by
  rw [hF];exact ⟨⟨hZ,hM,hV,pU.refl _ _ _⟩,fun v v' hx hP=>⟨hP.1.ext hx,hP.2.1.ext hx,hP.2.2.1.ext hx,hP.2.2.2.ext hx⟩⟩
 have OT:∀ (v v':World) (row:Option Nat),v.grownBy v' row->(∀ i,row=some i->i=k.b∨aG p.li.A p.li.c=some i∨w0.heap.size<=i)->F v->F v':=fun v v' row hg yZ hP=>by
  rw [hF] at hP ⊢;refine ⟨hP.1.parts hg ((hZ.row.o9 hL hb rfl rfl).ne yZ) ((hZ.z0.free.o9 hL hb rfl rfl).ne yZ) ((hZ.z0.types.o9 hL hb rfl rfl).ne yZ) ((hZ.z1.free.o9 hL hb rfl rfl).ne yZ) ((hZ.z1.types.o9 hL hb rfl rfl).ne yZ),hP.2.1.apart hg ((hM.o9 hL hb rfl rfl).ne yZ),hP.2.2.1.apart hg ((hV.o9 hL hb rfl rfl).ne yZ),hP.2.2.2.step hg (fun i e => ?_) (fun i e => .inl e)⟩;rcases yZ i e with h|h|h
  ·exact .inl (.inl h)
  ·exact .inl (.inr (.inr (.inl h)))
  ·exact .inr h
 have TE:∀ (i:Nat) (hi:i<p.ls.length) (v v':World),v.grownBy v' (aG p.ls[i].av.A p.ls[i].av.c)->F v->F v':=fun i hi v v' hg hP=>by
  rw [hF] at hP ⊢;have Ng:=(hL.each.get i hi (by rw [<- hL.each.len];exact hi)).bD;exact ⟨hP.1.parts hg (hZ.row.py Ng rfl) (hZ.z0.free.py Ng rfl) (fun j e e2=>H.sm.types i hi j e2 p.u0 (by simp) e) (hZ.z1.free.py Ng rfl) (fun j e e2=>H.sm.types i hi j e2 p.u1 (by simp) e),hP.2.1.apart hg (fun j e e2=>H.sm.eQ i hi j e2 e),hP.2.2.1.apart hg (hV.py Ng rfl),hP.2.2.2.step hg (fun j e => .inl (.inr (.inr (.inr ⟨_,aet hi,e⟩)))) (fun i e => .inl e)⟩
 refine (FD ⟨some ⟨k.g,0,none⟩,2,k.c⟩ k.m k.cp p.li k.lv L p.ls x y a F k.b wb w0 H.base H.NF hb hL hk TD VX H.sm.sep hs hn Mc sO OT TE).mono fun v w' hv => ?_
 obtain ⟨hx,y6,Py,KA,iL,V1,hP⟩:=hv;rw [hF] at y6;obtain ⟨GY,G0,Ei,hK⟩:=y6
 have hold:∀ j (hj:j<KA.length) (g:Nat),aG KA[j].av.A KA[j].av.c=some g->(∃ i,∃ hi:i<p.ls.length,aG p.ls[i].av.A p.ls[i].av.c=some g)∨w0.heap.size<=g:=fun j hj g e=>by
  rcases hP.of _ (aet hj) g e with ⟨z,hz,e2⟩|h
  ·obtain ⟨i,hi,rfl⟩:=aeu hz;exact .inl ⟨i,hi,e2⟩
  ·exact .inr h
 refine ⟨⟨p.u0,p.u1,Py,KA⟩,⟨iL,GY,G0,Ei,V1,⟨fun j hj g e => ?_,fun j hj g e v hv => ?_,hP.sep⟩,H.sf,H.NF,hx⟩,hK.step (World.grownBy.refl _ none) (fun i e=>by cases e) (fun i hi => ?_)⟩
 ·rcases hold j hj g e with ⟨i,hi,e2⟩|h
  ·exact H.sm.eQ i hi g e2
  ·intro e2;have:=hM.lt_size g e2;omega
 ·rcases hold j hj g e with ⟨i,hi,e2⟩|h
  ·exact H.sm.types i hi g e2 v hv
  ·intro e2;simp only [List.mem_cons,List.not_mem_nil,or_false] at hv;rcases hv with rfl|rfl
   ·have:=hZ.z0.types.lt_size g e2;omega
   ·have:=hZ.z1.types.lt_size g e2;omega
 ·rcases hi with h|h|h|⟨z,hz,h⟩
  ·exact .inl (.inl h)
  ·exact .inl (.inr (.inl h))
  ·exact (hP.row i h).imp (fun e => .inr (.inr (.inl e))) id
  ·exact (hP.of z hz i h).imp (fun e => .inr (.inr (.inr e))) id
variable {y:Operand} {t ty:TypeId}
section
variable {P:Program} {L:Env} {w:World} {d:Option Nat} {T:TypeId} {pos:String} {af:Array Edge} {g:Option (Nat×Bool)}
def JA {x:Operand} {i j:Int} (a b:Nat) (hx:cy L x=some (.int .i64 i)) (hy:cy L y=some (.int .i64 j)) (ha:i=(a:Int)) (hb:j=(b:Int)) (mR:a<9223372036854775808) (iL:b<9223372036854775808) :
 St P ⟨d,.binOp .and t x y ty,T,pos,af,g⟩ L w (.int .i64 ((a &&& b:Nat) : Int)) :=
 ⟨fun n A hA w' _=>by
  have e1:=hA.eval hx;have e2:=hA.eval hy;subst ha hb;generalize A.eval = ρ at *
  have e8:a &&& b<2 ^ 63:=Nat.and_lt_two_pow _ (by omega)
  have e:(BitVec.ofInt 64 (a:Int) &&& BitVec.ofInt 64 (b:Int)).toNat=a &&& b:=by
   rw [BitVec.toNat_and,BitVec.ofInt_natCast,BitVec.ofInt_natCast,BitVec.toNat_ofNat,BitVec.toNat_ofNat,af9 (by omega),af9 (by omega)]
  have aX:(Op.intBits .and .i64 (a:Int) (b:Int)).run P w' = .ok (.int .i64 ((a &&& b:Nat) : Int)) w':=by
   have:Op.intBits .and .i64 (a:Int) (b:Int)=(pure (.int .i64 (IntKind.i64.wrap ((BitVec.ofInt 64 (a:Int) &&& BitVec.ofInt 64 (b:Int)).toNat:Nat))) : Sem Value):=rfl
   rw [this,e,ju (by omega) (by omega)]
   rfl
  have aq:(binOp .and t (.int .i64 (a:Int)) (.int .i64 (b:Int))).run P w' = .ok (.int .i64 ((a &&& b:Nat) : Int)) w':=by
   have:binOp .and t (.int .i64 (a:Int)) (.int .i64 (b:Int))=Op.intBits .and .i64 (a:Int) (b:Int):=by simp [binOp]
   rw [this,aX]
  simp [execOp,e1,e2,eqGuard,aq]⟩
end
variable {af:Array Edge} {g:Option (Nat×Bool)} {T:TypeId}
def C3 (f j:Int) : Int:=((f.toNat &&& j.toNat:Nat) : Int)
def Lc:∀ f:Nat,f<16->(f &&& 1=f % 2)∧(f &&& 2=f / 2 % 2*2)∧(f &&& 4=f / 4 % 2*4)∧(f &&& 8=f / 8*8):=by decide
def xl (h : 0<=f∧f<=15) : C3 f 1=f % 2∧C3 f 2=f / 2 % 2*2∧C3 f 4=f / 4 % 2*4∧C3 f 8=f / 8*8:=by
 obtain ⟨n,rfl⟩ : ∃ n:Nat,f=n:=⟨f.toNat,by omega⟩;obtain ⟨h1,h2,h3,h4⟩:=Lc n (by omega);unfold C3;simp only [Int.toNat_natCast,show (1:Int).toNat=1 from rfl,show (2:Int).toNat=2 from rfl,show (4:Int).toNat=4 from rfl,show (8:Int).toNat=8 from rfl,h1,h2,h3,h4];omega
def y8 {L:Env} {d:Option Nat} {pos:String} {x:Operand} {j:Int} (hx:cy L x=some (.int .i64 f)) (hy:cy L y=some (.int .i64 j)) (hf : 0<=f∧f<=15) (hj : 0<=j∧j<=15) :
 St P ⟨d,.binOp .and t x y ty,T,pos,af,g⟩ L w (.int .i64 (C3 f j)):=JA f.toNat j.toNat hx hy (by omega) (by omega) (by omega) (by omega)
def Ie (f:Int) (w:World) : bI prog 57 [.int .i64 f] w fun v _=>v = .tuple #[.int .i64 (if 0<=jM f then jM f else 0),.bool (decide (0<=jM f))]:=by
 refine Wj func57 ntmps57 ?_;have hw:=Ext.refl w;by_cases hf : 0<=f∧f<=15
 ·obtain ⟨q1,q2,q4,q8⟩:=xl hf;obtain ⟨t,ht⟩ : ∃ t,jM f=t:=⟨_,rfl⟩
  have hc:(f / 2 % 4=0∧t=0)∨(f / 2 % 4=1∧t=1)∨(f / 2 % 4=2∧t=2)∨(f / 2 % 4=3∧t = -1):=by
   unfold jM at ht;rw [if_pos hf] at ht;split at ht
   ·omega
   ·split at ht
    ·omega
    ·split at ht
     ·omega
     ·omega
  rw [ht];rcases hc with ⟨h1,rfl⟩|⟨h1,rfl⟩|⟨h1,rfl⟩|⟨h1,rfl⟩
  all_goals
   repeat' (first|refine Wz ?_|(refine SW.st (y8 rfl rfl (by omega) (by decide)) rfl ?_))
   all_goals try omega
   all_goals exact ae.dl rfl rfl rfl ⟨_,rfl,hw,rfl⟩
 ·have e:jM f = -1:=by unfold jM;rw [if_neg hf]
  rw [e];repeat' (first|refine Wz ?_|refine SW.gp rfl rfl rfl (fun h => ?_) (fun h => ?_))
  all_goals try omega
  all_goals exact ae.dl rfl rfl rfl ⟨_,rfl,hw,rfl⟩
structure C4 (M:List Int) (m0 m1:Int) : Prop where
 eq:M=[m0,m1]
 b0 : 0<=m0∧m0<=256
 b1 : 0<=m1∧m1<=256
def So.NG (r:jH) (u0 u1:eG) (s:aj×aj) (M:List Int) (m0 m1:Int) (zi:Nat) (f:Int) (w:World) (hm:Sl w 1 bt r.dP.A r.dP.n M) (hz:Sl w 4 dq r.bl.A r.bl.n [u0,u1]) (hM:C4 M m0 m1) (h1:u1.aT=s.2.aT) (h2:u1.To=s.2.To) (hF : 0<=s.2.aT∧s.2.aT<=256) (hT:s.2.aT<=s.2.To∧s.2.To<=256) (tx:zi<2) (hf : 0<=f∧f<=15) :
 bI prog 145 [.agg (dD r).toArray,.int .i64 (zi:Int),.int .i64 f] w fun v _=>v = .int .i64 (CQ m0 m1 s zi f):=by
 refine Wj func145 ntmps145 ?_;refine Ww fun b1 w1 hw lD aX => ?_;obtain ⟨rfl,DZ,tT⟩:=hM;obtain ⟨q1,q2,q4,q8⟩:=xl hf;have hA:=hz.base;have hB:=hm.base;have hn : 2=r.bl.n:=hz.len
 have Zm : 2=r.dP.n:=hm.len
 have k0 : 1<r.bl.n:=by omega
 have k1:zi<r.dP.n:=by omega
 have f0:=hz.jF k0 (j:=0) (u := .int .i64 u1.aT) rfl;have f1:=hz.jF k0 (j:=1) (u := .int .i64 u1.To) rfl;obtain ⟨mz,R8⟩ : ∃ mz,(if (zi:Int)=0 then m0 else m1)=mz:=⟨_,rfl⟩
 have hmv : [m0,m1][zi]'(by simpa using tx)=mz:=by
  rcases ae5 zi 1 with h|h
  ·obtain rfl:zi=0:=by omega
   rw [<- R8];rfl
  ·obtain rfl:zi=1:=by omega
   rw [<- R8];rfl
 have fm:=hm.one k1 (congrArg bt hmv);have hmb : 0<=mz∧mz<=256:=by rw [<- R8];split<;>omega
 obtain ⟨v,hv⟩ : ∃ v,CQ m0 m1 s zi f=v:=⟨_,rfl⟩;have tV:=hv;unfold CQ at tV;rw [R8] at tV;rw [hv];have htm:f.tmod 2=f % 2:=ae7 (by omega)
 have hc:(8<=f∨f<8)∧((zi=0∧f % 2=0)∨(zi=0∧f % 2=1)∨zi=1):=by omega
 obtain ⟨Cx,QX⟩:=hc;rcases Cx with Cx|Cx<;>rcases QX with ⟨QX,V7⟩|⟨QX,V7⟩|QX
 all_goals
  repeat' (first|refine Wz ?_|((apply CW.bH mixed;(· kernel_rfl);rotate_left;intro w1 ah;obtain ⟨hw,aX⟩:=cT ah hw aX;clear ah;rotate_right))|refine Wn hw f0 ?_|refine Wn hw f1 ?_|refine Wn hw fm ?_|(refine SW.st (y8 rfl rfl (by omega) (by decide)) rfl ?_)|exact SW.eU rfl)
  all_goals try omega
  refine ae.bh rfl rfl ⟨_,rfl,hw,?_⟩;congr 1
  omega
inductive QZ (m0 m1:Int) (s:aj×aj) (zi o t f:Int) : Option ((aj×aj)×Int)->Prop
 | nw (he : ¬ jZ m0 m1 s zi o f) : QZ m0 m1 s zi o t f none
 | none {u:aj×Int×Int} (he:jZ m0 m1 s zi o f) (ht:iD (yA s zi) o t u) (hu:u.2.2≠0) : QZ m0 m1 s zi o t f none
 | ok {u:aj×Int×Int} (he:jZ m0 m1 s zi o f) (ht:iD (yA s zi) o t u) (hu:u.2.2=0) : QZ m0 m1 s zi o t f (some (sW s zi u.1,u.2.1))
def tkV:Option ((aj×aj)×Int)->Value
 | Option.none => .tuple #[.int .i64 0,.bool false]
 | some q => .tuple #[.int .i64 q.2,.bool true]
def V8 (s:aj×aj) : Option ((aj×aj)×Int)->aj×aj
 | Option.none=>s
 | some q=>q.1
def QZ.vs {s:aj×aj} {t:Int} {q:Option ((aj×aj)×Int)} (h:QZ m0 m1 s zi o t f q) (hv:VS s) : VS (V8 s q):=by
 cases h with
 | nw|none=>exact hv
 | ok he ht hu=>exact hv.tW (ht.jQ hu).1
def HS.kE {k:HK} {p:HP} {s:aj×aj} (h:HS wb w k p s L) (hv:VS s) {zi:Nat} (hz:zi<2) : ∃ u,[p.u0,p.u1][zi]'hz=u∧iS w wb.heap.size u (yA s zi):=by
 rcases ae5 zi 1 with h1|h1
 ·obtain rfl:zi=0:=by omega
  exact ⟨p.u0,rfl,h.zs.z0⟩
 ·obtain rfl:zi=1:=by omega
  exact ⟨p.u1,rfl,h.zs.z1⟩
set_option maxHeartbeats 2000000 in
def vT (k:HK) (p:HP) (s:aj×aj) (L:List aS) (m0 m1:Int) (zi:Nat) (o t f:Int) (wb w:World) (H:HS wb w k p s L) (hO:m9 w) (hM:C4 k.M m0 m1) (hv:VS s) (tx:zi<2) (ho : 0<=o∧o<=4) (hf : 0<=f∧f<=15) :
 iO prog 105 [.pointer (some ⟨k.b,0,none⟩),.int .i64 (zi:Int),.int .i64 o,.int .i64 t,.int .i64 f] w fun v w' => ∃ q,QZ m0 m1 s zi o t f q∧v=tkV q ∧ ∃ p',HS wb w' k p' (V8 s q) L∧pU w k p w' p':=by
 refine dc func105 rfl ntmps105 rfl ?_;have hw:=Ext.refl w;have H0:=H;obtain ⟨uz,huz,EN⟩:=H.kE hv tx;have UQ:=hv.yA (zi:Int);obtain ⟨z,hz⟩ : ∃ z,yA s (zi:Int)=z:=⟨_,rfl⟩;rw [hz] at EN UQ;obtain ⟨q1,q2,q3,q4⟩:=tz EN UQ;have hA:=H.zs.row.sl.base;have fz:=H.zs.row.sl.all tx;rw [huz] at fz;have hqB:=fD.2 UQ
 have cP:∀ w',Ext w w'->bI prog 144 [.agg (dq uz).toArray] w' fun v _=>v = .tuple #[.int .i64 (km z.ai),.int .i64 0]:=fun w' hx=>by
  have:=HW uz z w' (EN.ext hx).rd (by omega) (by omega) ⟨by omega,by omega⟩ ⟨by omega,by omega⟩
  rwa [show sQ z=(km z.ai,0) by simp [sQ,hqB]] at this
 obtain ⟨hd,QH⟩ : ∃ hd,CQ m0 m1 s zi f=hd:=⟨_,rfl⟩;have o1:=hv.lQ.ok;obtain ⟨a1,a2,a3,a4,a5⟩:=o1
 have cH:∀ w',Ext w w'->bI prog 145 [.agg (dD (k.h p)).toArray,.int .i64 (zi:Int),.int .i64 f] w' fun v _=>v = .int .i64 hd:=fun w' hx=>by
  have:=So.NG (k.h p) p.u0 p.u1 s k.M m0 m1 zi f w' (H0.eQ.ext hx).sl (H0.zs.row.ext hx).sl hM H0.zs.z1.from_ H0.zs.z1.pJ ⟨by omega,by omega⟩ ⟨by omega,by omega⟩ tx hf
  rwa [QH] at this
 have hhb : 0<=hd∧hd<=512:=by
  rw [<- QH];have h1:=hM.b0;have h2:=hM.b1;unfold CQ;(repeat' split)<;>omega
 have Hv:=kO UQ;have hpb:=pI UQ z.ai.length (aew _);rw [afk] at hpb;have V0:=cM ho.1 ho.2;by_cases he:hd<=km z.ai-pw o
 ·have hE:jZ m0 m1 s zi o f:=by unfold jZ;rw [QH,hz];exact he
  repeat' (first|refine Wz ?_|((apply CW.bH mixed;(· kernel_rfl);rotate_left;intro w1 ah;obtain ⟨hw,H,EN⟩:=cd ah hw H EN;clear ah;rotate_right))|refine Wl (H.eV.cell (i:=0) (v := .slice (some ⟨k.g,0,none⟩) 2 k.c) rfl) ?_|refine Wm fz ?_|refine Wo hw fz ?_|refine Wm ((fun _ _=>H.eV.cell)) ?_|(refine Wk (cP _ hw) ?_;intro v w1 ah hv;subst hv;obtain ⟨hw,H,EN⟩:=cd ah hw H EN;clear ah)|refine SW.dI rfl rfl (fun w1 ah=>(cH _ (hw.trans ah))) ?_|(refine SW.st (fO (r:=pw o) rfl rfl (by omega) (by omega) (by simp [pw]) (by omega) (by omega)) rfl ?_)|exact SW.eU rfl)
  refine Wk (MM uz z o t _ EN.rd q1 q2 ⟨by omega,by omega⟩ ⟨by omega,by omega⟩ (hO.ext hw)) fun v w4 ar hv => ?_
  obtain ⟨u,hT,r',rfl,Sp⟩:=hv;have Sp:=Sp.low hw.size;(obtain ⟨hw,H⟩:=cT ar hw H);refine Wz ?_;refine SW.alloc rfl fun XT w1 ah vU qF => ?_
  skip;refine Wg qF (fU r') fun w2 xT hg => ?_
  have ar:=ah.own vU hg;have Q0:=hw.up vU
  obtain ⟨hw,H,Sp⟩:=cd ar hw H Sp;have qF:=xT;clear xT ah hg ar;rw [<- hz] at hT;by_cases hu:u.2.2=0
  ·refine Wz ?_;refine CW.gB 7 7 (fun _=>True) mixed (by kernel_rfl) fun w1 ah aI => ?_
   obtain ⟨hw,H,Sp,qF⟩:=dJ ah hw H Sp qF;clear ah;refine Wf ?_;refine Wt 3 [] [] aI rfl (aP rfl (H.eV.cell (i:=0) (v := .slice (some ⟨k.g,0,none⟩) 2 k.c) rfl)) ?_;refine Wf ?_;refine SF.ff ?_;refine SW.qq (enc:=dq) zi r' H.zs.row rfl rfl tx fun w5 PF hg => ?_
   rw [H.zs.own] at hg;have H5:=HS.Sm H0 H tx PF hg Sp;have hK:pU w k p w5 (AL p zi r'):=((pU.refl w k p).ext hw).step hg (fun i e=>by cases e;exact .inl (.inr (.inl rfl))) (fun i e => .inl (xk.1 e))
   refine Wz ?_;exact ae.dl rfl rfl rfl ⟨_,rfl,_,.ok hE hT hu,rfl,_,H5,hK⟩
  ·refine Wz ?_;exact ae.dl rfl rfl rfl ⟨_,rfl,_,.none hE hT hu,rfl,_,H,(pU.refl w k p).ext hw⟩
 ·have hE : ¬ jZ m0 m1 s zi o f:=by unfold jZ;rw [QH,hz];exact he
  repeat' (first|refine Wz ?_|((apply CW.bH mixed;(· kernel_rfl);rotate_left;intro w1 ah;obtain ⟨hw,H,EN⟩:=cd ah hw H EN;clear ah;rotate_right))|refine Wl (H.eV.cell (i:=0) (v := .slice (some ⟨k.g,0,none⟩) 2 k.c) rfl) ?_|refine Wm fz ?_|refine Wm ((fun _ _=>H.eV.cell)) ?_|(refine Wk (cP _ hw) ?_;intro v w1 ah hv;subst hv;obtain ⟨hw,H,EN⟩:=cd ah hw H EN;clear ah)|refine SW.dI rfl rfl (fun w1 ah=>(cH _ (hw.trans ah))) ?_|(refine SW.st (fO (r:=pw o) rfl rfl (by omega) (by omega) (by simp [pw]) (by omega) (by omega)) rfl ?_)|exact SW.eU rfl)
  exact ae.dl rfl rfl rfl ⟨_,rfl,_,.nw hE,rfl,_,H,(pU.refl w k p).ext hw⟩
set_option maxHeartbeats 4000000 in
def AM (A:Option Addr) (n c lo:Nat) (l:List dw) (w:World) (hO:Own w lo 155 4 cm A n c l) (i:Nat) (hi:i<n) (hn:n<=1000000000000000000) (dt:lo<=w.heap.size) :
 iO prog 143 [.slice A n c,.int .i64 (i:Int),.int .i64 ((i+1:Nat) : Int)] w fun v w'=>v = .slice A (n-1) c∧Own w' lo 155 4 cm A (n-1) c (l.eraseIdx i)∧w.grownBy w' (aG A c):=by
 refine dc func143 rfl ntmps143 rfl ?_;have hle:=hO.le;have mx:=hO.len;have hA:=hO.sl.base;have E1:w.grownBy w (aG A c):=World.grownBy.refl _ _
 repeat' (first|refine Wz ?_|(refine SW.st (oc (i:=i) (j:=i+1) (k:=n) rfl rfl rfl rfl (by omega) (by omega) (by omega)) rfl ?_))
 all_goals try omega
 have hw:=Ext.refl w;have e0:i+(n-(i+1))=n-1:=by omega
 have el:l.take i++l.drop (i+1)=l.eraseIdx i:=by rw [aeR]
 refine CW.any 6 mixed (db (by kernel_rfl)) rfl fun w1 ah aI => ?_
 obtain ⟨hw,hO⟩:=cT ah hw hO;clear ah;refine Wa ?_;refine Wu 2 aI rfl (cW (k:=i) rfl rfl (by omega)) ?_;refine Wa ?_;refine Wu 5 aI rfl (aZ (k:=i+1) rfl rfl (by omega) (by omega)) ?_;refine SA.fZ ?_;refine SW.qd (hO.pre (i:=i) (by omega)) (hO.sl.drop (i+1) c (by omega) (by omega)) (by omega) rfl rfl rfl fun w2 bg hg => ?_
 rw [e0,el] at bg;rw [e0];have DL:=(hw.gr (aG A c));repeat' (first|refine Wz ?_|(refine SW.st (iN (i:=n-1) (j:=n) rfl rfl rfl (by omega) (by omega)) rfl ?_))
 obtain ⟨g,rest,rfl,h1,h2,h3,h4,h5,h6⟩:=bg.opened (by omega);have nK:((l.eraseIdx i).flatMap cm).length=(n-1)*4:=by rw [aQ,bg.len]
 refine SW.clear ((n-1)*4) h2 rfl (by rw [aeD,nK];omega) (fun h0 => ?_) (by decide) fun w3 cs kK hB oZ => ?_
 ·rw [if_neg (by omega)];simp [cJ]
 ·have e7:=eH ((l.eraseIdx i).flatMap cm) (rest.take ((n-(n-1))*4)) (rest.drop ((n-(n-1))*4)) cs (by rw [kK];simp;omega) (o:=(n-1)*4) nK.symm;rw [aey (List.flatMap _ _),aex] at e7;rw [e7,aey] at hB;have BM:=Own.closed (l:=l.eraseIdx i) bg.len hB (by rw [aeD,kK];simp;omega) h4 (by omega) h5 h1;rw [<- h6] at oZ;have xG:=bC (bC DL hg (.inl rfl)) oZ (.inl rfl);refine Wz ?_;exact ae.bh rfl rfl ⟨_,rfl,rfl,BM,xG⟩
def ZE:Option ((aj×aj)×List aS×Int)->Value
 | Option.none => .tuple #[.int .i64 0,.bool false]
 | some q => .tuple #[.int .i64 q.2.2,.bool true]
def UR (s:aj×aj) : Option ((aj×aj)×List aS×Int)->aj×aj
 | Option.none=>s
 | some q=>q.1
def Sq (L:List aS) : Option ((aj×aj)×List aS×Int)->List aS
 | Option.none=>L
 | some q=>q.2.1
def NH {k:HK} {p:HP} {y:dw} (hi:i<p.ls.length) (ho:ob y.av=ob p.ls[i].av) (h:kV k ⟨p.u0,p.u1,p.li,p.ls.set i y⟩ j) : kV k p j:=by
 rcases h with h|h|h|⟨z,hz,h⟩
 ·exact .inl h
 ·exact .inr (.inl h)
 ·exact .inr (.inr (.inl h))
 ·rcases aeI hz with h1|rfl
  ·exact .inr (.inr (.inr ⟨z,h1,h⟩))
  ·exact .inr (.inr (.inr ⟨_,aet hi,ho ▸ h⟩))
def NI {k:HK} {p:HP} (h:kV k ⟨p.u0,p.u1,⟨p.li.A,p.li.n-1,p.li.c⟩,p.ls.eraseIdx i⟩ j) : kV k p j:=by
 rcases h with h|h|h|⟨z,hz,h⟩
 ·exact .inl h
 ·exact .inr (.inl h)
 ·exact .inr (.inr (.inl h))
 ·exact .inr (.inr (.inr ⟨z,ae4 hz,h⟩))
set_option maxHeartbeats 4000000 in
def AN (k:HK) (p:HP) (s:aj×aj) (L:List aS) (m0 m1 cpu:Int) (zi:Nat) (t f:Int) (wb w:World) (H:HS wb w k p s L) (hO:m9 wb) (hM:C4 k.M m0 m1) (hv:VS s) (hs:Fl L) (wS:∀ l∈L,1<=l.av.length∧l.av.length<=8) (PH:L.length<=256) (tx:zi<2) (hf : 0<=f∧f<=15) :
 iO prog 104 [.pointer (some ⟨k.b,0,none⟩),.int .i64 cpu,.int .i64 (zi:Int),.int .i64 t,.int .i64 f] w fun v w' => ∃ q,j7 m0 m1 cpu zi 0 t f s L q∧v=ZE q ∧ ∃ p',HS wb w' k p' (UR s q) (Sq L q)∧pU w k p w' p':=by
 refine dc func104 rfl ntmps104 rfl ?_;have hw:=Ext.refl w;repeat' (first|refine Wy ?_|fail);have FZ:∀ i,w.heap.size<=i -> ¬ kV k p i:=fun i hi=>H.not hi
 have K0:=pU.refl w k p;refine SW.alloc rfl fun vV w1 ah lZ cb => ?_
 skip;refine Wg cb (MO ⟨cpu,zi,t,.nil⟩) fun w2 lB hg => ?_
 have ar:=ah.own lZ hg;have nf:=hw.up lZ
 obtain ⟨hw,H,K0⟩:=cd ar hw H K0;have cb:=lB;clear lB ah hg ar;obtain ⟨x,hx⟩ : ∃ x:aS,x=⟨cpu,zi,t,[]⟩:=⟨_,rfl⟩;have Nh:wV ⟨cpu,zi,t,.nil⟩ x:=by subst hx;exact ⟨rfl,rfl,rfl⟩
 have VX:x.av=[]:=by subst hx;rfl
 obtain ⟨l1,l2⟩:=H.ls.rd.len;have hA:=H.ls.row.sl.base;obtain ⟨q,hq⟩ : ∃ q,dz L x=q:=⟨_,rfl⟩;obtain ⟨kp,uO⟩ : ∃ kp,br L x=kp:=⟨_,rfl⟩
 have cL:∀ w',zR w' p.li p.ls L->bI prog 94 [.agg (dD (k.h p)).toArray,.agg (cm ⟨cpu,zi,t,.nil⟩).toArray] w' fun v _=>v = .tuple #[.int .i64 (kp:Int),.bool q]:=fun w' h=>by
  have:=wW (k.h p) L p.ls x ⟨cpu,zi,t,.nil⟩ w' h Nh (by simp only;omega)
  rwa [hq,uO] at this
 cases q
 ·repeat' (first|refine Wy ?_|fail);(apply CW.bH mixed;(· kernel_rfl);rotate_left;intro w1 ah;obtain ⟨hw,H,cb,K0⟩:=dJ ah hw H cb K0;clear ah;rotate_right);repeat' (first|refine Wy ?_|(refine CW.gj rfl ?_)|refine Wm ((fun _ _=>H.eV.cell)) ?_|refine Wm ((fun _ _=>cb.cell)) ?_|refine SW.dI rfl rfl (fun w1 ah=>(cL _ (H.ls.rd.ext ah))) ?_|exact SW.eU rfl)
  clear cL;skip;refine SW.dK rfl rfl (vT k p s L m0 m1 zi 0 t f wb _ H (hO.ext H.base) hM hv tx (by decide) hf) fun v w5 Fv => ?_
  obtain ⟨q5,hT,rfl,p5,H5,K5⟩:=Fv;have Ld:=K5.not (FZ vV nf) cb.lt;have cb:=K5.eV cb (FZ vV nf);have K5:=K0.trans K5;clear K0 H hw FZ;have hw:=Ext.refl w5
  have ov : ¬ ((0:Int)=0∧dz L ⟨cpu,(zi:Int),t,[]⟩=true):=fun h=>by
   have:=h.2
   rw [<- hx,hq] at this;cases this
  have XQ:dz L ⟨cpu,(zi:Int),t,[]⟩=false:=by rw [<- hx];exact hq
  have TJ:=hT.vs hv;cases q5 with
  | none =>
    have F0:j7 m0 m1 cpu zi 0 t f s L none:=by
     cases hT with
     | nw he=>exact .nw ov he
     | none he ht hu=>exact .none ov he ht hu
    repeat' (first|refine Wy ?_|fail);refine CW.loop (fun _:Unit=>[(17,.int .i64 0),(18,.bool false),(19,.int .i64 1)]) (fun _ w'=>w'=w5) (fun _=>0) () ⟨rfl,rfl,rfl,trivial⟩ rfl ?_;rintro _ w' rfl;repeat' (first|refine Wy ?_|fail);exact ae.dl rfl rfl rfl ⟨_,rfl,_,F0,rfl,p5,H5,K5⟩
  | some q5 =>
    obtain ⟨s1,a⟩:=q5
    have Q3:∀ r,j1 m0 m1 zi t f s1 [] r->j7 m0 m1 cpu zi 0 t f s L (some (r.1,kC L x r.2,a)):=fun r hr=>by
     rw [hx];cases hT with
     | ok he ht hu=>exact .fill rfl XQ he ht hu hr
    simp only [V8] at H5 TJ;have ZF:HS wb w5 k p5 s1 (kC L x []):=by rw [mL];exact H5
    clear H5;repeat' (first|refine Wy ?_|fail)
    refine CW.loop (fun u:HP×(aj×aj)×List Int=>[(0,.pointer (some ⟨k.b,0,none⟩)),(2,.int .i64 (zi:Int)),(3,.int .i64 t),(4,.int .i64 f),(12,.pointer (some ⟨vV,0,none⟩)),(17,.int .i64 a),(18,.bool true),(19,.int .i64 ((u.2.2.length+1:Nat) : Int))])
     (fun u w'=>u.2.2.length<=3∧HS wb w' k u.1 u.2.1 (kC L x u.2.2)∧VS u.2.1∧aR w' vV 155 (cm ⟨cpu,zi,t,.nil⟩) ∧ ¬ kV k u.1 vV∧pU w k p w' u.1 ∧ ∀ r,j1 m0 m1 zi t f u.2.1 u.2.2 r->j1 m0 m1 zi t f s1 [] r) (fun u=>3-u.2.2.length) (p5,s1,[])
     ⟨rfl,rfl,rfl,rfl,rfl,rfl,rfl,rfl,trivial⟩ ⟨by simp,ZF,TJ,cb,Ld,K5,fun r h=>h⟩ ?_
    clear hw cb K5 Ld ZF TJ hT;rintro ⟨p6,s6,pg⟩ w' ⟨XU,H,OU,cb,FZ,K0,JB⟩
    simp only at XU H OU FZ K0 JB ⊢;have hw:=Ext.refl w';by_cases e8:pg.length<3
    ·repeat' (first|refine Wy ?_|fail);refine SW.dK rfl rfl (vT k p6 s6 (kC L x pg) m0 m1 zi 0 t f wb _ H (hO.ext H.base) hM OU tx (by decide) hf) fun v w5 Fv => ?_
     obtain ⟨q5,hT,rfl,p5,H5,K5⟩:=Fv;have Ld:=K5.not FZ cb.lt;have cb:=K5.eV cb FZ;have K5:=K0.trans K5;clear K0 H hw FZ;have hw:=Ext.refl w5;have TJ:=hT.vs OU;cases q5 with
     | none =>
       have F0:j1 m0 m1 zi t f s6 pg (s6,pg):=by
        cases hT with
        | nw he=>exact .nw e8 he
        | none he ht hu=>exact .none e8 he ht hu
       repeat' (first|refine Wy ?_|(refine CW.gG rfl ?_))
       exact ae.dl rfl rfl rfl ⟨_,rfl,_,Q3 _ (JB _ F0),rfl,p5,H5,K5⟩
     | some q5 =>
       obtain ⟨s7,b⟩:=q5;simp only [V8] at H5 TJ
       have Sr:∀ r,j1 m0 m1 zi t f s7 (pg++[b]) r->j1 m0 m1 zi t f s1 [] r:=fun r hr=>by
        cases hT with
        | ok he ht hu=>exact JB _ (.more e8 he ht hu hr)
       repeat' (first|refine Wy ?_|(refine CW.gj rfl ?_))
       repeat' (first|refine Wy ?_|refine Wm ((fun _ _=>cb.cell)) ?_)
       obtain ⟨l3,l4⟩:=H5.ls.rd.len;have Uk:=CS (pg:=pg) hq
       refine SW.dK rfl rfl (Lb k p5 s7 (kC L x pg) x ⟨cpu,zi,t,.nil⟩ b wb _ H5 Nh rfl VX (Ek hs hq) (by omega) (fun l hl=>by
        rcases CR hq l hl with h|rfl
        ·have:=wS l h;omega
        ·simp only [fW];omega)) fun v w8 XV => ?_
       obtain ⟨p8,H8,K8⟩:=XV;have US:=K8.not Ld cb.lt;have cb:=K8.eV cb Ld;have K8:=K5.trans K8;rw [HY hq] at H8;clear hw;have hw:=Ext.refl w8;repeat' (first|refine Wy ?_|fail);exact ae.again (p8,s7,pg++[b]) ⟨rfl,rfl,rfl,rfl,rfl,rfl,rfl,congrArg (fun z=>some (Value.int .i64 z)) (by simp),trivial⟩ (by simp;omega) ⟨by simp;omega,H8,TJ,cb,US,K8,Sr⟩
    ·have F0:j1 m0 m1 zi t f s6 pg (s6,pg) := .full (by omega)
     repeat' (first|refine Wy ?_|fail);exact ae.dl rfl rfl rfl ⟨_,rfl,_,Q3 _ (JB _ F0),rfl,p6,H,K0⟩
 ·repeat' (first|refine Wy ?_|fail);(apply CW.bH mixed;(· kernel_rfl);rotate_left;intro w1 ah;obtain ⟨hw,H,cb,K0⟩:=dJ ah hw H cb K0;clear ah;rotate_right);repeat' (first|refine Wy ?_|(refine CW.gG rfl ?_)|refine Wm ((fun _ _=>H.eV.cell)) ?_|refine Wm ((fun _ _=>cb.cell)) ?_|refine SW.dI rfl rfl (fun w1 ah=>(cL _ (H.ls.rd.ext ah))) ?_|exact SW.eU rfl)
  clear cL;obtain ⟨iR,rq⟩:=ko hq;simp only [uO] at iR rq;have gC:kp<p.li.n:=by omega
  have pY:kp<p.ls.length:=by omega
  have P0:=H.ls.each.get kp pY iR;have XW:=wS _ (aet iR);obtain ⟨y,hy⟩ : ∃ y,p.ls[kp]'pY=y:=⟨_,rfl⟩;obtain ⟨y9,UT⟩ : ∃ y9,L[kp].av=y9:=⟨_,rfl⟩;rw [hy] at P0;have hP:=P0.bD;have pc:=P0.cpu;have pz:=P0.kE;have pt:=P0.ty;rw [UT] at hP XW;clear P0;have Ee:=hP.len;have R2:=hP.sl.base;have vP:y.av.n-1<y.av.n:=by omega
  have UU:dh L ⟨cpu,(zi:Int),t,[]⟩=y9:=by
   rw [<- hx,je hq (by omega)];simp only [uO,UT]
  have TF:dh L x=y9:=by rw [hx];exact UU
  have abE:=hP.le;have e3:(cm (p.ls[kp]'pY))[3]?=some (Value.slice y.av.A y.av.n y.av.c):=by rw [hy];rfl
  have Mc:y9≠[]:=fun e=>by rw [e] at XW;simp at XW
  have EI:=H4 Mc (i:=y.av.n-1) (by omega) (by omega);obtain ⟨a,ha⟩ : ∃ a,y9.getLast Mc=a:=⟨_,rfl⟩;rw [ha] at EI
  have F0:j7 m0 m1 cpu zi 0 t f s L (some (s,xf L x y9,a)):=by
   have:=j7.list (m0:=m0) (m1:=m1) (fl:=f) (s:=s) (o:=0) rfl (show dz L ⟨cpu,(zi:Int),t,[]⟩=true by rw [<- hx];exact hq) (by rw [UU];exact Mc)
   simp only [<- hx,TF,ha] at this;exact this
  repeat' (first|refine Wy ?_|refine SW.st (cn (y.av.n-1) rfl rfl (by assumption) (by omega) (by omega)) rfl ?_|refine Wl (H.eV.cell (i:=3) (v := .slice p.li.A p.li.n p.li.c) rfl) ?_|refine Wl (H.ls.row.sl.jF gC (j:=3) e3) ?_|refine Wl (hP.sl.one vP (congrArg bt EI.symm)) ?_)
  refine CW.gB 17 17 (fun _=>True) mixed (by kernel_rfl) fun w1 ah aI => ?_
  obtain ⟨hw,H,hP,K0⟩:=dJ ah hw H hP K0;clear ah;refine Wp 0 [] [] aI rfl rfl ?_;refine Wt 1 [] [] aI rfl (aF rfl) ?_;refine Wt 2 [] [] aI rfl (az rfl) ?_;refine Wt 3 [] [] aI rfl (aP rfl (H.eV.cell (i:=3) (v := .slice p.li.A p.li.n p.li.c) rfl)) ?_;refine Wp 4 [] [] aI rfl rfl ?_;refine Wp 5 [] [] aI rfl rfl ?_;refine Wt 6 [] [] aI rfl (aF rfl) ?_;refine Wt 7 [] [] aI rfl (az rfl) ?_;refine Wt 8 [] [] aI rfl (aP rfl (H.eV.cell (i:=3) (v := .slice p.li.A p.li.n p.li.c) rfl)) ?_;refine Wp 9 [] [] aI rfl rfl ?_;refine Wt 10 [] [] aI rfl (cf rfl rfl (by assumption) (by omega)) ?_;refine Wt 11 [] [] aI rfl (az rfl) ?_;refine Wt 12 [] [] aI rfl (aP rfl (H.ls.row.sl.jF gC (j:=3) e3)) ?_;refine Wp 13 [] [] aI rfl rfl ?_;refine Wt 14 [] [] aI rfl (cW (k:=y.av.n-1) rfl (congrArg (fun z=>some (Value.int .i64 z)) (by omega)) (by omega)) ?_;refine Wt 15 [16] [16] aI rfl (cf rfl rfl (by assumption) (by omega)) ?_;refine Wt 16 [] [] aI rfl (az rfl) ?_;refine SF.ff ?_;refine SW.gH kp 3 ⟨y.gl,y.aj,y.Ty,⟨y.av.A,y.av.n-1,y.av.c⟩⟩ H.ls.row rfl rfl rfl gC (by decide) rfl (by rw [hy];rfl) fun w6 ke uB => ?_
  have ZG:ob (⟨y.gl,y.aj,y.Ty,⟨y.av.A,y.av.n-1,y.av.c⟩⟩ : dw).av=ob (p.ls[kp]'pY).av:=by rw [hy];rfl
  have BP:=hP.pre (i:=y.av.n-1) (by omega);have edl:y9.take (y.av.n-1)=y9.dropLast:=by rw [List.dropLast_eq_take,Ee]
  rw [edl] at BP;have H6:=HS.setRow (y:=⟨y.gl,y.aj,y.Ty,⟨y.av.A,y.av.n-1,y.av.c⟩⟩) (l:=fW x y9.dropLast) H pY ke uB ⟨pc.trans rq.1,pz.trans rq.2.1,pt.trans rq.2.2,BP⟩ ZG;have K6:pU w k p w6 ⟨p.u0,p.u1,p.li,p.ls.set kp ⟨y.gl,y.aj,y.Ty,⟨y.av.A,y.av.n-1,y.av.c⟩⟩⟩:=K0.step uB (fun i e => .inl (.inr (.inr (.inl e)))) (fun i e => .inl (NH pY ZG e))
  by_cases h1:y.av.n=1
  ·have eL:xf L x y9=(L.set kp (fW x y9.dropLast)).eraseIdx kp:=by rw [HZ (by omega),uO,List.eraseIdx_set_eq]
   obtain ⟨p6,ZH⟩ : ∃ p6:HP,p6=⟨p.u0,p.u1,p.li,p.ls.set kp ⟨y.gl,y.aj,y.Ty,⟨y.av.A,y.av.n-1,y.av.c⟩⟩⟩:=⟨_,rfl⟩;have ZI:p6.li=p.li:=by rw [ZH]
   rw [<- ZH] at H6 K6;have XX:kp<p6.li.n:=by rw [ZI];exact gC
   clear hw;have hw:=Ext.refl w6;repeat' (first|refine Wy ?_|refine Wl (H6.eV.cell (i:=3) (v := .slice p6.li.A p6.li.n p6.li.c) rfl) ?_)
   refine SW.dK rfl rfl (AM p6.li.A p6.li.n p6.li.c wb.heap.size p6.ls _ H6.ls.row kp XX (by rw [ZI];omega) H6.low) fun v w7 XY => ?_
   obtain ⟨rfl,hO7,NJ⟩:=XY;have bc:=H6.eV.aJ (H6.ls.Ic NJ) rfl;repeat' (first|refine Wy ?_|fail);refine Wb (i:=3) bc fun w8 bf Ss => ?_
   have H8:=HS.Sn H6 hO7 NJ bf Ss;have K7:=K6.step (p':=p6) NJ (fun i e => .inl (.inr (.inr (.inl e)))) (fun i e => .inl e);have K8:=K7.step Ss (fun i e=>by cases e;exact .inl (.inl rfl)) (fun i e => .inl (NI (i:=kp) e));repeat' (first|refine Wy ?_|fail);exact ae.dl rfl rfl rfl ⟨_,rfl,_,F0,rfl,_,by simp only [Sq,eL];exact H8,K8⟩
  ·have eL:xf L x y9=L.set kp (fW x y9.dropLast):=by rw [Nr (by omega),uO]
   repeat' (first|refine Wy ?_|fail);exact ae.dl rfl rfl rfl ⟨_,rfl,_,F0,rfl,_,by simp only [Sq,eL];exact H6,K6⟩
variable {p0:HP} {zl:List Int} {sz:Nat} {e:TypeId} {enc:α -> List Value}
def pU.PX {k:HK} {p:HP} (h:pU w0 k p0 w p) {n c:Nat} {l:List α} (hO:Own w0 lo e sz enc A n c l) (hn:∀ g,aG A c=some g -> ¬ kV k p0 g) : Own w lo e sz enc A n c l:=by
 have e8:=hO.lt_size;refine ⟨hO.len,?_⟩;rcases hO.row with h1|⟨hc,g,ka,rfl,h1,h2,h3⟩
 ·exact .inl h1
 ·have hg:aG (some (⟨g,0,none⟩ : Addr)) c=some g:=by simp [aG,Nat.pos_iff_ne_zero.1 hc]
  exact .inr ⟨hc,g,ka,rfl,h1,by rw [h.block g (e8 g hg) (hn g hg)];exact h2,h3⟩
def tkT (L:List aS) : Option ((aj×aj)×Int)->Option ((aj×aj)×List aS×Int)
 | none=>none
 | some q=>some (q.1,L,q.2)
def QZ.u6 {s:aj×aj} {t:Int} {q:Option ((aj×aj)×Int)} (h:QZ m0 m1 s zi o t f q) (ho : 0<o) : j7 m0 m1 cpu zi o t f s L (tkT L q):=by
 have ov : ¬ (o=0∧dz L ⟨cpu,zi,t,[]⟩=true):=fun h=>by omega
 cases h with
 | nw he=>exact .nw ov he
 | none he ht hu=>exact .none ov he ht hu
 | ok he ht hu=>exact .u6 ho he ht hu
def vW {t:Int} {s:aj×aj} (hz:(zl=[1,0]∧f % 2=0)∨(zl=[0]∧f % 2=1)) (hj:j<zl.length) (hb:∀ (i:Nat) (h:i<zl.length),i<j->j7 m0 m1 cpu zl[i] o t f s L none) (h:j7 m0 m1 cpu zl[j] o t f s L (some r)) : mK m0 m1 cpu o t f s L (some r):=by
 rcases hz with ⟨rfl,hf⟩|⟨rfl,hf⟩
 ·have nr:j<2:=hj
  rcases ae5 j 1 with h1|h1
  ·obtain rfl:j=0:=by omega
   exact .wN hf h
  ·obtain rfl:j=1:=by omega
   exact .low (fun _=>hb 0 (by simp) (by omega)) h
 ·have nr:j<1:=hj
  obtain rfl:j=0:=by omega
  exact .low (fun e=>by omega) h
def F1 {t:Int} {s:aj×aj} (hz:(zl=[1,0]∧f % 2=0)∨(zl=[0]∧f % 2=1)) (hb:∀ (i:Nat) (h:i<zl.length),j7 m0 m1 cpu zl[i] o t f s L none) : mK m0 m1 cpu o t f s L none:=by
 rcases hz with ⟨rfl,hf⟩|⟨rfl,hf⟩
 ·exact .low (fun _=>hb 0 (by simp)) (hb 1 (by simp))
 ·exact .low (fun e=>by omega) (hb 0 (by simp))
abbrev zA0 (g:Nat) : Option Addr:=some ⟨g,0,none⟩
abbrev zA1 (g:Nat) : Option Addr:=if 2=1 then some ⟨g,0,none⟩ else (some (⟨g,0,none⟩ : Addr)).map (·.add (1*1))
set_option maxHeartbeats 4000000 in
def xU (k:HK) (p:HP) (s:aj×aj) (L:List aS) (m0 m1 cpu o t f:Int) (wb w:World) (H:HS wb w k p s L) (hO:m9 wb) (hM:C4 k.M m0 m1) (hv:VS s) (hs:Fl L) (wS:∀ l∈L,1<=l.av.length∧l.av.length<=8) (PH:L.length<=256) (ho : 0<=o∧o<=4) (hf : 0<=f∧f<=15) :
 iO prog 58 [.pointer (some ⟨k.b,0,none⟩),.int .i64 cpu,.int .i64 o,.int .i64 t,.int .i64 f] w fun v w' => ∃ q,mK m0 m1 cpu o t f s L q∧v=ZE q ∧ ∃ p',HS wb w' k p' (UR s q) (Sq L q)∧pU w k p w' p':=by
 refine dc func58 rfl ntmps58 rfl ?_;have hw:=Ext.refl w;obtain ⟨q1,q2,q4,q8⟩:=xl hf;have UW:∀ i,w.heap.size<=i -> ¬ kV k p i:=fun i hi=>H.not hi
 have K0:=pU.refl w k p;refine Wz ?_;refine SW.xb (enc:=bt) 1 0 rfl rfl rfl rfl rfl rfl fun g w2 dB XG hZ => ?_
 (obtain ⟨hw,H,K0⟩:=cd dB hw H K0);have hn:∀ j,aG (some (⟨g,0,none⟩ : Addr)) 2=some j -> ¬ kV k p j:=fun j e=>UW j (by simp [aG] at e;omega)
 obtain ⟨lo,dt⟩ : ∃ lo,w.heap.size=lo:=⟨_,rfl⟩;rw [dt] at hZ;clear UW dt;rcases (show f % 2=0∨f % 2=1 by omega) with UX|UX
 ·obtain ⟨zl,Hv⟩ : ∃ zl:List Int,zl=[1,0]:=⟨_,rfl⟩;have PY:(zl=[1,0]∧f % 2=0)∨(zl=[0]∧f % 2=1):=by rw [Hv];exact .inl ⟨rfl,UX⟩
  obtain ⟨A,hA⟩ : ∃ A:Option Addr,A=(zA0 g):=⟨_,rfl⟩
  have XZ:∀ w',Own w' lo 3 1 bt (some ⟨g,0,none⟩) 2 2 [1,0]->Sl w' 1 bt A 2 zl:=fun w' h=>by
   rw [Hv,hA]
   first|exact h.sl|exact h.sl.drop 1 2 (by decide) (by decide)
  have OR:zl.length=2:=by rw [Hv];rfl
  have BY:∀ (j:Nat) (hj:j<zl.length),∃ zi:Nat,zl[j]=(zi:Int)∧zi<2:=fun j hj=>by
   rcases PY with ⟨rfl,_⟩|⟨rfl,_⟩
   ·have nr:j<2:=hj
    rcases ae5 j 1 with h1|h1
    ·obtain rfl:j=0:=by omega
     exact ⟨1,rfl,by omega⟩
    ·obtain rfl:j=1:=by omega
     exact ⟨0,rfl,by omega⟩
   ·have nr:j<1:=hj
    obtain rfl:j=0:=by omega
    exact ⟨0,rfl,by omega⟩
  repeat' (first|refine Wz ?_|(refine SW.st (y8 rfl rfl (by omega) (by decide)) rfl ?_))
  all_goals try omega
  refine CW.loop (fun u:Nat×HP=>[(0,.pointer (some ⟨k.b,0,none⟩)),(1,.int .i64 cpu),(2,.int .i64 o),(3,.int .i64 t),(4,.int .i64 f),(23,.slice A 2 2),(24,.int .i64 ((2:Nat) : Int)),(25,.int .i64 (u.1:Int))])
   (fun u w'=>u.1<=zl.length∧HS wb w' k u.2 s L∧pU w k p w' u.2∧Own w' lo 3 1 bt (some ⟨g,0,none⟩) 2 2 [1,0]∧(∀ j,aG (some (⟨g,0,none⟩ : Addr)) 2=some j -> ¬ kV k u.2 j) ∧ ∀ (i:Nat) (h:i<zl.length),i<u.1->j7 m0 m1 cpu zl[i] o t f s L none) (fun u=>zl.length-u.1) (0,p)
   ⟨rfl,rfl,rfl,rfl,rfl,by rw [hA];rfl,rfl,rfl,trivial⟩ ⟨by simp,H,K0,hZ,hn,fun i h h'=>by simp at h'⟩ ?_
  clear hw hZ H K0 hn;rintro ⟨j,p6⟩ w' ⟨hj,H,K0,hZ,hn,hb⟩
  simp only at hj H K0 hn hb ⊢;have hw:=Ext.refl w';have hS:=XZ _ hZ;have hSA:=hS.base;by_cases e8:j<zl.length
  ·obtain ⟨zi,tx,NK⟩:=BY j e8;have X0:j<2:=by omega
   have fz:=hS.one X0 (congrArg bt tx);by_cases PG:o=0
   ·repeat' (first|refine Wz ?_|refine Wl fz ?_)
    subst PG;refine SW.dK rfl rfl (AN k p6 s L m0 m1 cpu zi t f wb _ H hO hM hv hs wS PH NK hf) fun v w5 Fv => ?_
    obtain ⟨q5,hT,rfl,p5,H5,K5⟩:=Fv;have Su:=K5.PX hZ hn;have Ld:∀ i,aG (some (⟨g,0,none⟩ : Addr)) 2=some i -> ¬ kV k p5 i:=fun i e=>K5.not (hn i e) (hZ.lt_size i e)
    have K5:=K0.trans K5;clear hw;have hw:=Ext.refl w5;rw [<- tx] at hT;cases q5 with
    | none =>
      repeat' (first|refine Wz ?_|(refine CW.gj rfl ?_))
      exact ae.again (j+1,p5) ⟨rfl,rfl,rfl,rfl,rfl,rfl,rfl,rfl,trivial⟩ (by simp only;omega) ⟨by simp only;omega,H5,K5,Su,Ld,fun i h h'=>by
       by_cases e:i=j
       ·subst e;exact hT
       ·exact hb i h (by simp only at h';omega)⟩
    | some q5 =>
      repeat' (first|refine Wz ?_|(refine CW.gG rfl ?_))
      exact ae.dl rfl rfl rfl ⟨_,rfl,_,vW PY e8 hb hT,rfl,p5,H5,K5⟩
   ·repeat' (first|refine Wz ?_|refine Wl fz ?_)
    refine SW.dK rfl rfl (vT k p6 s L m0 m1 zi o t f wb _ H (hO.ext H.base) hM hv NK ho hf) fun v w5 Fv => ?_
    obtain ⟨q5,hT,rfl,p5,H5,K5⟩:=Fv;have Su:=K5.PX hZ hn;have Ld:∀ i,aG (some (⟨g,0,none⟩ : Addr)) 2=some i -> ¬ kV k p5 i:=fun i e=>K5.not (hn i e) (hZ.lt_size i e)
    have K5:=K0.trans K5;clear hw;have hw:=Ext.refl w5;have hT:=hT.u6 (cpu:=cpu) (L:=L) (by omega);rw [<- tx] at hT;cases q5 with
    | none =>
      repeat' (first|refine Wz ?_|(refine CW.gj rfl ?_))
      exact ae.again (j+1,p5) ⟨rfl,rfl,rfl,rfl,rfl,rfl,rfl,rfl,trivial⟩ (by simp only;omega) ⟨by simp only;omega,H5,K5,Su,Ld,fun i h h'=>by
       by_cases e:i=j
       ·subst e;exact hT
       ·exact hb i h (by simp only at h';omega)⟩
    | some q5 =>
      repeat' (first|refine Wz ?_|(refine CW.gG rfl ?_))
      exact ae.dl rfl rfl rfl ⟨_,rfl,_,vW PY e8 hb hT,rfl,p5,H5,K5⟩
  ·refine Wz ?_;exact ae.dl rfl rfl rfl ⟨_,rfl,none,F1 PY (fun i h=>hb i h (by omega)),rfl,p6,H,K0⟩
 ·obtain ⟨zl,Hv⟩ : ∃ zl:List Int,zl=[0]:=⟨_,rfl⟩;have PY:(zl=[1,0]∧f % 2=0)∨(zl=[0]∧f % 2=1):=by rw [Hv];exact .inr ⟨rfl,UX⟩
  obtain ⟨A,hA⟩ : ∃ A:Option Addr,A=(zA1 g):=⟨_,rfl⟩
  have XZ:∀ w',Own w' lo 3 1 bt (some ⟨g,0,none⟩) 2 2 [1,0]->Sl w' 1 bt A (2-1) zl:=fun w' h=>by
   rw [Hv,hA]
   first|exact h.sl|exact h.sl.drop 1 2 (by decide) (by decide)
  have OR:zl.length=(2-1):=by rw [Hv];rfl
  have BY:∀ (j:Nat) (hj:j<zl.length),∃ zi:Nat,zl[j]=(zi:Int)∧zi<2:=fun j hj=>by
   rcases PY with ⟨rfl,_⟩|⟨rfl,_⟩
   ·have nr:j<2:=hj
    rcases ae5 j 1 with h1|h1
    ·obtain rfl:j=0:=by omega
     exact ⟨1,rfl,by omega⟩
    ·obtain rfl:j=1:=by omega
     exact ⟨0,rfl,by omega⟩
   ·have nr:j<1:=hj
    obtain rfl:j=0:=by omega
    exact ⟨0,rfl,by omega⟩
  repeat' (first|refine Wz ?_|(refine SW.st (y8 rfl rfl (by omega) (by decide)) rfl ?_)|(refine SW.st (aZ (k:=1) rfl rfl (by omega) (by omega)) rfl ?_))
  all_goals try omega
  refine CW.loop (fun u:Nat×HP=>[(0,.pointer (some ⟨k.b,0,none⟩)),(1,.int .i64 cpu),(2,.int .i64 o),(3,.int .i64 t),(4,.int .i64 f),(23,.slice A (2-1) (2-1)),(24,.int .i64 (((2-1) : Nat) : Int)),(25,.int .i64 (u.1:Int))])
   (fun u w'=>u.1<=zl.length∧HS wb w' k u.2 s L∧pU w k p w' u.2∧Own w' lo 3 1 bt (some ⟨g,0,none⟩) 2 2 [1,0]∧(∀ j,aG (some (⟨g,0,none⟩ : Addr)) 2=some j -> ¬ kV k u.2 j) ∧ ∀ (i:Nat) (h:i<zl.length),i<u.1->j7 m0 m1 cpu zl[i] o t f s L none) (fun u=>zl.length-u.1) (0,p)
   ⟨rfl,rfl,rfl,rfl,rfl,by rw [hA];rfl,rfl,rfl,trivial⟩ ⟨by simp,H,K0,hZ,hn,fun i h h'=>by simp at h'⟩ ?_
  clear hw hZ H K0 hn;rintro ⟨j,p6⟩ w' ⟨hj,H,K0,hZ,hn,hb⟩
  simp only at hj H K0 hn hb ⊢;have hw:=Ext.refl w';have hS:=XZ _ hZ;have hSA:=hS.base;by_cases e8:j<zl.length
  ·obtain ⟨zi,tx,NK⟩:=BY j e8;have X0:j<(2-1):=by omega
   have fz:=hS.one X0 (congrArg bt tx);by_cases PG:o=0
   ·repeat' (first|refine Wz ?_|refine Wl fz ?_)
    subst PG;refine SW.dK rfl rfl (AN k p6 s L m0 m1 cpu zi t f wb _ H hO hM hv hs wS PH NK hf) fun v w5 Fv => ?_
    obtain ⟨q5,hT,rfl,p5,H5,K5⟩:=Fv;have Su:=K5.PX hZ hn;have Ld:∀ i,aG (some (⟨g,0,none⟩ : Addr)) 2=some i -> ¬ kV k p5 i:=fun i e=>K5.not (hn i e) (hZ.lt_size i e)
    have K5:=K0.trans K5;clear hw;have hw:=Ext.refl w5;rw [<- tx] at hT;cases q5 with
    | none =>
      repeat' (first|refine Wz ?_|(refine CW.gj rfl ?_))
      exact ae.again (j+1,p5) ⟨rfl,rfl,rfl,rfl,rfl,rfl,rfl,rfl,trivial⟩ (by simp only;omega) ⟨by simp only;omega,H5,K5,Su,Ld,fun i h h'=>by
       by_cases e:i=j
       ·subst e;exact hT
       ·exact hb i h (by simp only at h';omega)⟩
    | some q5 =>
      repeat' (first|refine Wz ?_|(refine CW.gG rfl ?_))
      exact ae.dl rfl rfl rfl ⟨_,rfl,_,vW PY e8 hb hT,rfl,p5,H5,K5⟩
   ·repeat' (first|refine Wz ?_|refine Wl fz ?_)
    refine SW.dK rfl rfl (vT k p6 s L m0 m1 zi o t f wb _ H (hO.ext H.base) hM hv NK ho hf) fun v w5 Fv => ?_
    obtain ⟨q5,hT,rfl,p5,H5,K5⟩:=Fv;have Su:=K5.PX hZ hn;have Ld:∀ i,aG (some (⟨g,0,none⟩ : Addr)) 2=some i -> ¬ kV k p5 i:=fun i e=>K5.not (hn i e) (hZ.lt_size i e)
    have K5:=K0.trans K5;clear hw;have hw:=Ext.refl w5;have hT:=hT.u6 (cpu:=cpu) (L:=L) (by omega);rw [<- tx] at hT;cases q5 with
    | none =>
      repeat' (first|refine Wz ?_|(refine CW.gj rfl ?_))
      exact ae.again (j+1,p5) ⟨rfl,rfl,rfl,rfl,rfl,rfl,rfl,rfl,trivial⟩ (by simp only;omega) ⟨by simp only;omega,H5,K5,Su,Ld,fun i h h'=>by
       by_cases e:i=j
       ·subst e;exact hT
       ·exact hb i h (by simp only at h';omega)⟩
    | some q5 =>
      repeat' (first|refine Wz ?_|(refine CW.gG rfl ?_))
      exact ae.dl rfl rfl rfl ⟨_,rfl,_,vW PY e8 hb hT,rfl,p5,H5,K5⟩
  ·refine Wz ?_;exact ae.dl rfl rfl rfl ⟨_,rfl,none,F1 PY (fun i h=>hb i h (by omega)),rfl,p6,H,K0⟩
def Le (k:HK) (p:HP) (s:aj×aj) (L:List aS) (bs:List Block) (b:Block) (wb w:World) (H:HS wb w k p s L) (hD:rf s bs) (hN:qo bs b) :
 iO prog 90 [.pointer (some ⟨k.b,0,none⟩),.int .i64 b.At,.int .i64 b.Order] w fun v w' => ∃ p',p'.li=p.li∧p'.ls=p.ls∧HS wb w' k p' (gJ s b) L∧pU w k p w' p':=by
 refine dc func90 rfl ntmps90 rfl ?_;have hw:=Ext.refl w;have H0:=H;have eT:=H.zs.z0.pJ;obtain ⟨q1,q2,q3,q4⟩:=tz H.zs.z0 hD.mr;obtain ⟨p1,p2,p3,p4⟩:=tz H.zs.z1 hD.lQ;have hA:=H.zs.row.sl.base;have cz:∀ w',Sl w' 4 dq (some ⟨k.g,0,none⟩) 2 [p.u0,p.u1]->bI prog 91 [.agg (dD (k.h p)).toArray,.int .i64 b.At] w' fun v _=>v = .int .i64 (if b.At<p.u0.To then 0 else 1):=fun w' h=>wY (k.h p) p.u0 p.u1 b.At w' h
 by_cases hx:b.At<p.u0.To
 ·have eP:gJ s b=sW s ((0:Nat) : Int) (ga s.1 b.At b.Order).2:=by unfold gJ;rw [if_pos (by omega)];simp [sW]
  simp only [if_pos hx] at cz;have k0 : 0<2:=by omega
  repeat' (first|refine Wz ?_|refine Wm ((fun _ _=>H.eV.cell)) ?_|(refine Wk (cz _ H.zs.row.sl) ?_;intro v w1 ah hv;subst hv;obtain ⟨hw,H⟩:=cT ah hw H;clear ah))
  refine CW.gB 19 19 (fun _=>True) mixed (by kernel_rfl) fun w1 ah aI => ?_
  obtain ⟨hw,H⟩:=cT ah hw H;clear ah;refine Wp 0 [] [] aI rfl rfl ?_;refine Wt 1 [] [] aI rfl (aF rfl) ?_;refine Wt 2 [] [] aI rfl (az rfl) ?_;refine Wt 3 [] [] aI rfl (aP rfl (H.eV.cell rfl)) ?_;refine Wp 4 [] [] aI rfl rfl ?_;refine Wp 5 [] [] aI rfl rfl ?_;refine Wt 6 [] [] aI rfl (aF rfl) ?_;refine Wt 7 [] [] aI rfl (az rfl) ?_;refine Wt 8 [] [] aI rfl (aP rfl (H.eV.cell rfl)) ?_;refine Wp 9 [] [] aI rfl rfl ?_;refine Wt 10 [] [] aI rfl (cf rfl rfl (by assumption) (by omega)) ?_;refine Wt 11 [] [] aI rfl (aY rfl rfl ((H.zs.row.sl.all k0))) ?_;refine Wp 12 [] [] aI rfl rfl ?_;refine Wp 13 [] [] aI rfl rfl ?_;refine SF.bZ 14 ?_;refine Wk (qf p.u0 s.1 b.At b.Order _ H.zs.z0.rd q1 q2 ⟨by omega,by omega⟩ ⟨by omega,by omega⟩) fun v w4 ar hv => ?_
  obtain ⟨u',rfl,nJ⟩:=hv;have nJ:=nJ.low hw.size;(obtain ⟨hw,H⟩:=cT ar hw H);refine SW.nil (ae.sf ar ?_);refine Wp 15 [] [] aI rfl rfl ?_;refine Wp 16 [] [] aI rfl rfl ?_;refine SF.Cq 17 aI rfl (by kernel_rfl) (by kernel_rfl) rfl (fun _=>bi rfl) rfl ?_;refine Wt 18 [] [] aI rfl (cf rfl rfl (by assumption) (by omega)) ?_;refine SF.ff ?_;refine SW.qq (enc:=dq) 0 u' H.zs.row rfl rfl k0 fun w5 PF hg => ?_
  rw [H.zs.own] at hg;have H5:=HS.Sm H0 H k0 PF hg nJ;have hK:pU w k p w5 (AL p 0 u'):=((pU.refl w k p).ext hw).step hg (fun i e=>by cases e;exact .inl (.inr (.inl rfl))) (fun i e => .inl (xk.1 e))
  refine Wz ?_;exact ae.qi rfl ⟨_,rfl,AL p 0 u',tI.1,tI.2,by rw [eP];exact H5,hK⟩
 ·have eP:gJ s b=sW s ((1:Nat) : Int) (ga s.2 b.At b.Order).2:=by unfold gJ;rw [if_neg (by omega)];simp [sW]
  simp only [if_neg hx] at cz;have k0 : 1<2:=by omega
  repeat' (first|refine Wz ?_|refine Wm ((fun _ _=>H.eV.cell)) ?_|(refine Wk (cz _ H.zs.row.sl) ?_;intro v w1 ah hv;subst hv;obtain ⟨hw,H⟩:=cT ah hw H;clear ah))
  refine CW.gB 19 19 (fun _=>True) mixed (by kernel_rfl) fun w1 ah aI => ?_
  obtain ⟨hw,H⟩:=cT ah hw H;clear ah;refine Wp 0 [] [] aI rfl rfl ?_;refine Wt 1 [] [] aI rfl (aF rfl) ?_;refine Wt 2 [] [] aI rfl (az rfl) ?_;refine Wt 3 [] [] aI rfl (aP rfl (H.eV.cell rfl)) ?_;refine Wp 4 [] [] aI rfl rfl ?_;refine Wp 5 [] [] aI rfl rfl ?_;refine Wt 6 [] [] aI rfl (aF rfl) ?_;refine Wt 7 [] [] aI rfl (az rfl) ?_;refine Wt 8 [] [] aI rfl (aP rfl (H.eV.cell rfl)) ?_;refine Wp 9 [] [] aI rfl rfl ?_;refine Wt 10 [] [] aI rfl (cf rfl rfl (by assumption) (by omega)) ?_;refine Wt 11 [] [] aI rfl (aY rfl rfl ((H.zs.row.sl.all k0))) ?_;refine Wp 12 [] [] aI rfl rfl ?_;refine Wp 13 [] [] aI rfl rfl ?_;refine SF.bZ 14 ?_;refine Wk (qf p.u1 s.2 b.At b.Order _ H.zs.z1.rd p1 p2 ⟨by omega,by omega⟩ ⟨by omega,by omega⟩) fun v w4 ar hv => ?_
  obtain ⟨u',rfl,nJ⟩:=hv;have nJ:=nJ.low hw.size;(obtain ⟨hw,H⟩:=cT ar hw H);refine SW.nil (ae.sf ar ?_);refine Wp 15 [] [] aI rfl rfl ?_;refine Wp 16 [] [] aI rfl rfl ?_;refine SF.Cq 17 aI rfl (by kernel_rfl) (by kernel_rfl) rfl (fun _=>bi rfl) rfl ?_;refine Wt 18 [] [] aI rfl (cf rfl rfl (by assumption) (by omega)) ?_;refine SF.ff ?_;refine SW.qq (enc:=dq) 1 u' H.zs.row rfl rfl k0 fun w5 PF hg => ?_
  rw [H.zs.own] at hg;have H5:=HS.Sm H0 H k0 PF hg nJ;have hK:pU w k p w5 (AL p 1 u'):=((pU.refl w k p).ext hw).step hg (fun i e=>by cases e;exact .inl (.inr (.inl rfl))) (fun i e => .inl (xk.1 e))
  refine Wz ?_;exact ae.qi rfl ⟨_,rfl,AL p 1 u',tI.1,tI.2,by rw [eP];exact H5,hK⟩
def HS.drop {k:HK} {p:HP} {s:aj×aj} (h:HS wb w k p s L) (hb:aR w' k.b 41 (dD (k.h ⟨p.u0,p.u1,.nil,[]⟩))) (hg:w.grownBy w' (some k.b)) : HS wb w' k ⟨p.u0,p.u1,.nil,[]⟩ s []:=by
 have hG:=h.eV.gr hg;exact ⟨hb,h.zs.aJ hG rfl,h.eQ.aJ hG rfl,h.live.aJ hG rfl,gw.nil _ _,vx.nil _ _,h.sf,h.NF,h.base.own h.NF hg⟩
def Lg {k:HK} {p:HP} (h:kV k ⟨p.u0,p.u1,.nil,[]⟩ i) : kV k p i:=by
 rcases h with h|h|h|⟨z,hz,h⟩
 ·exact .inl h
 ·exact .inr (.inl h)
 ·cases h
 ·simp at hz
set_option maxHeartbeats 2000000 in
def Ig (k:HK) (p:HP) (h:Heap) (z0 z1:aj) (hd:oD h z0 z1) (hs:h.small) (wb w:World) (H:HS wb w k p (z0,z1) h.au) :
 iO prog 59 [.pointer (some ⟨k.b,0,none⟩)] w fun v w' => ∃ p',HS wb w' k p' (bX (z0,z1) (a9 h.au)) []∧pU w k p w' p':=by
 refine dc func59 rfl ntmps59 rfl ?_;have hw:=Ext.refl w;have mx:=H.ls.rd.len;have s4:=hs.lists;have R2:=H.ls.row.sl.base;repeat' (first|refine Wz ?_|refine Wl (H.eV.cell rfl) ?_)
 refine CW.loop (fun t:Nat×HP=>[(0,.pointer (some ⟨k.b,0,none⟩)),(9,.slice p.li.A p.li.n p.li.c),(10,.int .i64 (p.li.n:Int)),(11,.int .i64 (t.1:Int))])
  (fun t w'=>t.1<=p.li.n∧t.2.li=p.li∧t.2.ls=p.ls∧HS wb w' k t.2 (lX h z0 z1 (kG h.au t.1)) h.au∧pU w k p w' t.2) (fun t=>p.li.n-t.1) (0,p)
  ⟨rfl,rfl,rfl,rfl,trivial⟩ ⟨by omega,rfl,rfl,by simpa [lX,kG,a9,bX] using H,pU.refl _ _ _⟩ ?_
 clear hw H R2;rintro ⟨i,p1⟩ w ⟨hi,e1,e2,H,K0⟩
 simp only at hi e1 e2 H K0 ⊢;have hw:=Ext.refl w;have fP:Sl w 4 cm p.li.A p.li.n p.ls:=by have:=H.ls.row.sl;rwa [e1,e2] at this
 have hA:=fP.base;by_cases cx:i<p.li.n
 ·have tU:i<h.au.length:=by omega
  have BZ:i<p.ls.length:=by omega
  have Ee:h.au[i].av.length=(p.ls[i]'BZ).av.n:=by
   have:=(H.ls.each.get i (by rw [e2];exact BZ) tU).bD.len
   simpa only [e2] using this
  have Me:=hs.bD _ (aet tU);obtain ⟨y,hy⟩ : ∃ y,p.ls[i]'BZ=y:=⟨_,rfl⟩;have NL:=fP.all cx;rw [hy] at NL Ee;repeat' (first|refine Wz ?_|refine Wm NL ?_)
  refine SW.alloc rfl fun b3 w1 ah cg ao => ?_
  skip;refine Wg ao (iK.one (enc:=cm) _) fun w2 ef hg => ?_
  have ar:=ah.own cg hg;have gm:w.heap.size<=b3:=aev hw.size cg
  replace hw:=Ext.trans hw ar;replace H:=H.ext ar;replace K0:=K0.ext ar;replace ao:=ef;clear ef ah hg ar
  have Jn:∀ (w':World) (q:HP) (s:aj×aj),q.ls=p.ls->HS wb w' k q s h.au->Own w' wb.heap.size 3 1 bt y.av.A y.av.n y.av.c h.au[i].av:=fun w' q s eq hh=>by
   have:=(hh.ls.each.get i (by rw [eq];exact BZ) tU).bD
   simpa only [eq,hy] using this
  have hP:=Jn _ p1 _ e2 H;have Nc:=hP.sl.base;repeat' (first|refine Wz ?_|fail)
  refine CW.loop (fun t:Nat×HP=>[(0,.pointer (some ⟨k.b,0,none⟩)),(9,.slice p.li.A p.li.n p.li.c),(10,.int .i64 (p.li.n:Int)),(11,.int .i64 (i:Int)),(16,.slice y.av.A y.av.n y.av.c),(17,.int .i64 (y.av.n:Int)),(18,.int .i64 (t.1:Int))])
   (fun t w'=>t.1<=y.av.n∧t.2.li=p.li∧t.2.ls=p.ls∧HS wb w' k t.2 (lX h z0 z1 (kG h.au i+t.1)) h.au∧pU _ k p w' t.2) (fun t=>y.av.n-t.1) (0,p1)
   ⟨rfl,rfl,rfl,rfl,rfl,rfl,rfl,trivial⟩ ⟨by omega,e1,e2,H,K0⟩ ?_
  clear hw H K0 ao hP Nc fP NL cg gm e1 e2 p1;rintro ⟨j,p1⟩ w' ⟨hj,e1,e2,H,K0⟩
  simp only at hj e1 e2 H K0 ⊢;have hw:=Ext.refl w';have hP:=Jn _ p1 _ e2 H;have Nc:=hP.sl.base;by_cases p7:j<y.av.n
  ·have pZ:j<h.au[i].av.length:=by omega
   obtain ⟨hK,Up⟩:=yU tU pZ;have hN:=hd.next hK;have hD:=hd.inv (kG h.au i+j) (by omega);have hT:=nO (z0,z1) (a9 h.au) _ hK;rw [Up] at hN hT;have Tx:lX h z0 z1 (kG h.au i+(j+1))=gJ (lX h z0 z1 (kG h.au i+j)) (ct h.au[i].av[j]):=hT
   repeat' (first|refine Wz ?_|refine Wl (hP.sl.one p7 rfl) ?_)
   refine SW.dK rfl rfl (Le k p1 _ h.au _ (ct h.au[i].av[j]) wb _ H hD hN) fun v w5 hv => ?_
   obtain ⟨p2,e3,e4,H5,K5⟩:=hv;repeat' (first|refine Wz ?_|fail);refine ae.again (j+1,p2) ⟨rfl,rfl,rfl,rfl,rfl,rfl,rfl,trivial⟩ (by simp only;omega) ⟨by simp only;omega,e3.trans e1,e4.trans e2,?_,K0.trans K5⟩;simp only;rw [Tx];exact H5
  ·have ej:kG h.au i+j=kG h.au (i+1):=by rw [zZ tU];omega
   rw [ej] at H;repeat' (first|refine Wz ?_|fail);exact ae.again (i+1,p1) ⟨rfl,rfl,rfl,rfl,trivial⟩ (by simp only;omega) ⟨by simp only;omega,e1,e2,H,K0⟩
 ·have ei:i=h.au.length:=by omega
  have R5:lX h z0 z1 (kG h.au i)=bX (z0,z1) (a9 h.au):=by
   rw [ei,D4,lX,aeF (aew _)]
  rw [R5] at H;repeat' (first|refine Wz ?_|fail);refine SW.su (i:=3) H.eV rfl rfl rfl rfl fun w6 tT hg => ?_
  have H6:=H.drop tT hg;have K6:=K0.step hg (fun i e=>by cases e;exact .inl (.inl rfl)) (fun i e => .inl (Lg e));repeat' (first|refine Wz ?_|fail);exact ae.qi rfl ⟨_,rfl,_,H6,K6⟩
variable {cs:List Value}
def AO (r:jH) (l:List Block) (a:Int) (w:World) (hl:Sl w 3 aO r.Live.A r.Live.n l) (hu:l.Pairwise fun x y=>x.At<y.At) (hb:∀ b∈l,0<=b.At∧b.At<=255) (hn:r.Live.n<=1000000000000000000) (ha : 0<=a∧a<256) :
 bI prog 60 [.agg (dD r).toArray,.int .i64 a] w fun v _=>v = .tuple #[.int .i64 (bE l a:Int),.bool (bM l a)]:=by
 refine Wj func60 ntmps60 ?_;refine Ww fun b1 w1 hw lD aX => ?_;refine Wz ?_
 refine Wk (jI _ _ _ _ a _ (hl.ext hw) _ (fun x hx w' _=>by
  have:=sK x a w'
  have h:=hb x hx;rwa [ju (by omega) (by omega)] at this) hu hn) fun v w2 bq hv => ?_
 subst hv;have hw:=hw.trans bq;refine Wz ?_;exact ae.dl rfl rfl rfl ⟨_,rfl,hw,rfl⟩
def oO (lo:Nat) (u:Heap×Int×Int) (v:Value) (w:World) : Prop := ∃ s:jH,v = .tuple #[.agg (dD s).toArray,.int .i64 u.2.1,.int .i64 u.2.2]∧jP w lo s u.1
def oO.zero (e:Int) (lo:Nat) (w:World) : oO lo (.zero,0,e) (.tuple #[.agg (dD .zero).toArray,.int .i64 0,.int .i64 e]) w:=⟨.zero,rfl,jP.zero w lo⟩
def HS.NM {k:HK} {p:HP} {s:aj×aj} (h:HS wb w k p s L) (hB:aR w i 41 cs) (bG:i≠k.b) : ¬ kV k p i:=fun hm=>by
 rcases hm with e|e|e|⟨y,hy,e⟩
 ·exact bG e
 ·exact h.zs.row.fr hB rfl (by rw [h.zs.own,e])
 ·exact h.ls.row.fr hB rfl e
 ·obtain ⟨l,_,hl⟩:=h.HF hy;exact hl.bD.fr hB rfl e
def NN {h:Heap} (hm:bK h) : C4 h.dP (ll h 0) (ll h 1):=by
 obtain ⟨m0,m1,e,h0,h1⟩:=hm.eQ;unfold ll;rw [e];exact ⟨rfl,h0,h1⟩
set_option maxHeartbeats 8000000 in
def qG (r:jH) (h:Heap) (cpu o f:Int) (w:World) (hr:Jb w r h) (hs:h.small) (OR:∀ z∈h.bl,fV z) (hO:m9 w) :
 bI prog 23 [.agg (dD r).toArray,.int .i64 cpu,.int .i64 o,.int .i64 f] w fun v w' => ∃ u,cU h cpu o f u∧oO w.heap.size u v w':=by
 refine Wj func23 ntmps23 ?_;refine Ww fun b4 w1 hw fw aE => ?_;have dQ:=fw;refine SW.alloc rfl fun b8 w2 bq nV bf => ?_
 have gq:w.heap.size<=b8:=aev hw.size nV
 have AP:b4≠b8:=by have:=aE.lt;omega
 (replace hw:=Ext.trans hw bq;replace aE:=aE.ext bq);have eC:=hr.cpus;obtain ⟨q,hq⟩ : ∃ q,jo h=q:=⟨_,rfl⟩
 have c1:∀ w',Ext w w'->bI prog 56 [.agg (dD r).toArray] w' fun v _=>v = .int .i64 (if q then 0 else 8):=fun w' hx=>by
  have:=rl r h w' (hr.ext hx) hs OR
  rwa [hq] at this
 cases q
 ·simp only [Bool.false_eq_true,if_false] at c1;repeat' (first|refine Wy ?_|refine Wm ((fun _ _=>aE.cell)) ?_|(refine Wk (c1 _ hw) ?_;intro v w1 ah hv;subst hv;replace hw:=Ext.trans hw ah;replace aE:=aE.ext ah;replace bf:=bf.ext ah;clear ah))
  refine Wg bf (ed .zero) fun w5 cK hg => ?_
  replace hw:=hw.own gq hg;repeat' (first|refine Wy ?_|fail);exact ae.fp rfl rfl rfl rfl cK rfl ⟨_,rfl,hw,_,.bad hq,oO.zero 8 _ _⟩
 ·simp only [if_true] at c1;have hm:=bT.1 hq;obtain ⟨z0,z1,F⟩:=gL hm;by_cases hc:(0<=cpu∧cpu<h.bJ)∧0<=o∧o<=4
  ·obtain ⟨q2,vq⟩ : ∃ q2,decide (0<=jM f)=q2:=⟨_,rfl⟩
   have c2:∀ w',bI prog 57 [.int .i64 f] w' fun v _=>v = .tuple #[.int .i64 (if 0<=jM f then jM f else 0),.bool q2]:=fun w'=>by
    have:=Ie f w'
    rwa [vq] at this
   cases q2
   ·have ht:=of_decide_eq_false vq;repeat' (first|refine Wy ?_|(refine CW.gG rfl ?_)|refine Wm ((fun _ _=>aE.cell)) ?_|refine Wl (aE.cell (i:=2) (v := .int .i64 r.bJ) rfl) ?_|((first|refine Wk (c1 _ hw) ?_|refine Wk (c2 _) ?_);intro v w1 ah hv;subst hv;replace hw:=Ext.trans hw ah;replace aE:=aE.ext ah;replace bf:=bf.ext ah;clear ah))
    all_goals try omega
    refine Wg bf (ed .zero) fun w5 cK hg => ?_
    replace hw:=hw.own gq hg;repeat' (first|refine Wy ?_|fail);exact ae.fp rfl rfl rfl rfl cK rfl ⟨_,rfl,hw,_,.form hq hc (by omega),oO.zero 3 _ _⟩
   ·have ht:=of_decide_eq_true vq;obtain ⟨hf,zO⟩:=sV ht;obtain ⟨t,PZ⟩ : ∃ t,jM f=t:=⟨_,rfl⟩;have rW : 0<=t:=by rw [<- PZ];exact ht
    simp only [PZ,if_pos rW] at c2;repeat' (first|refine Wy ?_|(refine CW.gj rfl ?_)|refine Wm ((fun _ _=>aE.cell)) ?_|refine Wl (aE.cell (i:=2) (v := .int .i64 r.bJ) rfl) ?_|((first|refine Wk (c1 _ hw) ?_|refine Wk (c2 _) ?_);intro v w1 ah hv;subst hv;replace hw:=Ext.trans hw ah;replace aE:=aE.ext ah;replace bf:=bf.ext ah;clear ah))
    all_goals try omega
    clear c1 c2;refine Wk (uG r h _ (hr.ext hw) hs) fun v w4 kN hv => ?_
    obtain ⟨s,rfl,NO⟩:=hv;have hM:=NO.own.eQ.low hw.size;have hV:=NO.own.live.low hw.size;have Cb:=NO.own.cpus;obtain ⟨g,c,u0,u1,ls,eZ,hZ,hL,yq,OQ⟩:=NO.split F.d.cq;have hZ:gM w4 w.heap.size g c u0 u1 (z0,z1):=⟨hZ.row.low hw.size,hZ.z0.low hw.size,hZ.z1.low hw.size,aev hw.size hZ.Jm,hZ.pos⟩
    replace hL:=hL.low hw.size;clear NO;(replace hw:=Ext.trans hw kN;replace aE:=aE.ext kN;replace bf:=bf.ext kN);obtain ⟨sz,m,cp,li,lv⟩:=s;simp only at eZ hM hV hL yq OQ Cb;subst eZ;refine Wg aE (ed ⟨⟨some ⟨g,0,none⟩,2,c⟩,m,cp,li,lv⟩) fun w5 df hg => ?_
    have hG:=aE.gr hg;replace hw:=hw.own dQ hg;replace bf:=bf.grown hg (by simpa using Ne.symm AP);(replace hZ:=hZ.aJ hG rfl;replace hM:=hM.aJ hG rfl;replace hV:=hV.aJ hG rfl;replace hL:=hL.aJ hG rfl);have H:HS w w5 ⟨b4,g,c,m,lv,cp,h.dP,h.Live⟩ ⟨u0,u1,li,ls⟩ (z0,z1) h.au:=⟨df,hZ,hM,hV,hL,yq,OQ,dQ,hw⟩
    obtain ⟨k,hk⟩ : ∃ k:HK,k=⟨b4,g,c,m,lv,cp,h.dP,h.Live⟩:=⟨_,rfl⟩;obtain ⟨p0,Cc⟩ : ∃ p:HP,p=⟨u0,u1,li,ls⟩:=⟨_,rfl⟩;rw [<- hk,<- Cc] at H;have ekb:k.b=b4:=by rw [hk]
    have V9:k.V=h.Live:=by rw [hk]
    have X1:k.M=h.dP:=by rw [hk]
    have ZJ:k.cp=h.bJ:=by rw [hk];exact Cb
    clear aE df hZ hM hV hL yq OQ hG hg hk Cc Cb;subst ekb;have ZK:C4 k.M (ll h 0) (ll h 1):=by rw [X1];exact NN hm
    have EM:=F.d.start.vs;have US:=H.NM bf (Ne.symm AP);have e8:=k7 F.live
    have T7:∀ b∈h.Live,0<=b.At∧b.At<=255:=fun b hb=>by
     obtain ⟨j,hj,rfl⟩:=aeu hb;have:=(F.next hj).at_
     omega
    have mx:=FR F;repeat' (first|refine Wy ?_|fail);refine SW.dK rfl rfl (xU k p0 (z0,z1) h.au _ _ cpu o t f w _ H hO ZK EM F.lT F.lists F.count hc.2 hf) fun v w6 OU => ?_
    obtain ⟨q1,pr,rfl,p1,H1,K1⟩:=OU;have NP:=K1.not US bf.lt;replace bf:=K1.eV bf US;clear H hw US;have hw:=H1.base;cases q1 with
    | none =>
      simp only [UR,Sq] at H1;have ZL:=fX F.d;repeat' (first|refine Wy ?_|(refine CW.gG rfl ?_))
      refine SW.dK rfl rfl (Ig k p1 h z0 z1 F.d hs w _ H1) fun v w7 XY => ?_
      obtain ⟨p2,H2,K2⟩:=XY;have Sv:=K2.not NP bf.lt;replace bf:=K2.eV bf NP;clear H1 hw NP;have hw:=H2.base;repeat' (first|refine Wy ?_|fail);refine SW.dK rfl rfl (xU k p2 _ [] _ _ cpu o t f w _ H2 hO ZK ZL.vs List.Pairwise.nil (fun l hl=>by simp at hl) (by simp) hc.2 hf) fun v w8 XV => ?_
      obtain ⟨q3,X3,rfl,p3,H3,K3⟩:=XV;have UY:=K3.not Sv bf.lt;replace bf:=K3.eV bf Sv;clear H2 hw Sv;have hw:=H3.base;cases q3 with
      | none =>
        repeat' (first|refine Wy ?_|(refine CW.gG rfl ?_))
        refine Wg bf (ed .zero) fun w5 cK hg => ?_
        replace hw:=hw.own gq hg;repeat' (first|refine Wy ?_|fail);exact ae.fp rfl rfl rfl rfl cK rfl ⟨_,rfl,hw,_,.room hq hc ht F.d.cq (by rw [PZ];exact pr) (by rw [PZ];exact X3),oO.zero 6 _ _⟩
      | some q3 =>
        obtain ⟨s3,L3,a⟩:=q3;simp only [UR,Sq] at H3;obtain ⟨i,UZ,Si,PT⟩:=oK F (X3.found ZL.vs).2;have UZ:a=(i:Int):=UZ
        have X4:cU h cpu o f (ny h s3 L3 (dX h a o t),a,0):=by
         have:=cU.gQ hq hc ht F.d.cq (by rw [PZ];exact pr) (by rw [PZ];exact X3)
         rw [PZ] at this;exact this
        have TA:=H3.live.len;rw [V9] at TA;obtain ⟨fd,X5⟩ : ∃ fd,bM h.Live a=fd:=⟨_,rfl⟩
        have c3:∀ w',Sl w' 3 aO k.lv.A k.lv.n h.Live->bI prog 60 [.agg (dD (k.h p3)).toArray,.int .i64 a] w' fun v _=>v = .tuple #[.int .i64 (bE h.Live a:Int),.bool fd]:=fun w' hh=>by
         have:=AO (k.h p3) h.Live a w' hh e8 T7 (by simp only;omega) ⟨by omega,by omega⟩
         rwa [X5] at this
        have hV:=H3.live;rw [V9] at hV;have aE:=H3.eV;have hZ:=H3.zs;have hM:=H3.eQ;have hL:=H3.ls;rw [X1] at hM;have TI:=H3.sf;clear H3;have Ma:=hV.lt_size;repeat' (first|refine Wy ?_|(refine CW.gj rfl ?_)|refine Wm ((fun _ _=>aE.cell)) ?_|(refine Wk (c3 _ hV.sl) ?_;intro v w1 ah hv;subst hv;replace hw:=Ext.trans hw ah;replace aE:=aE.ext ah;replace bf:=bf.ext ah;replace hV:=hV.ext ah;replace hZ:=hZ.ext ah;replace hM:=hM.ext ah;replace hL:=hL.ext ah;clear ah))
        repeat' (first|refine Wy ?_|refine Wl (aE.cell (i:=4) (v := .slice k.lv.A k.lv.n k.lv.c) rfl) ?_)
        refine SW.dR rfl rfl rfl rfl rfl fun b w9 ar Xj hB => ?_
        have wJ:aG k.lv.A k.lv.c≠some b:=fun e=>by have:=hV.lt_size _ e;omega
        (replace hw:=Ext.trans hw ar;replace aE:=aE.ext ar;replace bf:=bf.ext ar;replace hV:=hV.ext ar;replace hZ:=hZ.ext ar;replace hM:=hM.ext ar;replace hL:=hL.ext ar);skip;have BI:bE h.Live a<=h.Live.length:=List.findIdx_le_length
        refine SW.dK rfl rfl (kY k.lv.A k.lv.n k.lv.c w.heap.size h.Live _ hV (bE h.Live a) (by omega) ⟨a,o,t⟩ b hB wJ (by omega) hw.size) fun v oP hv => ?_
        obtain ⟨A',c',rfl,Ei,hg⟩:=hv;have hG:=hV.gr hg;replace hw:=aD hw hg (aew _) hV.aW;replace hZ:=hZ.HL TI hg hG;(replace aE:=aE.aJ hG rfl;replace bf:=bf.aJ hG rfl;replace hM:=hM.aJ hG rfl;replace hL:=hL.aJ hG rfl);repeat' (first|refine Wy ?_|fail);refine Wb (i:=4) aE fun qH df hg => ?_
        have hG:=aE.gr hg;replace hw:=hw.own dQ hg;replace bf:=bf.grown hg (by simpa using Ne.symm AP);(replace hZ:=hZ.aJ hG rfl;replace hM:=hM.aJ hG rfl;replace hL:=hL.aJ hG rfl;replace Ei:=Ei.aJ hG rfl);replace aE:aR qH k.b 41 (dD ⟨⟨some ⟨k.g,0,none⟩,2,k.c⟩,k.m,k.cp,p3.li,⟨A',k.lv.n+1,c'⟩⟩):=df;repeat' (first|refine Wy ?_|refine Wm ((fun _ _=>aE.cell)) ?_)
        refine Wg bf (ed ⟨⟨some ⟨k.g,0,none⟩,2,k.c⟩,k.m,k.cp,p3.li,⟨A',k.lv.n+1,c'⟩⟩) fun iZ cK hg => ?_
        have hG:=bf.gr hg;replace hw:=hw.own gq hg;(replace hZ:=hZ.aJ hG rfl;replace hM:=hM.aJ hG rfl;replace hL:=hL.aJ hG rfl;replace Ei:=Ei.aJ hG rfl);repeat' (first|refine Wy ?_|fail);exact ae.fp rfl rfl rfl rfl cK rfl ⟨_,rfl,hw,_,X4,⟨⟨some ⟨k.g,0,none⟩,2,k.c⟩,k.m,k.cp,p3.li,⟨A',k.lv.n+1,c'⟩⟩,rfl,⟨ZJ,hM,Ei,⟨[p3.u0,p3.u1],⟨hZ.row,fK.two hZ.z0 hZ.z1⟩⟩,⟨p3.ls,hL⟩⟩⟩
    | some q3 =>
      obtain ⟨s3,L3,a⟩:=q3;simp only [UR,Sq] at H1;obtain ⟨i,UZ,Si,PT⟩:=qy F (pr.found EM).2;have UZ:a=(i:Int):=UZ
      have X4:cU h cpu o f (ny h s3 L3 (dX h a o t),a,0):=by
       have:=cU.once hq hc ht F.d.cq (by rw [PZ];exact pr)
       rw [PZ] at this;exact this
      have H3:=H1;have UY:=NP;obtain ⟨p3,hp3⟩ : ∃ p3,p1=p3:=⟨_,rfl⟩;rw [hp3] at H3 UY;clear H1 NP;have TA:=H3.live.len;rw [V9] at TA;obtain ⟨fd,X5⟩ : ∃ fd,bM h.Live a=fd:=⟨_,rfl⟩
      have c3:∀ w',Sl w' 3 aO k.lv.A k.lv.n h.Live->bI prog 60 [.agg (dD (k.h p3)).toArray,.int .i64 a] w' fun v _=>v = .tuple #[.int .i64 (bE h.Live a:Int),.bool fd]:=fun w' hh=>by
       have:=AO (k.h p3) h.Live a w' hh e8 T7 (by simp only;omega) ⟨by omega,by omega⟩
       rwa [X5] at this
      have hV:=H3.live;rw [V9] at hV;have aE:=H3.eV;have hZ:=H3.zs;have hM:=H3.eQ;have hL:=H3.ls;rw [X1] at hM;have TI:=H3.sf;clear H3;have Ma:=hV.lt_size;repeat' (first|refine Wy ?_|(refine CW.gj rfl ?_)|refine Wm ((fun _ _=>aE.cell)) ?_|(refine Wk (c3 _ hV.sl) ?_;intro v w1 ah hv;subst hv;replace hw:=Ext.trans hw ah;replace aE:=aE.ext ah;replace bf:=bf.ext ah;replace hV:=hV.ext ah;replace hZ:=hZ.ext ah;replace hM:=hM.ext ah;replace hL:=hL.ext ah;clear ah))
      repeat' (first|refine Wy ?_|refine Wl (aE.cell (i:=4) (v := .slice k.lv.A k.lv.n k.lv.c) rfl) ?_)
      refine SW.dR rfl rfl rfl rfl rfl fun b w9 ar Xj hB => ?_
      have wJ:aG k.lv.A k.lv.c≠some b:=fun e=>by have:=hV.lt_size _ e;omega
      (replace hw:=Ext.trans hw ar;replace aE:=aE.ext ar;replace bf:=bf.ext ar;replace hV:=hV.ext ar;replace hZ:=hZ.ext ar;replace hM:=hM.ext ar;replace hL:=hL.ext ar);skip;have BI:bE h.Live a<=h.Live.length:=List.findIdx_le_length
      refine SW.dK rfl rfl (kY k.lv.A k.lv.n k.lv.c w.heap.size h.Live _ hV (bE h.Live a) (by omega) ⟨a,o,t⟩ b hB wJ (by omega) hw.size) fun v oP hv => ?_
      obtain ⟨A',c',rfl,Ei,hg⟩:=hv;have hG:=hV.gr hg;replace hw:=aD hw hg (aew _) hV.aW;replace hZ:=hZ.HL TI hg hG;(replace aE:=aE.aJ hG rfl;replace bf:=bf.aJ hG rfl;replace hM:=hM.aJ hG rfl;replace hL:=hL.aJ hG rfl);repeat' (first|refine Wy ?_|fail);refine Wb (i:=4) aE fun qH df hg => ?_
      have hG:=aE.gr hg;replace hw:=hw.own dQ hg;replace bf:=bf.grown hg (by simpa using Ne.symm AP);(replace hZ:=hZ.aJ hG rfl;replace hM:=hM.aJ hG rfl;replace hL:=hL.aJ hG rfl;replace Ei:=Ei.aJ hG rfl);replace aE:aR qH k.b 41 (dD ⟨⟨some ⟨k.g,0,none⟩,2,k.c⟩,k.m,k.cp,p3.li,⟨A',k.lv.n+1,c'⟩⟩):=df;repeat' (first|refine Wy ?_|refine Wm ((fun _ _=>aE.cell)) ?_)
      refine Wg bf (ed ⟨⟨some ⟨k.g,0,none⟩,2,k.c⟩,k.m,k.cp,p3.li,⟨A',k.lv.n+1,c'⟩⟩) fun iZ cK hg => ?_
      have hG:=bf.gr hg;replace hw:=hw.own gq hg;(replace hZ:=hZ.aJ hG rfl;replace hM:=hM.aJ hG rfl;replace hL:=hL.aJ hG rfl;replace Ei:=Ei.aJ hG rfl);repeat' (first|refine Wy ?_|fail);exact ae.fp rfl rfl rfl rfl cK rfl ⟨_,rfl,hw,_,X4,⟨⟨some ⟨k.g,0,none⟩,2,k.c⟩,k.m,k.cp,p3.li,⟨A',k.lv.n+1,c'⟩⟩,rfl,⟨ZJ,hM,Ei,⟨[p3.u0,p3.u1],⟨hZ.row,fK.two hZ.z0 hZ.z1⟩⟩,⟨p3.ls,hL⟩⟩⟩
  ·repeat' (first|refine Wy ?_|refine SW.gp rfl rfl rfl (fun h => ?_) (fun h => ?_)|refine Wm ((fun _ _=>aE.cell)) ?_|refine Wl (aE.cell (i:=2) (v := .int .i64 r.bJ) rfl) ?_|(refine Wk (c1 _ hw) ?_;intro v w1 ah hv;subst hv;replace hw:=Ext.trans hw ah;replace aE:=aE.ext ah;replace bf:=bf.ext ah;clear ah))
   all_goals try omega
   all_goals
    refine Wg bf (ed .zero) fun w5 cK hg => ?_
    replace hw:=hw.own gq hg;repeat' (first|refine Wy ?_|fail);exact ae.fp rfl rfl rfl rfl cK rfl ⟨_,rfl,hw,_,.range hq hc,oO.zero 1 _ _⟩
variable {ops:Array Oper} {Q:Exit->Act->World->Prop} {b:Nat} {tb:TypeId}
def SW.gE {n:Nat} {rest:List Oper} {L:Env} {pos:String} [G:fG P t k] {vs:List Value} {x:Operand} (o:Nat)
 (hB:aR w b tb cs) (hx:cy L x=some (.pointer (some ((⟨b,0,none⟩ : Addr).add o)))) (hy:cy L y=some (.agg vs.toArray)) (hl:vs.length=k) (hc:o+k<=cs.length) (h1:∀ v∈vs,v.oneCell'=true) (cs':List Value) (kK:cs.take o++vs++cs.drop (o+k)=cs')
 (h:∀ w',aR w' b tb cs'->w.grownBy w' (some b)->SW P n ops (.gd Q) rest L w') : SW P n ops (.gd Q) (⟨none,.store t x y,T,pos,af,none⟩::rest) L w :=
 ⟨fun a ha=>by
  rw [cJ] at hx;have BF:=run_storeCells_at P b o tb vs 0 cs.toArray w hB (by simp only [List.size_toArray];omega) h1;simp only [Nat.add_zero,hl,kK] at BF;simp only [swp,wpList,Region.wanted,if_true];refine .inl ?_;unfold Oper.wp
  have sL:(execOp a.eval ⟨none,.store t x y,T,pos,af,none⟩).run P w = .ok .skip (w.setRow b cs'.toArray):=by
   simp [execOp,ha.eval hx,ha.eval hy,Instr.storeAt,Instr.sureAddr,storeVar,Value.cells,run_sizeOf G.size,hl,BF]
  rw [sL,Oper.upon_skip];obtain ⟨wA,L9⟩:=iC (cs:=cs') hB;exact (h _ wA L9).out _ ha⟩
variable {o':Oper}
section
variable {P:Program} {n:Nat} {ops:Array Oper} {Q:Exit->Act->World->Prop} {fin eB f:Nat} {S2:World->Prop} {listed:Array Bool} {L:Env} {w:World}
def SF.two (i k:Nat) {o:Oper} (hi:ops[i]?=some o) (hk:ops[k]?=some o') (hr:Region.ready .any ops listed=[i,k]) (hw:(!Nat.beq i eB && !Nat.beq i fin)=true) (nl:(!Nat.beq k eB && !Nat.beq k fin)=true)
 (h:SW P n ops (.gd (I6 P n ops Q fin eB S2 f (listed.setIfInBounds i true) w)) [o] L w) (h':SW P n ops (.gd (I6 P n ops Q fin eB S2 f (listed.setIfInBounds k true) w)) [o'] L w) : SF P n ops Q fin eB S2 (f+1) listed L w :=
 ⟨fun a ha inv=>⟨by rw [hr];simp,fun j hj=>by
  have nr:=hj;rw [hr] at nr;simp only [List.mem_cons,List.not_mem_nil,or_false] at nr;rcases nr with rfl|rfl
  ·obtain ⟨n1,n2⟩:=L8 hw;have cx:j<ops.size:=(aeJ.1 hi).1
   refine ⟨cx,rQ (Q1:=I6 P n ops Q fin eB S2 f (listed.setIfInBounds j true) w) hi (fun e a w ne h=>by cases e<;>first|exact h|exact absurd rfl ne) (fun h=>h) (fun a' w' hh=>⟨fun e=>absurd e n1,fun _ e=>absurd e n2,fun _ _=>⟨hh.1,mA f (fun OM G8=>Ext.trans hh.1 G8) _ _ _ (hh.2 (inv.set hj cx))⟩⟩) (h.out a ha)⟩
  ·obtain ⟨n1,n2⟩:=L8 nl;have cx:j<ops.size:=(aeJ.1 hk).1
   refine ⟨cx,rQ (Q1:=I6 P n ops Q fin eB S2 f (listed.setIfInBounds j true) w) hk (fun e a w ne h=>by cases e<;>first|exact h|exact absurd rfl ne) (fun h=>h) (fun a' w' hh=>⟨fun e=>absurd e n1,fun _ e=>absurd e n2,fun _ _=>⟨hh.1,mA f (fun OM G8=>Ext.trans hh.1 G8) _ _ _ (hh.2 (inv.set hj cx))⟩⟩) (h'.out a ha)⟩⟩⟩
end
end Go.Proofs.YtenhkiaaebnggaaGreatDoor
