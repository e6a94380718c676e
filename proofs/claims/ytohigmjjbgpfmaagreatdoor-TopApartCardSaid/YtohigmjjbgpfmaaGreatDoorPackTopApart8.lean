/- Part 8 of what topApart_holds leans on. -/
import Derived.Test.YtohigmjjbgpfmaaGreatDoorPackTopApart7
set_option linter.unusedVariables false
set_option linter.unusedSimpArgs false
set_option linter.defProp false
open Go.Proofs.Tryz
namespace Go.Proofs.YtohigmjjbgpfmaaGreatDoor
open Go.RowKit
variable {n:ByteArray} {a size:Int} {s:ah} {u:ah×Int} {i:Nat} {q:Src}
theorem FZ (hM:aB s) (h:fC s q a) : gj s a true:=by
 have hr:=fu hM h;have hlen:=hM.words;cases q with
 | obj i =>
   have hi:=h.lt;obtain ⟨k,hk⟩:=(Jd hi).1 ((iW hi).1 h);have hC:=(hM.each i hi).may;have ho:=hk.obj;obtain ⟨r1,r2⟩:=mw hC.lay ho
   have hm:(a-(s.aa[i].ab[k]'hk.hk).At*16) % s.aa[i].az=0:=by
    unfold il at ho;simp only [Bool.and_eq_true,decide_eq_true_eq] at ho;exact ho.2
   have hF:=hk.find hM;exact gj.py (u:=((i:Int),(k:Int),0)) ⟨hr.1,by omega⟩ (adb hi) (adb hk.hk) (by unfold k9;omega) (by rw [hm,Int.sub_zero];exact hF)
 | pg o =>
   obtain ⟨h1,h2,b,hb,e1,e2⟩:=(ke hM.heap.live).1 h;have hl:=(hM.heap.live.all b hb).1;have hp:=cQ hl.1 hl.2
   have e:Au s.Heap.Live (a / 16)=true:=by
    unfold Au;rw [adq];refine ⟨b,hb,?_⟩;rw [adR,decide_eq_true_eq,decide_eq_true_eq];omega
   have:=gj.bC (s:=s) (a:=a) ⟨hr.1,by omega⟩ (fun c hc x hx cy=>by
    obtain ⟨d,hd,f1,f2⟩:=gI hM hc hx;have:=gH hM.heap hb hd (by rw [f1,e1];exact fun e=>h2 c hc x hx e.symm)
    rw [f1,f2] at this;unfold k9 at cy;omega)
   rw [e] at this;exact this
structure yf (s:ah) : Prop where
 aE:∀ c∈s.aa,c.ab=[]
 live:s.Heap.Live=[]
theorem yf.none (h:yf s) (q:Src) (a:Int) : ¬ fC s q a:=fun hL=>by
 cases q with
 | obj i =>
   have hi:=hL.lt;obtain ⟨x,hx,_⟩:=(iW hi).1 hL;rw [h.aE _ (adb hi)] at hx;cases hx
 | pg o =>
   have:=(fe hL.1).1
   rw [h.live] at this;simp [bP,bE] at this
theorem lI.bare {align:Int} (h:lI s n size align u) (hb:yf s) (h0:u.2=0) : yf u.1:=by
 cases h with
 | bad|form|range|gE|full=>simp at h0
 | @uM i _ _ _ _ hi =>
   refine ⟨fun c hc => ?_,hb.live⟩;rcases (eK hi).1 hc with rfl|⟨j,hj,_,rfl⟩
   ·exact (hb.aE _ (adb hi) : s.aa[i].ab=[])
   ·exact hb.aE _ (adb hj)
 | new =>
   refine ⟨fun c hc => ?_,hb.live⟩;rcases adm.1 hc with hc|hc
   ·exact hb.aE c hc
   ·simp only [List.mem_singleton] at hc;subst hc
    rfl
def lP:List (List ByteArray×Int):=[([fB 1],1),([fB 2],2),([fB 4],4),([fB 8],8),([fB 16],16),([fB 32],32)]
theorem KM {h:Heap} (f:nf h 6 s) : kw s=lP:=by
 unfold kw;rw [f.br,afj];have e:((fun c:aQ=>(c.Names,c.az)) ∘ iX h)=fun i=>([fB (kP i)],kP i):=rfl
 rw [e];decide +kernel
theorem AT (hi:i<s.aa.length) : (kw s)[i]?=some (s.aa[i].Names,s.aa[i].az):=by
 unfold kw;rw [aeM,adi hi]
 rfl
theorem Pv (hI:dM s) (hb:yf s) (hs:kw s=lP) (h:lI s pI 5 1 u) : u.2=0∧kw u.1=lP++[([pI],5)]:=by
 have hl:s.aa.length=6:=by
  have:=congrArg List.length hs
  simpa [kw,lP] using this
 have hz:∀ j (hj:j<s.aa.length),s.aa[j].az≠rQ 5 1:=fun j hj e=>by
  have h1:=AT hj;rw [hs] at h1
  have key:∀ j,j<6->(lP[j]?.map fun p=>decide (p.2=rQ 5 1))=some false
   | 0,_|1,_|2,_|3,_|4,_|5,_=>by decide +kernel
   | j+6,h=>by omega
  have:=key j (by omega)
  rw [h1] at this;simp [e] at this
 have ht:s.aa.any (dQ pI)=false:=by rw [DT,hs];decide +kernel
 have:=h.dq (.new (mq hI.may) ⟨by decide +kernel,.inl rfl⟩ (by omega) ht hz (by omega))
 subst this;refine ⟨rfl,?_⟩;unfold kw at hs ⊢;rw [adG,hs]
 rfl
theorem KN (hI:dM s) (hb:yf s) (hs:kw s=lP++[([pI],5)]) (h:lI s gh 2 2 u) : u.2=0∧kw u.1=iD:=by
 have hl:s.aa.length=7:=by
  have:=congrArg List.length hs
  simpa [kw,lP] using this
 have h1:=AT (s:=s) (i:=1) (by omega);rw [hs] at h1
 have e1:s.aa[1].Names=[fB 2]∧s.aa[1].az=2:=by
  have:(lP++[([pI],5)])[1]?=some ([fB 2],(2:Int)):=by rfl
  rw [this] at h1;injection h1 with h1
  injection h1 with h1 h2
  exact ⟨h1.symm,h2.symm⟩
 have h0:=AT (s:=s) (i:=0) (by omega);rw [hs] at h0
 have e0:s.aa[0].az=1:=by
  have:(lP++[([pI],5)])[0]?=some ([fB 1],(1:Int)):=by rfl
  rw [this] at h0;injection h0 with h0
  injection h0 with h0 h2
  exact h2.symm
 have ht:s.aa.any (dQ gh)=false:=by rw [DT,hs];decide +kernel
 have hz:s.aa[1].az=rQ 2 2:=by rw [e1.2];decide
 have:=h.dq (.uM (i:=1) (mq hI.may) ⟨by decide +kernel,.inr (.inl rfl)⟩ (by omega) ht (by omega) hz (fun j hj WE=>by
  obtain rfl:j=0:=by omega
  rw [e0];decide))
 subst this;refine ⟨rfl,?_⟩;unfold kw at hs ⊢;rw [aew,hs];simp only [dH,e1.1,e1.2];decide +kernel
theorem lI.heap {al:Int} (h:lI s n size al u) (h0:u.2=0) : u.1.Heap=s.Heap:=by
 cases h<;>first|rfl|exact absurd h0 (by decide)
theorem KO (hI:dM s) (hb:yf s) (hs:kw s=iD) : Out s.Heap.bG s [] :=
 ⟨hI,hs,rfl,fun t ht=>(by cases ht),(by simp),fun q a h=>absurd h (hb.none q a)⟩
theorem Ia {b c:Int} (f:nf (H9 a b c) 6 s) : yf s:=by
 refine ⟨fun c hc => ?_,?_⟩
 ·rw [f.br] at hc;obtain ⟨i,_,rfl⟩:=adv.1 hc
  rfl
 ·rw [f.heap];simp [H9,pJ]
structure uE where
 act:cJ
 Of:Int
def kg (t:bT) : List Value:=[.int .i64 t.At,.int .i64 t.az,.int .i64 t.Kind,.string t.Name,.int .i64 t.Word,.bool t.ua]
instance:iy kg 6:=⟨fun _=>rfl,fun r u hu=>by simp [kg] at hu;rcases hu with rfl|rfl|rfl|rfl|rfl|rfl<;>rfl⟩
theorem Uv (r:bT) : ∀ v∈kg r,v.oneCell'=true:=iy.one (enc:=kg) r
def rS (x:uE) : List Value:=[.int .i64 x.act.Kind,.int .i64 x.act.ga,.int .i64 x.act.N,.int .i64 x.act.M,.int .i64 x.act.At,.int .i64 x.act.Flags,.string x.act.Name,.int .i64 x.Of]
instance:iy rS 8:=⟨fun _=>rfl,fun r u hu=>by simp [rS] at hu;rcases hu with rfl|rfl|rfl|rfl|rfl|rfl|rfl|rfl<;>rfl⟩
theorem Uw (r:uE) : ∀ v∈rS r,v.oneCell'=true:=iy.one (enc:=rS) r
def ox (r:da) (a t l:gb) : List Value:=[.slice r.Words.A r.Words.n r.Words.c,.slice r.Heap.bp.A r.Heap.bp.n r.Heap.bp.c,.slice r.Heap.dO.A r.Heap.dO.n r.Heap.dO.c,.int .i64 r.Heap.bG,.slice r.Heap.av.A r.Heap.av.n r.Heap.av.c,.slice r.Heap.Live.A r.Heap.Live.n r.Heap.Live.c,.slice r.aa.A r.aa.n r.aa.c,a.v,t.v,l.v]
def AU (a:cJ) (t:bT) : Prop:=(a.Kind=2∧t.Kind=1)∨(a.Kind=6∧t.Name=a.Name∧t.Name≠⟨#[]⟩)∨((a.Kind=9∨a.Kind=11)∧t.Kind=8)∨a.Kind=13∨a.Kind=14
set_option maxHeartbeats 4000000 in
theorem yg (A:Option Addr) (n c lo:Nat) (l:List bT) (w:World) (hO:Own w lo 50 6 kg A n c l) (i:Nat) (hi:i<n) (hn:n<=1000000000000000000) (dD:lo<=w.heap.size) :
 iO prog 60 [.slice A n c,.int .i64 (i:Int),.int .i64 ((i+1:Nat) : Int)] w fun v w'=>v = .slice A (n-1) c∧Own w' lo 50 6 kg A (n-1) c (l.eraseIdx i)∧w.grownBy w' (aJ A c):=by
 refine dl func60 rfl ntmps60 rfl ?_;have hle:=hO.le;have mH:=hO.len;have hA:=hO.sl.base;have GD:w.grownBy w (aJ A c):=World.grownBy.refl _ _
 repeat' (first|refine Wz ?_|(refine SW.st (s8 (i:=i) (j:=i+1) (k:=n) rfl rfl rfl rfl (by omega) (by omega) (by omega)) rfl ?_))
 all_goals try omega
 have hw:=Ext.refl w;have e0:i+(n-(i+1))=n-1:=by omega
 have el:l.take i++l.drop (i+1)=l.eraseIdx i:=by rw [adM]
 refine CW.any 6 mixed (dk (by kernel_rfl)) rfl fun w1 ai aG => ?_
 obtain ⟨hw,hO⟩:=df ai hw hO;clear ai;refine Wa ?_;refine Wu 2 aG rfl (dn (k:=i) rfl rfl (by omega)) ?_;refine Wa ?_;refine Wu 5 aG rfl (bd (k:=i+1) rfl rfl (by omega) (by omega)) ?_;refine SA.done (by kernel_rfl) ?_;refine SW.u6 (hO.pre (i:=i) (by omega)) (hO.sl.drop (i+1) c (by omega) (by omega)) (by omega) rfl rfl rfl fun w2 bj hg => ?_
 rw [e0,el] at bj;rw [e0];have GF:=(hw.gr (aJ A c));repeat' (first|refine Wz ?_|(refine SW.st (jX (i:=n-1) (j:=n) rfl rfl rfl (by omega) (by omega)) rfl ?_))
 obtain ⟨g,rest,rfl,h1,h2,h3,h4,h5,h6⟩:=bj.opened (by omega);have pf:((l.eraseIdx i).flatMap kg).length=(n-1)*6:=by rw [aW,bj.len]
 refine SW.clear ((n-1)*6) h2 rfl (by rw [adp,pf];omega) (fun h0 => ?_) (by decide) fun w3 cs lT hB qE => ?_
 ·rw [if_neg (by omega)];simp [dc]
 ·have e7:=fb ((l.eraseIdx i).flatMap kg) (rest.take ((n-(n-1))*6)) (rest.drop ((n-(n-1))*6)) cs (by rw [lT];simp;omega) (o:=(n-1)*6) pf.symm;rw [adj (List.flatMap _ _),adh] at e7;rw [e7,adj] at hB;have Ep:=Own.closed (l:=l.eraseIdx i) bj.len hB (by rw [adp,lT];simp;omega) h4 (by omega) h5 h1;rw [<- h6] at qE;have Bf:=bU (bU GF hg (.inl rfl)) qE (.inl rfl);refine Wz ?_;exact ae.bg rfl rfl ⟨_,rfl,rfl,Ep,Bf⟩
set_option maxHeartbeats 8000000 in
theorem NB (b:Nat) (r:da) (p q z:gb) (x:uE) (l:List bT) (w:World) (hb:aS w b 48 (ox r p q z)) (hl:Sl w 6 kg z.A z.n l) (hn:z.n<=1000000) (ho : 0<x.Of∧x.Of<=1000000) :
 bF prog 25 [.pointer (some ⟨b,0,none⟩),.agg (rS x).toArray] w fun v _ => ∃ i:Int,v = .int .i64 i∧(i = -1 ∨ ∃ j:Nat,∃ h:j<l.length,i=(j:Int)∧AU x.act l[j]):=by
 refine aC func25 rfl ntmps25 rfl ?_;refine CW.seq (CW.region (SW.box rfl rfl fun b3 w1 hw cg aq => ?_));have hb:=hb.ext hw;have mH:=hl.len;have hA:=hl.base;refine Wz ?_
 refine CW.loop (fun s:Nat×Option Addr×Nat×Nat×List Int=>[(0,.pointer (some ⟨b,0,none⟩)),(3,.pointer (some ⟨b3,0,none⟩)),(5,.slice s.2.1 s.2.2.1 s.2.2.2.1),(11,.slice z.A z.n z.c),(12,.int .i64 (z.n:Int)),(13,.int .i64 (s.1:Int))])
  (fun s w'=>s.1<=z.n∧s.2.2.1<=s.1∧Ext w w'∧aS w' b 48 (ox r p q z)∧aS w' b3 84 (rS x)∧Own w' w.heap.size 3 1 bw s.2.1 s.2.2.1 s.2.2.2.1 s.2.2.2.2 ∧ ∀ i∈s.2.2.2.2,∃ j:Nat,∃ h:j<l.length,i=(j:Int)∧AU x.act l[j]) (fun s=>z.n-s.1) (0,none,0,0,[])
  ⟨rfl,rfl,rfl,rfl,rfl,rfl,trivial⟩ ⟨ad3 _,ad3 _,hw,hb,aq,Own.fF _ _ _ _ _ _,fun i hi=>by cases hi⟩ ?_
 clear hw hb aq;rintro ⟨j,Y,m,f,ys⟩ w' ⟨hj,hmj,hw,hb,aq,hY,hP⟩
 simp only at hj hmj hY hP ⊢;by_cases nk:j<z.n
 ·have rK:j<l.length:=by omega
  repeat' (first|refine Wz ?_|refine Wo hw ((hl.all nk)) ?_)
  refine SW.alloc rfl fun b7 w1 ai iI bf => ?_
  refine Wz ?_;refine SW.ag bf rfl rfl rfl rfl (Uv l[j]) fun w2 bq hg => ?_
  have ak:=ai.own iI hg;have gf:=hw.up iI
  obtain ⟨hw,hb,aq,hY⟩:=dv ak hw hb aq hY;have bf:=bq;clear bq ai hg ak;obtain ⟨t,ht⟩ : ∃ t,l[j]=t:=⟨_,rfl⟩;rw [ht] at bf;repeat' (first|refine Wz ?_|(refine CW.uP rfl (fun h => ?_) (fun h => ?_))|refine SW.gi rfl rfl rfl (fun h => ?_) (fun h => ?_)|(refine SW.st (mO rfl rfl) rfl ?_)|(refine SW.st (wm rfl rfl) rfl ?_))
  all_goals try exact ae.again (j+1,Y,m,f,ys) ⟨rfl,rfl,rfl,rfl,rfl,rfl,trivial⟩ (by simp only;omega) ⟨by simp only;omega,by simp only;omega,hw,hb,aq,hY,hP⟩
  all_goals
   have hp:AU x.act t:=by
    first
     | exact .inl ⟨by assumption,by assumption⟩
     | exact .inr (.inl ⟨by assumption,by assumption,by assumption⟩)
     | exact .inr (.inr (.inl ⟨by omega,by assumption⟩))
     | exact .inr (.inr (.inr (by omega)))
   refine SW.dI rfl rfl rfl rfl rfl fun vF w9 tB lM bZ => ?_
   (obtain ⟨hw,hb,aq,hY⟩:=dv tB hw hb aq hY);clear tB;refine SW.append hY (aS.ue (enc:=bw) (x:=(j:Int)) bZ) hw.size rfl rfl rfl (by omega) (by omega) fun Y2 f2 pE xK hg => ?_
   have hG:=hY.gr hg;have hw:=aD hw hg (adg _) hY.a9;(obtain ⟨hb,aq⟩:=df hG hb aq);clear hY hg hG bZ;refine Wz ?_
   exact ae.again (j+1,Y2,m+1,f2,ys++[(j:Int)]) ⟨rfl,rfl,rfl,rfl,rfl,rfl,trivial⟩ (by simp only;omega) ⟨by simp only;omega,by simp only;omega,hw,hb,aq,xK,fun i hi=>by
    rcases adm.1 hi with hi|hi
    ·exact hP i hi
    ·simp only [List.mem_singleton] at hi;exact ⟨j,rK,hi,by rw [ht];exact hp⟩⟩
 ·have hym:=hY.len;have hYA:=hY.sl.base;by_cases Eh:m=0
  ·subst Eh;refine Wz ?_;exact ae.bg rfl rfl ⟨_,rfl,hw,_,rfl,.inl rfl⟩
  ·have hmi:((m:Nat) : Int)≠0:=by omega
   have Bd:∃ k:Nat,x.Of.tmod (m:Int)=(k:Int)∧k<m:=by
    rw [adP (by omega)];have h1:=afp x.Of hmi;have h2:=ae4 x.Of (show (0:Int)<m by omega);obtain ⟨k,hk⟩:=adn h1;exact ⟨k,hk,by omega⟩
   obtain ⟨k,hk,BD⟩:=Bd;repeat' (first|refine Wz ?_|refine SW.st (cf (k) rfl rfl (by assumption) (by omega) (by omega)) rfl ?_|refine Wl (hY.sl.one BD (congrArg bw (rfl:ys[k]=ys[k]))) ?_)
   exact ae.bg rfl rfl ⟨_,rfl,hw,_,rfl,.inr (hP _ (adb (by omega)))⟩
variable {s0:ah} {j:Nat}
inductive rv (cpus:Int) : uE->Prop
 | fj {c n:Int} (hn : 1<=n∧n<=140) : rv cpus ⟨⟨8,c,n,0,0,0,⟨#[]⟩⟩,0⟩
 | ko {c o:Int} (ho : 1<=o∧o<=9) : rv cpus ⟨⟨9,c,0,0,0,0,⟨#[]⟩⟩,o⟩
 | dV {c n o:Int} (hn : 1<=n∧n<=60) (ho : 1<=o∧o<=9) : rv cpus ⟨⟨11,c,n,0,0,0,⟨#[]⟩⟩,o⟩
 | bC {c n f:Int} (hn : 0<=n∧n<=4) : rv cpus ⟨⟨1,c,n,0,0,f,⟨#[]⟩⟩,0⟩
 | nc {c o:Int} (ho : 1<=o∧o<=9) : rv cpus ⟨⟨2,c,0,0,0,0,⟨#[]⟩⟩,o⟩
 | new {c:Int} {n:ByteArray} (hn:n=pI∨n=gh) : rv cpus ⟨⟨5,c,0,0,0,0,n⟩,0⟩
 | drop {c o:Int} {n:ByteArray} (hn:n=pI∨n=gh) (ho : 1<=o∧o<=9) : rv cpus ⟨⟨6,c,0,0,0,0,n⟩,o⟩
 | tidy {c k:Int} {n:ByteArray} (hk:k=12∨k=7) (hn:n.size<=8) : rv cpus ⟨⟨k,c,0,0,0,0,n⟩,0⟩
 | bulk {c n:Int} (hn : 1<=n∧n<=30) : rv cpus ⟨⟨15,c,n,0,0,0,pI⟩,0⟩
 | write {c m o:Int} (hm : 0<=m∧m<1000) (ho : 1<=o∧o<=9) : rv cpus ⟨⟨13,c,0,m,0,0,⟨#[]⟩⟩,o⟩
 | read {c o:Int} (ho : 1<=o∧o<=9) : rv cpus ⟨⟨14,c,0,0,0,0,⟨#[]⟩⟩,o⟩
def oy:uE:=⟨⟨3,0,5,1,0,0,pI⟩,0⟩
def ju:uE:=⟨⟨3,0,2,2,0,0,gh⟩,0⟩
def dC (a:cJ) (t:Int) : cJ:=⟨a.Kind,a.ga,a.N,a.M,t,a.Flags,a.Name⟩
inductive qv (a:cJ) (x:kI) (i:Int) (l:List bT) : List bT->Prop
 | k8 (hk:a.Kind=8) : qv a x i l (l++[⟨x.N,a.N,8,⟨#[]⟩,0,false⟩])
 | k1 (hk:a.Kind=1) (hN:(0<=x.N∧x.N<=100000)∧0<=a.N∧a.N<=4) : qv a x i l (l++[⟨x.N*16,16*pw a.N,1,⟨#[]⟩,0,false⟩])
 | k5 (hk:a.Kind=5) (hN:a.Name=pI∨a.Name=gh) : qv a x i l (l++[⟨x.N,ow a.Name,5,a.Name,0,false⟩])
 | Xp (hk:a.Kind=15) (hl:x.L.length<=1000) : qv a x i l (l++x.L.map fun p=>⟨p,5,5,a.Name,0,false⟩)
 | back {j:Nat} (hk:a.Kind=9∨a.Kind=2∨a.Kind=6) (hi:i=(j:Int)) (hj:j<l.length) : qv a x i l (l.eraseIdx j)
 | move {j:Nat} (hk:a.Kind=11) (hi:i=(j:Int)) (hj:j<l.length) : qv a x i l (l.set j ⟨x.N,a.N,l[j].Kind,l[j].Name,l[j].Word,l[j].ua⟩)
 | write {j:Nat} (hk:a.Kind=13) (hi:i=(j:Int)) (hj:j<l.length) : qv a x i l (l.set j ⟨l[j].At,l[j].az,l[j].Kind,l[j].Name,a.M,true⟩)
 | none (hk:a.Kind=3∨a.Kind=7∨a.Kind=12∨a.Kind=14) : qv a x i l l
theorem qv.len {a:cJ} {x:kI} {i:Int} {l l':List bT} (h:qv a x i l l') : l'.length<=l.length+1000:=by
 cases h with
 | back=>have:=aez l ‹Nat›;omega
 | move|write=>simp
 | none=>omega
 | Xp=>simp only [List.length_append,List.length_map];omega
 | k8|k1|k5=>simp
inductive Ph (s0:ah) : Nat->ah->List bT->Prop
 | p0:Ph s0 0 s0 []
 | p1 {s:ah} (hc:s.Heap.bG=s0.Heap.bG) (hI:dM s) (hb:yf s) (hs:kw s=lP++[([pI],5)]) : Ph s0 1 s []
 | go {j:Nat} {s:ah} {l:List bT} (h : 2<=j) (ho:Out s0.Heap.bG s l) : Ph s0 j s l
def kx:List Int:=[8,11,5,3,6,9,7,1,2,12,15]
structure pK (s0:ah) (j:Nat) (s:ah) (l:List bT) (a:cJ) (i:Int) : Prop where
 kinds:a.Kind∈kx∨a.Kind=13∨a.Kind=14
 at_ : -100000<=a.At∧a.At<=100000
 name:a.Name.size<=8
 nc:a.Kind=2->(0<=a.At∧a.At<256)∧dj s (a.At*16)=true
 word:a.Kind=13∨a.Kind=14->gj s a.At true
 room:a.Kind=13->rm a.M
 out:∀ u,cx s a u->u.2.Code=0 -> ∃ l',qv a u.2 i l l'∧Ph s0 (j+1) u.1 l'
 fail:∀ u,cx s a u->u.2.Code≠0->Ph s0 (j+1) u.1 l
theorem pK.of {l:List bT} {a:cJ} {i:Int} (hk:a.Kind∈kx) (h2:a.Kind≠2) (lg : -100000<=a.At∧a.At<=100000) (hn:a.Name.size<=8) (ho:∀ u,cx s a u->u.2.Code=0 -> ∃ l',qv a u.2 i l l'∧Ph s0 (j+1) u.1 l') (hf:∀ u,cx s a u->u.2.Code≠0->Ph s0 (j+1) u.1 l) : pK s0 j s l a i:=by
 have h13:a.Kind≠13∧a.Kind≠14:=by
  simp only [kx,List.mem_cons,List.not_mem_nil,or_false] at hk;omega
 exact ⟨.inl hk,lg,hn,fun h=>absurd h h2,fun h=>by omega,fun h=>absurd h h13.1,ho,hf⟩
theorem F0:(⟨#[]⟩ : ByteArray).size<=8:=by decide
theorem vQ:pI.size<=8∧gh.size<=8:=by decide
theorem NC (hI:dM s) (hb:yf s) (hs:kw s=lP) : pK s 0 s [] oy.act (-1):=by
 have key:∀ u,cx s oy.act u->u.2.Code=0∧Ph s 1 u.1 []:=fun u hu=>by
  obtain ⟨v,hv,rfl⟩:=hu.YZ rfl;obtain ⟨h0,h1⟩:=Pv hI hb hs hv;simp only;rw [ov h0];exact ⟨h0,.p1 (by rw [hv.heap h0]) (hv.jT hI h0).1 (hv.bare hb h0) h1⟩
 exact .of (by simp [oy,kx]) (by simp [oy]) (by simp [oy]) vQ.1 (fun u hu h0=>⟨[],.none (.inl rfl),(key u hu).2⟩) (fun u hu h0=>absurd (key u hu).1 h0)
theorem ND (hc:s.Heap.bG=s0.Heap.bG) (hI:dM s) (hb:yf s) (hs:kw s=lP++[([pI],5)]) : pK s0 1 s [] ju.act (-1):=by
 have key:∀ u,cx s ju.act u->u.2.Code=0∧Ph s0 2 u.1 []:=fun u hu=>by
  obtain ⟨v,hv,rfl⟩:=hu.YZ rfl;obtain ⟨h0,h1⟩:=KN hI hb hs hv;simp only;rw [ov h0];have ho:=KO (hv.jT hI h0).1 (hv.bare hb h0) h1;rw [hv.heap h0,hc] at ho;exact ⟨h0,.go (adg _) ho⟩
 exact .of (by simp [ju,kx]) (by simp [ju]) (by simp [ju]) vQ.2 (fun u hu h0=>⟨[],.none (.inl rfl),(key u hu).2⟩) (fun u hu h0=>absurd (key u hu).1 h0)
section
variable {s0 s:ah} {l:List bT} {j:Nat} {cpus:Int}
theorem lQ (hj : 2<=j) (h:Out s0.Heap.bG s l) {a:cJ}:∀ u,cx s a u->u.2.Code≠0->Ph s0 (j+1) u.1 l:=fun u hu h0=>by
 rw [hu.fail h0];exact .go (by omega) h
theorem NE (hj : 2<=j) (h:Out s0.Heap.bG s l) {x:uE} (hx:rv cpus x) (h0 : ¬ 0<x.Of) : pK s0 j s l x.act (-1):=by
 cases hx with
 | ko ho|dV _ ho|nc ho|drop _ ho|write _ ho|read ho=>exact absurd (show (0:Int)<_ by simp only;omega) h0
 | fj hn=>exact .of (by simp [kx]) (by simp) (by simp) F0 (fun u hu h0=>⟨_,.k8 rfl,.go (by omega) (vM h rfl hu h0)⟩) (lQ hj h)
 | bC hn =>
   refine .of (by simp [kx]) (by simp) (by simp) F0 (fun u hu h0 => ?_) (lQ hj h);obtain ⟨v,hv,e⟩:=hu.YX rfl
   have h2 : 0<=u.2.N∧u.2.N<=100000:=by
    rw [e] at h0 ⊢;have:=hv.at_ h0
    simp only;omega
   exact ⟨_,.k1 rfl ⟨h2,hn⟩,.go (by omega) (HQ h rfl hu h0)⟩
 | new hn =>
   have hz:=vQ;exact .of (by simp [kx]) (by simp) (by simp) (by rcases hn with rfl|rfl<;>simp [hz]) (fun u hu h0=>⟨_,.k5 rfl hn,.go (by omega) (Ns h rfl hn hu h0)⟩) (lQ hj h)
 | tidy hk hn=>exact .of (by simp only [kx,List.mem_cons];omega) (by simp only;omega) (by simp) hn (fun u hu h0=>⟨_,.none (by simp only;omega),.go (by omega) (CJ h (by simp only;omega) hu)⟩) (lQ hj h)
 | bulk hn =>
   refine .of (by simp [kx]) (by simp) (by simp) vQ.1 (fun u hu h0 => ?_) (lQ hj h);obtain ⟨h1,h2⟩:=KE h rfl rfl hu h0;exact ⟨_,.Xp rfl (by simp only at h2;omega),.go (by omega) h1⟩
def sQ (a:cJ) (t:bT) : Int:=if a.Kind=2 then t.At / 16 else t.At
theorem NF (hj : 2<=j) (h:Out s0.Heap.bG s l) {x:uE} (hx:rv cpus x) (h0 : 0<x.Of) (hi:i<l.length) (hp:AU x.act l[i]) : pK s0 j s l (dC x.act (sQ x.act l[i])) (i:Int):=by
 obtain ⟨q,hq⟩:=h.fits _ (adb hi);have hr:=fu h.sys.may hq.qs;have hw:=FZ h.sys.may hq.qs;cases hx with
 | fj|bC|new|tidy|bulk=>exact absurd h0 (by simp)
 | ko ho =>
   exact .of (by simp [dC,kx]) (by simp [dC]) (by simp [dC,sQ];omega) (by simp [dC];decide) (fun u hu h0=>⟨_,.back (.inl rfl) rfl hi,.go (by omega) (xe h hi (.inl ⟨.inl rfl,by simp [dC,sQ]⟩) hu h0)⟩) (lQ hj h)
 | dV hn ho =>
   have hk:l[i].Kind=8:=by unfold AU at hp;simp only at hp;omega
   exact .of (by simp [dC,kx]) (by simp [dC]) (by simp [dC,sQ];omega) (by simp [dC];decide) (fun u hu h0=>⟨_,.move rfl rfl hi,.go (by omega) (KF h hi rfl hk (by simp [dC,sQ]) hu h0)⟩) (lQ hj h)
 | @nc c o ho =>
   have hk:l[i].Kind=1:=by unfold AU at hp;simp only at hp;omega
   have wA:∃ o,q = .pg o:=by
    rcases hq.kind with ⟨_,h⟩|⟨h,_⟩|⟨h,_⟩
    ·exact h
    ·omega
    ·omega
   obtain ⟨o,rfl⟩:=wA;have h16:=(fe hq.qs.1).2.2;have e:l[i].At / 16*16=l[i].At:=by omega
   have ea:sQ (⟨2,c,0,0,0,0,⟨#[]⟩⟩ : cJ) l[i]=l[i].At / 16:=by simp [sQ]
   have h2:(0<=l[i].At / 16∧l[i].At / 16<256)∧dj s (l[i].At / 16*16)=true:=by
    rw [e];exact ⟨by omega,hq.qs.1⟩
   exact ⟨.inl (by simp [dC,kx]),by simp only [dC,ea];omega,by simp [dC];decide,fun _=>by simp only [dC,ea];exact h2,fun h=>by simp [dC] at h,fun h=>by simp [dC] at h,fun u hu h0=>⟨_,.back (.inr (.inl rfl)) rfl hi,.go (by omega) (xe h hi (.inr ⟨rfl,by simp only [dC,ea];exact e⟩) hu h0)⟩,lQ hj h⟩
 | drop hn ho =>
   have hz:=vQ;exact .of (by simp [dC,kx]) (by simp [dC]) (by simp [dC,sQ];omega) (by rcases hn with rfl|rfl<;>simp [dC,hz]) (fun u hu h0=>⟨_,.back (.inr (.inr rfl)) rfl hi,.go (by omega) (xe h hi (.inl ⟨.inr rfl,by simp [dC,sQ]⟩) hu h0)⟩) (lQ hj h)
 | write hm ho =>
   exact ⟨.inr (.inl rfl),by simp [dC,sQ];omega,by simp [dC];decide,fun h=>by simp [dC] at h,fun _=>by simpa [dC,sQ] using hw,fun _=>by unfold rm;simp only [dC];omega,fun u hu h0=>⟨_,.write rfl rfl hi,.go (by omega) (HR h hi rfl (by simp [dC,sQ]) hu h0)⟩,lQ hj h⟩
 | read ho =>
   exact ⟨.inr (.inr rfl),by simp [dC,sQ];omega,by simp [dC];decide,fun h=>by simp [dC] at h,fun _=>by simpa [dC,sQ] using hw,fun h=>by simp [dC] at h,fun u hu h0=>⟨_,.none (.inr (.inr (.inr rfl))),.go (by omega) (CJ h (.inr (.inr rfl)) hu)⟩,lQ hj h⟩
end
set_option maxHeartbeats 4000000 in
theorem NG (r:da) (s:ah) (a:cJ) (lo:Nat) (w:World) (hO:iY w lo r s) (dD:lo<=w.heap.size) (hI:dM s) :
 bF prog 29 [.agg (aP r).toArray,.agg (ew a).toArray] w fun v w' => ∃ u,o6 s a u ∧ ∃ q,v = .tuple #[.agg (aP q).toArray,.int .i64 u.2]∧iY w' lo q u.1:=by
 obtain ⟨k,cpu,n,m,At,fl,nm⟩:=a;have hf:=hI.cK;have hs:=hf.small;have hM:=hI.may;refine aC func29 rfl ntmps29 rfl ?_;refine CW.seq (CW.region (SW.box rfl rfl fun b2 w1 hw fA au => ?_));have l2:=au.lt;refine SW.box rfl rfl fun b3 w2 bt cg aq => ?_
 have gd:=hw.up cg
 (obtain ⟨hw,au⟩:=df bt hw au);clear bt;have l3:=aq.lt;refine SW.alloc rfl fun b4 w2 bt fP aI => ?_
 have eH:=hw.up fP
 (obtain ⟨hw,au,aq⟩:=cn bt hw au aq);clear bt;have NH:b4≠b2:=by omega
 by_cases h1 : 0<=At∧At<256
 ·obtain ⟨Y8,RS⟩:=h1;have h1 : 0<=At∧At<256:=⟨Y8,RS⟩
  repeat' (first|refine Wy ?_|refine Wl (aq.cell (i:=4) (v := .int .i64 At) rfl) ?_|refine Wm ((fun _ _=>au.cell)) ?_)
  refine Wk (tq r s (At*16) _ (hO.rd.ext hw) hs hM (by omega)) fun v w6 Fj hv => ?_
  obtain ⟨ix,rfl,rU⟩:=hv;(obtain ⟨hw,au,aq,aI⟩:=dv Fj hw au aq aI);cases hW:dj s (At*16)
  ·have bj:=hO.ext hw;repeat' (first|refine Wy ?_|(refine CW.gu rfl ?_)|refine Wm ((fun _ _=>au.cell)) ?_)
   refine SW.ag aI rfl rfl rfl rfl (aY r) fun w7 hR hg => ?_
   have hG:=aI.gr hg;have hw:=hw.own eH hg;(have bj:=bj.aK hG rfl);repeat' (first|refine Wy ?_|fail);exact ae.dA rfl rfl rfl hR rfl ⟨_,rfl,hw,_,.no h1 hW,r,rfl,bj⟩
  ·repeat' (first|refine Wy ?_|(refine CW.fY rfl ?_)|refine Wm ((mo au)) ?_|refine Wl (aq.cell (i:=1) (v := .int .i64 cpu) rfl) ?_|refine Wl (aq.cell (i:=4) (v := .int .i64 At) rfl) ?_)
   refine Wk (vr r.Heap s.Heap cpu At _ (hO.rd.heap.ext hw) hs.heap hf.ct (by omega)) fun v w7 jF hv => ?_
   obtain ⟨H,rfl,hH⟩:=hv;have hH:=hH.low (adf dD hw.size);(obtain ⟨hw,au,aq,aI⟩:=dv jF hw au aq aI);have Gp:=fun he=>o6.ok (s:=s) (a:=⟨k,cpu,n,m,At,fl,nm⟩) h1 hW he
   have cX:=fun he=>o6.fault (s:=s) (a:=⟨k,cpu,n,m,At,fl,nm⟩) h1 hW he
   simp only at Gp cX;generalize fh s.Heap cpu At=u at hH Gp cX ⊢
   obtain ⟨e,u1⟩:=u;simp only at hH Gp cX ⊢;by_cases he:e=0
   ·subst he;repeat' (first|refine Wy ?_|fail);have bj:=hO.ext hw;refine SW.alloc rfl fun b8 w1 ai oG bi => ?_
    skip;refine SW.ag bi rfl rfl rfl rfl (dY H) fun w2 tJ hg => ?_
    have ak:=ai.own oG hg;have gG:=hw.up oG
    obtain ⟨hw,au,aq,aI,hH,bj⟩:=gw ak hw au aq aI hH bj;have bi:=tJ;clear tJ ai hg ak;repeat' (first|refine Wy ?_|refine Wm ((fun _ _=>bi.cell)) ?_)
    refine SW.gq 1 au rfl rfl rfl (adJ rfl) (dY H) (aP ⟨r.Words,H,r.aa⟩) rfl fun rI ot hg => ?_
    have hG:=au.gr hg;have aI:=aI.grown hg (by simpa using NH);have hw:=hw.own fA hg;(obtain ⟨hH,bj⟩:=df hG hH bj);repeat' (first|refine Wy ?_|refine Wm ((fun _ _=>ot.cell)) ?_)
    refine SW.ag aI rfl rfl rfl rfl (aY ⟨r.Words,H,r.aa⟩) fun w7 hR hg => ?_
    have hG:=aI.gr hg;have hw:=hw.own eH hg;(obtain ⟨hH,bj⟩:=df hG hH bj);repeat' (first|refine Wy ?_|fail);exact ae.dA rfl rfl rfl hR rfl ⟨_,rfl,hw,_,Gp rfl,⟨r.Words,H,r.aa⟩,rfl,bj.words,hH,bj.br⟩
   ·repeat' (first|refine Wy ?_|fail);have bj:=hO.ext hw;refine SW.alloc rfl fun b8 w1 ai oG bi => ?_
    skip;refine SW.ag bi rfl rfl rfl rfl (dY H) fun w2 tJ hg => ?_
    have ak:=ai.own oG hg;have gG:=hw.up oG
    obtain ⟨hw,au,aq,aI,hH,bj⟩:=gw ak hw au aq aI hH bj;have bi:=tJ;clear tJ ai hg ak;repeat' (first|refine Wy ?_|refine Wm ((fun _ _=>au.cell)) ?_)
    refine SW.ag aI rfl rfl rfl rfl (aY r) fun w7 hR hg => ?_
    have hG:=aI.gr hg;have hw:=hw.own eH hg;(have bj:=bj.aK hG rfl);repeat' (first|refine Wy ?_|fail);exact ae.dA rfl rfl rfl hR rfl ⟨_,rfl,hw,_,cX he,r,rfl,bj⟩
 ·have hc:At<0∨(0<=At∧256<=At):=by omega
  rcases hc with h2|h2
  all_goals repeat' (first|refine Wy ?_|refine Wl (aq.cell (i:=4) (v := .int .i64 At) rfl) ?_|refine Wm ((fun _ _=>au.cell)) ?_)
  all_goals
   have bj:=hO.ext hw;refine SW.ag aI rfl rfl rfl rfl (aY r) fun w7 hR hg => ?_
   have hG:=aI.gr hg;have hw:=hw.own eH hg;(have bj:=bj.aK hG rfl);repeat' (first|refine Wy ?_|fail);exact ae.dA rfl rfl rfl hR rfl ⟨_,rfl,hw,_,.range h1,r,rfl,bj⟩
set_option maxHeartbeats 4000000 in
theorem NI (a:cJ) (hk:a.Kind=1) : jQ dM a:=by
 intro r s lo w hO dD hI hS eG
 obtain ⟨k,cpu,n,m,At,fl,nm⟩:=a
 simp only at hk
 subst hk
 have hf:=hI.cK
 have hs:=hf.small
 have hM:=hI.may
 refine aC func16 rfl ntmps16 rfl ?_
 refine CW.seq (CW.region (SW.box rfl rfl fun b2 w1 hw fA au => ?_))
 have l2:=au.lt
 refine SW.box rfl rfl fun b3 w2 bt cg aq => ?_
 have gd:=hw.up cg
 (obtain ⟨hw,au⟩:=df bt hw au)
 clear bt
 have l3:=aq.lt
 refine SW.alloc rfl fun b4 w2 bt fP aI => ?_
 have eH:=hw.up fP
 (obtain ⟨hw,au,aq⟩:=cn bt hw au aq)
 clear bt
 have l4:=aI.lt
 refine SW.alloc rfl fun b5 w2 bt gx aM => ?_
 have jI:=hw.up gx
 (obtain ⟨hw,au,aq,aI⟩:=dv bt hw au aq aI)
 clear bt
 have l5:=aM.lt
 repeat' (first|(first|refine CW.seq ?_|refine CW.region ?_)|(refine ae.seq ?_)|refine SW.nil ?_|(show SW _ _ _ _ (⟨_,Op.load _ _,_,_,_,none⟩::_) _ _;refine Wm ((fun _ _=>au.cell)) ?_))
 refine SW.alloc rfl fun b6 w1 ai dw ar => ?_
 skip
 refine SW.ag ar rfl rfl rfl rfl (aY r) fun w2 bQ hg => ?_
 have ak:=ai.own dw hg
 have cS:=hw.up dw
 have hw:=hw.trans ak
 have au:=au.ext ak
 have aq:=aq.ext ak
 have aI:=aI.ext ak
 have aM:=aM.ext ak
 have ar:=bQ
 clear bQ ai hg ak
 have l6:=ar.lt
 repeat' (first|(first|refine CW.seq ?_|refine CW.region ?_)|(refine ae.seq ?_)|refine SW.nil ?_|(show SW _ _ _ _ (⟨_,Op.build _ _,_,_,_,none⟩::_) _ _;refine SW.st (fZ rfl rfl) rfl ?_))
 refine SW.alloc rfl fun b7 w1 ai iI bf => ?_
 skip
 refine SW.ag bf rfl rfl rfl rfl (fr ⟨0,0,.nil⟩) fun w2 bq hg => ?_
 have ak:=ai.own iI hg
 have gf:=hw.up iI
 have hw:=hw.trans ak
 have au:=au.ext ak
 have aq:=aq.ext ak
 have aI:=aI.ext ak
 have aM:=aM.ext ak
 have ar:=ar.ext ak
 have bf:=bq
 clear bq ai hg ak
 have xL:b2≠b6:=by omega
 have xM:b4≠b6:=by omega
 have NH:b2≠b4:=by omega
 have ry:b5≠b7:=by omega
 clear l2 l3 l4 l5 l6
 repeat' (first|(first|refine CW.seq ?_|refine CW.region ?_|refine CW.block ?_|refine CW.uQ rfl (by omega) ?_)|(refine ae.seq ?_)|refine SW.nil ?_|refine SW.pure rfl rfl ?_|(show SW _ _ _ _ (⟨_,Op.fieldAddr _ _ _,_,_,_,none⟩::_) _ _;refine SW.st (aA rfl) rfl ?_)|(show SW _ _ _ _ (⟨_,Op.load _ _,_,_,_,none⟩::_) _ _;first|refine Wm ((mo au)) ?_|refine Wl (aq.cell (i:=1) (v := .int .i64 cpu) rfl) ?_|refine Wl (aq.cell (i:=2) (v := .int .i64 n) rfl) ?_|refine Wl (aq.cell (i:=5) (v := .int .i64 fl) rfl) ?_|refine Wl (aq.cell (i:=0) (v := .int .i64 1) rfl) ?_))
 refine Wk (qp r.Heap s.Heap cpu n fl _ (hO.rd.heap.ext hw) hs.heap hf.ct (eG.ext hw)) fun v w7 jF hv => ?_
 obtain ⟨u,hu,H,rfl,hH⟩:=hv
 have hH:=hH.low (adf dD hw.size)
 (obtain ⟨hw,au,aq,aI,aM,ar,bf⟩:=uK jF hw au aq aI aM ar bf)
 clear jF
 have bj:=hO.ext hw
 have hA:=cx.bC (s:=s) (a:=⟨1,cpu,n,m,At,fl,nm⟩) rfl hu
 obtain ⟨u1,N,e⟩:=u
 simp only at hA hH ⊢
 by_cases he:e=0
 ·rw [mZ,if_pos he,he] at hA
  rw [he]
  repeat' (first|refine SW.pure rfl rfl ?_|(show SW _ _ _ _ (⟨_,Op.fieldAddr _ _ _,_,_,_,none⟩::_) _ _;refine SW.st (aA rfl) rfl ?_))
  refine SW.gq 1 ar rfl rfl rfl (adJ rfl) (dY H) (aP ⟨r.Words,H,r.aa⟩) rfl fun rI bQ hg => ?_
  have hG:=ar.gr hg
  have au:=au.grown hg (by simpa using xL)
  have aI:=aI.grown hg (by simpa using xM)
  have hw:=hw.own cS hg
  (obtain ⟨aq,aM,bf,bj,hH⟩:=fD hG aq aM bf bj hH)
  have ar:=bQ
  clear bQ hG hg
  repeat' ((show SW _ _ _ _ (⟨_,Op.fieldAddr _ _ _,_,_,_,none⟩::_) _ _;refine SW.st (aA rfl) rfl ?_))
  refine Wb (i:=1) bf fun ji bq hg => ?_
  have hG:=bf.gr hg
  have aM:=aM.grown hg (by simpa using ry)
  have hw:=hw.own gf hg
  (obtain ⟨au,aq,aI,ar,bj,hH⟩:=gw hG au aq aI ar bj hH)
  have bf:aS _ b7 55 (cb ⟨0,N,.nil⟩):=bq
  clear bq hG hg
  repeat' ((show SW _ _ _ _ (⟨_,Op.fieldAddr _ _ _,_,_,_,none⟩::_) _ _;refine SW.st (aA rfl) rfl ?_))
  refine Wb (i:=0) bf fun ji bq hg => ?_
  have hG:=bf.gr hg
  have aM:=aM.grown hg (by simpa using ry)
  have hw:=hw.own gf hg
  (obtain ⟨au,aq,aI,ar,bj,hH⟩:=gw hG au aq aI ar bj hH)
  have bf:aS _ b7 55 (cb ⟨0,N,.nil⟩):=bq
  clear bq hG hg
  repeat' (first|(first|refine CW.seq ?_|refine CW.region ?_|refine CW.uS rfl (by omega) ?_|refine CW.skip ?_)|(first|refine ae.seq ?_|refine ae.eM ?_)|refine SW.nil ?_|refine SW.pure rfl rfl ?_|(show SW _ _ _ _ (⟨_,Op.fieldAddr _ _ _,_,_,_,none⟩::_) _ _;refine SW.st (aA rfl) rfl ?_)|(show SW _ _ _ _ (⟨_,Op.load _ _,_,_,_,none⟩::_) _ _;refine Wl (bf.cell (i:=0) (v := .int .i64 0) rfl) ?_))
  refine CW.gn 2 3 (fun w2=>aS w2 b7 55 (cb ⟨0,N,.nil⟩)) mixed (by kernel_rfl) fun w1 ai aG => ?_
  obtain ⟨hw,au,aI,aM,ar,bf,bj,hH⟩:=xQ ai hw au aI aM ar bf bj hH;clear ai
  refine Wt 0 [] [] aG rfl (aX rfl rfl ((fun _ _=>ar.cell))) ?_
  refine SF.cr 1 [] aG rfl (by kernel_rfl) (by kernel_rfl) (by kernel_rfl) (aX rfl rfl ((fun _ _=>bf.cell))) (fun w2 hS=>aX rfl rfl ((fun _ _=>hS.cell))) rfl ?_
  refine SF.turn rfl (by kernel_rfl) rfl ?_
  refine SW.ag aI rfl rfl rfl rfl (aY ⟨r.Words,H,r.aa⟩) fun w8 de hg => ?_
  have hG:=aI.gr hg
  have hw:=hw.own eH hg
  (obtain ⟨aM,bf,bj,hH⟩:=dv hG aM bf bj hH)
  have hS:=bf
  refine SW.nil (ae.sg hS ?_)
  refine SG.last rfl (by kernel_rfl) (by kernel_rfl) ?_
  refine SW.ag aM rfl rfl rfl rfl (fr ⟨0,N,.nil⟩) fun w9 eV hg => ?_
  have hG:=aM.gr hg
  have hw:=hw.own jI hg
  (obtain ⟨de,bj,hH⟩:=cn hG de bj hH)
  repeat' (first|(refine CW.ret ?_)|(first|refine ae.seq ?_|refine ae.np ?_)|refine SW.nil ?_)
  exact ae.nr rfl rfl rfl de eV rfl rfl ⟨_,rfl,hw,_,hA,⟨r.Words,H,r.aa⟩,⟨0,N,.nil⟩,rfl,⟨bj.words,hH,bj.br⟩,kv.plain _ _ _ _⟩
 ·rw [mZ,if_neg he] at hA
  repeat' (first|refine SW.pure rfl rfl ?_|(show SW _ _ _ _ (⟨_,Op.fieldAddr _ _ _,_,_,_,none⟩::_) _ _;refine SW.st (aA rfl) rfl ?_))
  refine SW.gq 1 ar rfl rfl rfl (adJ rfl) (dY H) (aP ⟨r.Words,H,r.aa⟩) rfl fun rI bQ hg => ?_
  have hG:=ar.gr hg
  have au:=au.grown hg (by simpa using xL)
  have aI:=aI.grown hg (by simpa using xM)
  have hw:=hw.own cS hg
  (obtain ⟨aq,aM,bf,bj,hH⟩:=fD hG aq aM bf bj hH)
  have ar:=bQ
  clear bQ hG hg
  repeat' ((show SW _ _ _ _ (⟨_,Op.fieldAddr _ _ _,_,_,_,none⟩::_) _ _;refine SW.st (aA rfl) rfl ?_))
  refine Wb (i:=1) bf fun ji bq hg => ?_
  have hG:=bf.gr hg
  have aM:=aM.grown hg (by simpa using ry)
  have hw:=hw.own gf hg
  (obtain ⟨au,aq,aI,ar,bj,hH⟩:=gw hG au aq aI ar bj hH)
  have bf:aS _ b7 55 (cb ⟨0,N,.nil⟩):=bq
  clear bq hG hg
  repeat' ((show SW _ _ _ _ (⟨_,Op.fieldAddr _ _ _,_,_,_,none⟩::_) _ _;refine SW.st (aA rfl) rfl ?_))
  refine Wb (i:=0) bf fun ji bq hg => ?_
  have hG:=bf.gr hg
  have aM:=aM.grown hg (by simpa using ry)
  have hw:=hw.own gf hg
  (obtain ⟨au,aq,aI,ar,bj,hH⟩:=gw hG au aq aI ar bj hH)
  have bf:aS _ b7 55 (cb ⟨e,N,.nil⟩):=bq
  clear bq hG hg
  repeat' (first|(first|refine CW.seq ?_|refine CW.region ?_|refine CW.uR rfl (by omega) ?_)|(first|refine ae.seq ?_|refine ae.eM ?_)|refine SW.nil ?_|refine SW.pure rfl rfl ?_|(show SW _ _ _ _ (⟨_,Op.fieldAddr _ _ _,_,_,_,none⟩::_) _ _;refine SW.st (aA rfl) rfl ?_)|(show SW _ _ _ _ (⟨_,Op.load _ _,_,_,_,none⟩::_) _ _;refine Wl (bf.cell (i:=0) (v := .int .i64 e) rfl) ?_))
  refine CW.gn 2 3 (fun w2=>aS w2 b7 55 (cb ⟨e,N,.nil⟩)) mixed (by kernel_rfl) fun w1 ai aG => ?_
  obtain ⟨hw,au,aI,aM,ar,bf,bj,hH⟩:=xQ ai hw au aI aM ar bf bj hH;clear ai
  refine Wt 0 [] [] aG rfl (aX rfl rfl ((fun _ _=>au.cell))) ?_
  refine SF.cr 1 [] aG rfl (by kernel_rfl) (by kernel_rfl) (by kernel_rfl) (aX rfl rfl ((fun _ _=>bf.cell))) (fun w2 hS=>aX rfl rfl ((fun _ _=>hS.cell))) rfl ?_
  refine SF.turn rfl (by kernel_rfl) rfl ?_
  refine SW.ag aI rfl rfl rfl rfl (aY r) fun w8 de hg => ?_
  have hG:=aI.gr hg
  have hw:=hw.own eH hg
  (obtain ⟨aM,bf,bj,hH⟩:=dv hG aM bf bj hH)
  have hS:=bf
  refine SW.nil (ae.sg hS ?_)
  refine SG.last rfl (by kernel_rfl) (by kernel_rfl) ?_
  refine SW.ag aM rfl rfl rfl rfl (fr ⟨e,N,.nil⟩) fun w9 eV hg => ?_
  have hG:=aM.gr hg
  have hw:=hw.own jI hg
  (obtain ⟨de,bj,hH⟩:=cn hG de bj hH)
  repeat' (first|(refine CW.ret ?_)|(first|refine ae.seq ?_|refine ae.uN ?_|refine ae.np ?_)|refine SW.nil ?_)
  exact ae.nr rfl rfl rfl de eV rfl rfl ⟨_,rfl,hw,_,hA,r,⟨e,N,.nil⟩,rfl,bj,kv.plain _ _ _ _⟩
set_option maxHeartbeats 4000000 in
theorem NJ (a:cJ) (hk:a.Kind=2) : jQ dM a:=by
 intro r s lo w hO dD hI hS eG;obtain ⟨k,cpu,n,m,At,fl,nm⟩:=a;simp only at hk;subst hk;have hf:=hI.cK;have hs:=hf.small;have hM:=hI.may;refine aC func16 rfl ntmps16 rfl ?_;refine CW.seq (CW.region (SW.box rfl rfl fun b2 w1 hw fA au => ?_));have l2:=au.lt;refine SW.box rfl rfl fun b3 w2 bt cg aq => ?_
 have gd:=hw.up cg
 (obtain ⟨hw,au⟩:=df bt hw au);clear bt;have l3:=aq.lt;refine SW.alloc rfl fun b4 w2 bt fP aI => ?_
 have eH:=hw.up fP
 (obtain ⟨hw,au,aq⟩:=cn bt hw au aq);clear bt;have l4:=aI.lt;refine SW.alloc rfl fun b5 w2 bt gx aM => ?_
 have jI:=hw.up gx
 (obtain ⟨hw,au,aq,aI⟩:=dv bt hw au aq aI);clear bt;have l5:=aM.lt;repeat' (first|refine Wy ?_|refine Wm ((fun _ _=>au.cell)) ?_)
 refine SW.alloc rfl fun b6 w1 ai dw ar => ?_
 skip;refine SW.ag ar rfl rfl rfl rfl (aY r) fun w2 bQ hg => ?_
 have ak:=ai.own dw hg;have cS:=hw.up dw
 obtain ⟨hw,au,aq,aI,aM⟩:=fD ak hw au aq aI aM;have ar:=bQ;clear bQ ai hg ak;have l6:=ar.lt;repeat' (first|refine Wy ?_|fail);refine SW.alloc rfl fun b7 w1 ai iI bf => ?_
 skip;refine SW.ag bf rfl rfl rfl rfl (fr ⟨0,0,.nil⟩) fun w2 bq hg => ?_
 have ak:=ai.own iI hg;have gf:=hw.up iI
 obtain ⟨hw,au,aq,aI,aM,ar⟩:=gw ak hw au aq aI aM ar;have bf:=bq;clear bq ai hg ak;have xL:b2≠b6:=by omega
 have xM:b4≠b6:=by omega
 have NH:b2≠b4:=by omega
 have ry:b5≠b7:=by omega
 clear l2 l3 l4 l5 l6;repeat' (first|refine Wy ?_|refine Wm ((fun _ _=>au.cell)) ?_|refine Wm ((fun _ _=>aq.cell)) ?_|refine Wl (aq.cell (i:=0) (v := .int .i64 2) rfl) ?_)
 refine Wk (NG r s ⟨2,cpu,n,m,At,fl,nm⟩ lo _ (hO.ext hw) (adf dD hw.size) hI) fun v w7 jF hv => ?_
 obtain ⟨u,hu,q,rfl,hH⟩:=hv;(obtain ⟨hw,au,aq,aI,aM,ar,bf⟩:=uK jF hw au aq aI aM ar bf);clear jF;have bj:=hO.ext hw;have hA:=cx.nc (s:=s) (a:=⟨2,cpu,n,m,At,fl,nm⟩) rfl hu;obtain ⟨u1,e⟩:=u;simp only at hA hH ⊢;by_cases he:e=0
 ·rw [mZ,if_pos he,he] at hA;rw [he];repeat' (first|refine Wy ?_|fail);refine SW.ag ar rfl rfl rfl rfl (aY q) fun rI bQ hg => ?_
  have hG:=ar.gr hg;have au:=au.grown hg (by simpa using xL);have aI:=aI.grown hg (by simpa using xM);have hw:=hw.own cS hg;(obtain ⟨aq,aM,bf,bj,hH⟩:=fD hG aq aM bf bj hH);have ar:=bQ;clear bQ hG hg;repeat' (first|refine Wy ?_|fail);refine Wb (i:=0) bf fun ji bq hg => ?_
  have hG:=bf.gr hg;have aM:=aM.grown hg (by simpa using ry);have hw:=hw.own gf hg;(obtain ⟨au,aq,aI,ar,bj,hH⟩:=gw hG au aq aI ar bj hH);have bf:aS _ b7 55 (cb ⟨0,0,.nil⟩):=bq;clear bq hG hg;repeat' (first|refine Wy ?_|refine Wl (bf.cell (i:=0) (v := .int .i64 0) rfl) ?_)
  refine CW.gn 2 3 (fun w2=>aS w2 b7 55 (cb ⟨0,0,.nil⟩)) mixed (by kernel_rfl) fun w1 ai aG => ?_
  obtain ⟨hw,au,aI,aM,ar,bf,bj,hH⟩:=xQ ai hw au aI aM ar bf bj hH;clear ai;refine Wt 0 [] [] aG rfl (aX rfl rfl ((fun _ _=>ar.cell))) ?_;refine SF.cr 1 [] aG rfl (by kernel_rfl) (by kernel_rfl) (by kernel_rfl) (aX rfl rfl ((fun _ _=>bf.cell))) (fun w2 hS=>aX rfl rfl ((fun _ _=>hS.cell))) rfl ?_;refine SF.turn rfl (by kernel_rfl) rfl ?_;refine SW.ag aI rfl rfl rfl rfl (aY q) fun w8 de hg => ?_
  have hG:=aI.gr hg;have hw:=hw.own eH hg;(obtain ⟨aM,bf,bj,hH⟩:=dv hG aM bf bj hH);have hS:=bf;refine SW.nil (ae.sg hS ?_);refine SG.last rfl (by kernel_rfl) (by kernel_rfl) ?_;refine SW.ag aM rfl rfl rfl rfl (fr ⟨0,0,.nil⟩) fun w9 eV hg => ?_
  have hG:=aM.gr hg;have hw:=hw.own jI hg;(obtain ⟨de,bj,hH⟩:=cn hG de bj hH);repeat' (first|refine Wy ?_|fail);exact ae.nr rfl rfl rfl de eV rfl rfl ⟨_,rfl,hw,_,hA,q,⟨0,0,.nil⟩,rfl,hH,kv.plain _ _ _ _⟩
 ·rw [mZ,if_neg he] at hA;repeat' (first|refine Wy ?_|fail);refine SW.ag ar rfl rfl rfl rfl (aY q) fun rI bQ hg => ?_
  have hG:=ar.gr hg;have au:=au.grown hg (by simpa using xL);have aI:=aI.grown hg (by simpa using xM);have hw:=hw.own cS hg;(obtain ⟨aq,aM,bf,bj,hH⟩:=fD hG aq aM bf bj hH);have ar:=bQ;clear bQ hG hg;repeat' (first|refine Wy ?_|fail);refine Wb (i:=0) bf fun ji bq hg => ?_
  have hG:=bf.gr hg;have aM:=aM.grown hg (by simpa using ry);have hw:=hw.own gf hg;(obtain ⟨au,aq,aI,ar,bj,hH⟩:=gw hG au aq aI ar bj hH);have bf:aS _ b7 55 (cb ⟨e,0,.nil⟩):=bq;clear bq hG hg;repeat' (first|refine Wy ?_|refine Wl (bf.cell (i:=0) (v := .int .i64 e) rfl) ?_)
  refine CW.gn 2 3 (fun w2=>aS w2 b7 55 (cb ⟨e,0,.nil⟩)) mixed (by kernel_rfl) fun w1 ai aG => ?_
  obtain ⟨hw,au,aI,aM,ar,bf,bj,hH⟩:=xQ ai hw au aI aM ar bf bj hH;clear ai;refine Wt 0 [] [] aG rfl (aX rfl rfl ((fun _ _=>au.cell))) ?_;refine SF.cr 1 [] aG rfl (by kernel_rfl) (by kernel_rfl) (by kernel_rfl) (aX rfl rfl ((fun _ _=>bf.cell))) (fun w2 hS=>aX rfl rfl ((fun _ _=>hS.cell))) rfl ?_;refine SF.turn rfl (by kernel_rfl) rfl ?_;refine SW.ag aI rfl rfl rfl rfl (aY r) fun w8 de hg => ?_
  have hG:=aI.gr hg;have hw:=hw.own eH hg;(obtain ⟨aM,bf,bj,hH⟩:=dv hG aM bf bj hH);have hS:=bf;refine SW.nil (ae.sg hS ?_);refine SG.last rfl (by kernel_rfl) (by kernel_rfl) ?_;refine SW.ag aM rfl rfl rfl rfl (fr ⟨e,0,.nil⟩) fun w9 eV hg => ?_
  have hG:=aM.gr hg;have hw:=hw.own jI hg;(obtain ⟨de,bj,hH⟩:=cn hG de bj hH);repeat' (first|refine Wy ?_|fail);exact ae.nr rfl rfl rfl de eV rfl rfl ⟨_,rfl,hw,_,hA,r,⟨e,0,.nil⟩,rfl,bj,kv.plain _ _ _ _⟩
set_option maxHeartbeats 4000000 in
theorem CT (a:cJ) (hk:a.Kind=12) : jQ dM a:=by
 intro r s lo w hO dD hI hS eG;obtain ⟨k,cpu,n,m,At,fl,nm⟩:=a;simp only at hk;subst hk;have hf:=hI.cK;have hs:=hf.small;have hM:=hI.may;refine aC func16 rfl ntmps16 rfl ?_;refine CW.seq (CW.region (SW.box rfl rfl fun b2 w1 hw fA au => ?_));have l2:=au.lt;refine SW.box rfl rfl fun b3 w2 bt cg aq => ?_
 have gd:=hw.up cg
 (obtain ⟨hw,au⟩:=df bt hw au);clear bt;have l3:=aq.lt;refine SW.alloc rfl fun b4 w2 bt fP aI => ?_
 have eH:=hw.up fP
 (obtain ⟨hw,au,aq⟩:=cn bt hw au aq);clear bt;have l4:=aI.lt;refine SW.alloc rfl fun b5 w2 bt gx aM => ?_
 have jI:=hw.up gx
 (obtain ⟨hw,au,aq,aI⟩:=dv bt hw au aq aI);clear bt;have l5:=aM.lt;repeat' (first|refine Wy ?_|refine Wm ((fun _ _=>au.cell)) ?_)
 refine SW.alloc rfl fun b6 w1 ai dw ar => ?_
 skip;refine SW.ag ar rfl rfl rfl rfl (aY r) fun w2 bQ hg => ?_
 have ak:=ai.own dw hg;have cS:=hw.up dw
 obtain ⟨hw,au,aq,aI,aM⟩:=fD ak hw au aq aI aM;have ar:=bQ;clear bQ ai hg ak;have l6:=ar.lt;repeat' (first|refine Wy ?_|fail);refine SW.alloc rfl fun b7 w1 ai iI bf => ?_
 skip;refine SW.ag bf rfl rfl rfl rfl (fr ⟨0,0,.nil⟩) fun w2 bq hg => ?_
 have ak:=ai.own iI hg;have gf:=hw.up iI
 obtain ⟨hw,au,aq,aI,aM,ar⟩:=gw ak hw au aq aI aM ar;have bf:=bq;clear bq ai hg ak;have xL:b2≠b6:=by omega
 have xM:b4≠b6:=by omega
 have NH:b2≠b4:=by omega
 have ry:b5≠b7:=by omega
 clear l2 l3 l4 l5 l6;repeat' (first|refine Wy ?_|refine Wm ((mo au)) ?_|refine Wl (aq.cell (i:=0) (v := .int .i64 12) rfl) ?_)
 refine Wk (Cr r.Heap s.Heap _ (hO.rd.heap.ext hw) hs.heap hf.ct) fun v w7 jF hv => ?_
 obtain ⟨H,rfl,hH⟩:=hv;have hH:=hH.low (adf dD hw.size);(obtain ⟨hw,au,aq,aI,aM,ar,bf⟩:=uK jF hw au aq aI aM ar bf);clear jF;have bj:=hO.ext hw;have hA:=cx.drain (s:=s) (a:=⟨12,cpu,n,m,At,fl,nm⟩) rfl;generalize k6 s.Heap=u at hA hH ⊢
 obtain ⟨e,u1⟩:=u;simp only at hA hH ⊢;by_cases he:e=0
 ·rw [mZ,if_pos he,he] at hA;rw [he];repeat' (first|refine Wy ?_|fail);refine SW.gq 1 ar rfl rfl rfl (adJ rfl) (dY H) (aP ⟨r.Words,H,r.aa⟩) rfl fun rI bQ hg => ?_
  have hG:=ar.gr hg;have au:=au.grown hg (by simpa using xL);have aI:=aI.grown hg (by simpa using xM);have hw:=hw.own cS hg;(obtain ⟨aq,aM,bf,bj,hH⟩:=fD hG aq aM bf bj hH);have ar:=bQ;clear bQ hG hg;repeat' (first|refine Wy ?_|fail);refine Wb (i:=0) bf fun ji bq hg => ?_
  have hG:=bf.gr hg;have aM:=aM.grown hg (by simpa using ry);have hw:=hw.own gf hg;(obtain ⟨au,aq,aI,ar,bj,hH⟩:=gw hG au aq aI ar bj hH);have bf:aS _ b7 55 (cb ⟨0,0,.nil⟩):=bq;clear bq hG hg;repeat' (first|refine Wy ?_|refine Wl (bf.cell (i:=0) (v := .int .i64 0) rfl) ?_)
  refine CW.gn 2 3 (fun w2=>aS w2 b7 55 (cb ⟨0,0,.nil⟩)) mixed (by kernel_rfl) fun w1 ai aG => ?_
  obtain ⟨hw,au,aI,aM,ar,bf,bj,hH⟩:=xQ ai hw au aI aM ar bf bj hH;clear ai;refine Wt 0 [] [] aG rfl (aX rfl rfl ((fun _ _=>ar.cell))) ?_;refine SF.cr 1 [] aG rfl (by kernel_rfl) (by kernel_rfl) (by kernel_rfl) (aX rfl rfl ((fun _ _=>bf.cell))) (fun w2 hS=>aX rfl rfl ((fun _ _=>hS.cell))) rfl ?_;refine SF.turn rfl (by kernel_rfl) rfl ?_;refine SW.ag aI rfl rfl rfl rfl (aY ⟨r.Words,H,r.aa⟩) fun w8 de hg => ?_
  have hG:=aI.gr hg;have hw:=hw.own eH hg;(obtain ⟨aM,bf,bj,hH⟩:=dv hG aM bf bj hH);have hS:=bf;refine SW.nil (ae.sg hS ?_);refine SG.last rfl (by kernel_rfl) (by kernel_rfl) ?_;refine SW.ag aM rfl rfl rfl rfl (fr ⟨0,0,.nil⟩) fun w9 eV hg => ?_
  have hG:=aM.gr hg;have hw:=hw.own jI hg;(obtain ⟨de,bj,hH⟩:=cn hG de bj hH);repeat' (first|refine Wy ?_|fail);exact ae.nr rfl rfl rfl de eV rfl rfl ⟨_,rfl,hw,_,hA,⟨r.Words,H,r.aa⟩,⟨0,0,.nil⟩,rfl,⟨bj.words,hH,bj.br⟩,kv.plain _ _ _ _⟩
 ·rw [mZ,if_neg he] at hA;repeat' (first|refine Wy ?_|fail);refine SW.gq 1 ar rfl rfl rfl (adJ rfl) (dY H) (aP ⟨r.Words,H,r.aa⟩) rfl fun rI bQ hg => ?_
  have hG:=ar.gr hg;have au:=au.grown hg (by simpa using xL);have aI:=aI.grown hg (by simpa using xM);have hw:=hw.own cS hg;(obtain ⟨aq,aM,bf,bj,hH⟩:=fD hG aq aM bf bj hH);have ar:=bQ;clear bQ hG hg;repeat' (first|refine Wy ?_|fail);refine Wb (i:=0) bf fun ji bq hg => ?_
  have hG:=bf.gr hg;have aM:=aM.grown hg (by simpa using ry);have hw:=hw.own gf hg;(obtain ⟨au,aq,aI,ar,bj,hH⟩:=gw hG au aq aI ar bj hH);have bf:aS _ b7 55 (cb ⟨e,0,.nil⟩):=bq;clear bq hG hg;repeat' (first|refine Wy ?_|refine Wl (bf.cell (i:=0) (v := .int .i64 e) rfl) ?_)
  refine CW.gn 2 3 (fun w2=>aS w2 b7 55 (cb ⟨e,0,.nil⟩)) mixed (by kernel_rfl) fun w1 ai aG => ?_
  obtain ⟨hw,au,aI,aM,ar,bf,bj,hH⟩:=xQ ai hw au aI aM ar bf bj hH;clear ai;refine Wt 0 [] [] aG rfl (aX rfl rfl ((fun _ _=>au.cell))) ?_;refine SF.cr 1 [] aG rfl (by kernel_rfl) (by kernel_rfl) (by kernel_rfl) (aX rfl rfl ((fun _ _=>bf.cell))) (fun w2 hS=>aX rfl rfl ((fun _ _=>hS.cell))) rfl ?_;refine SF.turn rfl (by kernel_rfl) rfl ?_;refine SW.ag aI rfl rfl rfl rfl (aY r) fun w8 de hg => ?_
  have hG:=aI.gr hg;have hw:=hw.own eH hg;(obtain ⟨aM,bf,bj,hH⟩:=dv hG aM bf bj hH);have hS:=bf;refine SW.nil (ae.sg hS ?_);refine SG.last rfl (by kernel_rfl) (by kernel_rfl) ?_;refine SW.ag aM rfl rfl rfl rfl (fr ⟨e,0,.nil⟩) fun w9 eV hg => ?_
  have hG:=aM.gr hg;have hw:=hw.own jI hg;(obtain ⟨de,bj,hH⟩:=cn hG de bj hH);repeat' (first|refine Wy ?_|fail);exact ae.nr rfl rfl rfl de eV rfl rfl ⟨_,rfl,hw,_,hA,r,⟨e,0,.nil⟩,rfl,bj,kv.plain _ _ _ _⟩
set_option maxHeartbeats 4000000 in
theorem tK (A:Option Addr) (n c lo:Nat) (l:List ByteArray) (w:World) (hO:Own w lo 9 1 encStr A n c l) (i:Nat) (hi:i<=n) (x:ByteArray) (b:Nat) (hB:aS w b 9 (encStr x)) (bJ:aJ A c≠some b) (hn:(n+1)*16<=140737488355328) (dD:lo<=w.heap.size) :
 iO prog 52 [.slice A n c,.int .i64 (i:Int),.slice (some ⟨b,0,none⟩) 1 1] w fun v w' => ∃ A' c',v = .slice A' (n+1) c'∧Own w' lo 9 1 encStr A' (n+1) c' (aN l i x)∧w.grownBy w' (aJ A c) ∧ ∀ k,aJ A' c'=some k->aJ A c=some k∨w.heap.size<=k:=by
 refine dl func52 rfl ntmps52 rfl ?_;have hle:=hO.le;have mH:=hO.len;have hA:=hO.sl.base;have hw:=Ext.refl w;have kW:Sl w 1 encStr (some ⟨b,0,none⟩) 1 [x]:=aS.ue hB
 have nW:(encStr x).length=1:=rfl
 have pf:∀ q:List ByteArray,(q.flatMap encStr).length=q.length*1:=fun q=>aW q
 have pe:∀ (q:List ByteArray) (v:Value),v∈q.flatMap encStr->v.oneCell'=true:=fun q v hv=>by
  obtain ⟨u,_,hu⟩:=adx.1 hv;exact iy.one (enc:=encStr) u v hu
 by_cases cy:i=n
 ·subst cy;repeat' (first|refine Wz ?_|(refine SW.st (bd (k:=i) rfl rfl (by omega) (by omega)) rfl ?_))
  all_goals try omega
  refine SW.yF hO kW dD (by omega) rfl rfl rfl (by omega) (by omega) fun A2 c2 w2 xq => ?_
  have j1:Own w2 lo 9 1 encStr A2 (i+1) c2 (l++[x])∧w.grownBy w2 (aJ A c) ∧ ∀ k,aJ A2 c2=some k->aJ A c=some k∨w.heap.size<=k:=by
   rcases xq with ⟨rfl,rfl,h1,h2⟩|⟨h1,h2⟩
   ·exact ⟨h1,h2,fun k e => .inl e⟩
   ·exact ⟨h1.low dD,(aD (Ext.refl w) h2 (adg _) (fun k e=>by cases e)).gr _,fun k e => .inr (h1.a9 k e)⟩
  obtain ⟨bj,hg,kq⟩:=j1;refine Wz ?_;refine ae.bg rfl rfl ⟨_,rfl,A2,c2,rfl,?_,hg,kq⟩;have e:aN l i x=l++[x]:=by unfold aN;rw [adr (by omega),aen (by omega)];simp
  rw [e];exact bj
 ·by_cases ky:n+1<=c
  ·obtain ⟨g,rest,rfl,h1,h2,h3,h4,h5,h6⟩:=hO.opened (by omega);have D7:g≠b:=fun e=>bJ (by rw [h6,e])
   have es:l.flatMap encStr++rest=(l.take i).flatMap encStr++((l.drop i).flatMap encStr++rest):=by rw [<- adj,<- adt,adh]
   have e1:((l.take i).flatMap encStr).length=i*1:=by rw [pf];simp;omega
   have e2:((l.drop i).flatMap encStr).length=(n-i)*1:=by rw [pf];simp [mH]
   have lU:=hO.sl.drop i c (by omega) (by omega);rw [if_neg (by omega)] at lU;rw [es] at h2
   have Jt:∀ w',Ext w w'->(Extern.SlicesOverlaps.overlaps #[89,89] #[4] #[.slice (some ⟨b,0,none⟩) 1 1,.slice (if c=i+1 then (some ⟨g,0,none⟩) else (some (⟨g,0,none⟩ : Addr)).map (·.add ((i+1)*1))) (n+1-(i+1)) (c-(i+1))]).run prog w' = .ok (.bool false) w':=fun w' hx=>by
    rw [if_neg (by omega),aeV,dc];have b1:=hB.ext hx;have b2:=h2.ext hx;unfold aS at b1 b2
    exact Lib.run_overlaps_apart w' 89 4 9 (bz.oz (t:=89)) 1 (fun w0=>run_sizeOf (bz.size (t:=89)) w0) ⟨b,0,none⟩ ⟨g,(i+1)*1,none⟩ 1 1 _ _ (fun e=>D7 e.symm) 9 9 (encStr x).toArray.size ((l.take i).flatMap encStr++((l.drop i).flatMap encStr++rest)).toArray.size
     (by simp only [World.shape?,b1]) (by simp only [World.shape?,b2]) (by simp [e1,e2];omega) (by simp [World.frozen?,b1]) (by simp [World.frozen?,b1])
   repeat' (first|refine Wz ?_|(refine CW.gu rfl ?_)|(refine SW.st (bd (k:=i) rfl rfl (by omega) (by omega)) rfl ?_)|(refine SW.st (dn (k:=n+1) rfl rfl (by omega)) rfl ?_)|(refine SW.st (bd (k:=i+1) rfl rfl (by omega) (by omega)) rfl ?_)|(refine SW.entry func91 (by kernel_rfl) (by kernel_rfl) (by kernel_rfl) (e:=Extern.SlicesOverlaps.overlaps #[89,89] #[4]) (by kernel_rfl) rfl rfl (Jt _ hw) ?_))
   all_goals try omega
   have oD:((n-i)+1)*1<=((l.drop i).flatMap encStr++rest).length:=by rw [adp,e2];omega
   have e4:(l.drop i).flatMap encStr++rest=((l.drop i).flatMap encStr++rest).take 1++(((l.drop i).flatMap encStr++rest).drop 1).take ((n-i)*1)++((l.drop i).flatMap encStr++rest).drop (1+(n-i)*1):=by
    rw [adj,<- aeg,adh,adh]
   generalize GG:((l.drop i).flatMap encStr++rest).take 1=D1 at e4
   generalize GH:(((l.drop i).flatMap encStr++rest).drop 1).take ((n-i)*1)=D2 at e4
   generalize GI:((l.drop i).flatMap encStr++rest).drop (1+(n-i)*1)=D3 at e4
   have f1:D1.length=1:=by rw [<- GG];simp only [List.length_take];omega
   have f2:D2.length=(n-i)*1:=by rw [<- GH];simp only [List.length_take,List.length_drop];omega
   have f3:D3.length+1=rest.length:=by rw [<- GI];simp only [List.length_drop,List.length_append,e2];omega
   rw [e4] at h2;refine CW.any 8 mixed (dk (by kernel_rfl)) rfl fun w1 ai aG => ?_
   obtain ⟨hw,hO,hB,h2⟩:=dv ai hw hO hB h2;clear ai;refine Wa ?_;refine Wu 4 aG rfl (bd (k:=i+1) rfl rfl (by omega) (by omega)) ?_;refine Wa ?_;refine Wu 7 aG rfl (bd (k:=i) rfl rfl (by omega) (by omega)) ?_;refine SA.done (by kernel_rfl) ?_;refine SW.copy (k:=n-i) ((i+1)*1) ((l.drop i).flatMap encStr) h2 rfl rfl rfl (by omega) e2 (by simp only [List.length_append,e1,e2,f1,f2];omega) (fun h0=>⟨by rw [if_neg (by omega)];simp [dc],(⟨g,0,none⟩ : Addr).add (i*1),by rw [if_neg (by omega)];rfl,fun j v hv=>du (by omega) (lU.ext hw) j v hv⟩) (pe _) fun w3 ns qE => ?_
   have g1:=fb ((l.take i).flatMap encStr++D1) D2 D3 ((l.drop i).flatMap encStr) (by rw [e2,f2]) (o:=(i+1)*1) (by rw [adp,e1,f1];omega);have g0:(l.take i).flatMap encStr++(D1++D2++D3)=(l.take i).flatMap encStr++D1++D2++D3:=by simp only [List.append_assoc]
   rw [g0,g1] at ns;have GF:=bU (hw.gr (aJ (some ⟨g,0,none⟩) c)) qE (.inl h6.symm);have QL:=hB.grown qE (by simpa using fun e=>D7 e.symm);repeat' (first|refine Wz ?_|(refine SW.st (bd (k:=i) rfl rfl (by omega) (by omega)) rfl ?_))
   refine SW.copy (k:=1) (i*1) (encStr x) ns rfl rfl rfl (by omega) nW (by simp only [List.length_append,e1,e2,f1,nW];omega) (fun h0=>⟨by rw [if_neg (by omega)];simp [dc],⟨b,0,none⟩,rfl,fun j v hv=>QL.cell hv⟩) (iy.one (enc:=encStr) x) fun w4 nX xO => ?_
   have g2:=fb ((l.take i).flatMap encStr) D1 ((l.drop i).flatMap encStr++D3) (encStr x) (by rw [nW,f1]) (o:=i*1) e1.symm;have g3:(l.take i).flatMap encStr++D1++(l.drop i).flatMap encStr++D3=(l.take i).flatMap encStr++D1++((l.drop i).flatMap encStr++D3):=by simp only [List.append_assoc]
   have g4:(l.take i).flatMap encStr++encStr x++((l.drop i).flatMap encStr++D3)=(aN l i x).flatMap encStr++D3:=by unfold aN;simp only [List.flatMap_append,List.flatMap_cons,List.flatMap_nil,List.append_nil,List.append_assoc]
   rw [g3,g2,g4] at nX;have Eu:=Own.closed (n:=n+1) (c:=c) (l:=aN l i x) (by unfold aN;simp;omega) nX (by omega) ky (by omega) h5 h1;have ee:=bU GF xO (.inl h6.symm);refine Wz ?_;exact ae.bg rfl rfl ⟨_,rfl,_,_,rfl,Eu,ee,fun k e => .inl e⟩
  ·have Si:c=n:=by omega
   have lU:=hO.sl.drop i c (by omega) (by omega);have Bq:=hO.sl.pre (i:=i) (by omega);repeat' (first|refine Wz ?_|(refine SW.st (bd (k:=i) rfl rfl (by omega) (by omega)) rfl ?_)|(refine SW.st (dn (k:=i) rfl rfl (by omega)) rfl ?_))
   all_goals try omega
   refine SW.yu (k:=n+1-i) Bq Tryz.underlying3 rfl rfl (by omega) rfl (by omega) (by omega) (by omega) (by omega) fun g rest c2 w2 bt dE h2 h3 h4 h5 => ?_
   have e1:((l.take i).flatMap encStr).length=i*1:=by rw [pf];simp;omega
   have e2:((l.drop i).flatMap encStr).length=(n-i)*1:=by rw [pf];simp [mH]
   have oD:((n-i)+1)*1<=rest.length:=by omega
   have e4:rest=rest.take 1++(rest.drop 1).take ((n-i)*1)++rest.drop (1+(n-i)*1):=by
    rw [adj,<- aeg,adh,adh]
   generalize GG:rest.take 1=D1 at e4
   generalize GH:(rest.drop 1).take ((n-i)*1)=D2 at e4
   generalize GI:rest.drop (1+(n-i)*1)=D3 at e4
   have f1:D1.length=1:=by rw [<- GG];simp only [List.length_take];omega
   have f2:D2.length=(n-i)*1:=by rw [<- GH];simp only [List.length_take,List.length_drop];omega
   have f3:D3.length+((n-i)+1)*1=rest.length:=by rw [<- GI];simp only [List.length_drop];omega
   rw [e4] at h2;have gm:aJ A c≠some g:=fun e=>by have:=hO.lt_size _ e;omega
   have D7:b≠g:=by have:=hB.lt;omega
   obtain ⟨lU,hB,hw⟩:=cn bt lU hB hw;repeat' (first|refine Wz ?_|(refine SW.st (bd (k:=i) rfl rfl (by omega) (by omega)) rfl ?_))
   refine SW.copy (k:=1) (i*1) (encStr x) h2 rfl rfl rfl (by omega) nW (by simp only [List.length_append,e1,f1,f2,nW];omega) (fun h0=>⟨by rw [if_neg (by omega)];simp [dc],⟨b,0,none⟩,rfl,fun j v hv=>hB.cell hv⟩) (iy.one (enc:=encStr) x) fun w3 ns qE => ?_
   have g2:=fb ((l.take i).flatMap encStr) D1 (D2++D3) (encStr x) (by rw [nW,f1]) (o:=i*1) e1.symm;have g3:(l.take i).flatMap encStr++(D1++D2++D3)=(l.take i).flatMap encStr++D1++(D2++D3):=by simp only [List.append_assoc]
   rw [g3,g2] at ns;have LK:Ext w w3:=hw.own dE qE
   have lz:Sl w3 1 encStr (if c=i then A else A.map (·.add (i*1))) (n-i) (l.drop i):=(hO.sl.drop i c (by omega) (by omega)).ext LK
   have hw:=LK;refine Wz ?_;refine CW.any 8 mixed (dk (by kernel_rfl)) rfl fun w1 ai aG => ?_
   obtain ⟨hw,ns,lz⟩:=cn ai hw ns lz;clear ai;refine Wa ?_;refine Wu 4 aG rfl (bd (k:=i+1) rfl rfl (by omega) (by omega)) ?_;refine Wa ?_;refine Wu 7 aG rfl (bd (k:=i) rfl rfl (by omega) (by omega)) ?_;refine SA.done (by kernel_rfl) ?_;refine SW.copy (k:=n-i) ((i+1)*1) ((l.drop i).flatMap encStr) ns rfl rfl rfl (by omega) e2 (by simp only [List.length_append,e1,e2,f2,nW];omega) (fun h0=>⟨by rw [if_neg (by omega)];simp [dc],(if c=i then A else A.map (·.add (i*1))).getD default,?_,fun j v hv=>du (by omega) lz j v hv⟩) (pe _) fun w4 nX xO => ?_
   ·obtain ⟨a,ha⟩:=adH.1 (lz.base h0);rw [ha];rfl
   ·have g4:=fb ((l.take i).flatMap encStr++encStr x) D2 D3 ((l.drop i).flatMap encStr) (by rw [e2,f2]) (o:=(i+1)*1) (by rw [adp,e1,nW];omega);have g5:(l.take i).flatMap encStr++encStr x++(D2++D3)=(l.take i).flatMap encStr++encStr x++D2++D3:=by simp only [List.append_assoc]
    have g6:(l.take i).flatMap encStr++encStr x++(l.drop i).flatMap encStr++D3=(aN l i x).flatMap encStr++D3:=by unfold aN;simp only [List.flatMap_append,List.flatMap_cons,List.flatMap_nil,List.append_nil,List.append_assoc]
    rw [g5,g4,g6] at nX;have Eu:=Own.closed (n:=n+1) (c:=c2) (lo:=lo) (l:=aN l i x) (by unfold aN;simp;omega) nX (by omega) (by omega) (by omega) h5 (by omega);have kz:Ext w w4:=hw.own dE xO
    have e9:i+(n+1-i)=n+1:=by omega
    refine Wz ?_;rw [e9]
    exact ae.bg rfl rfl ⟨_,rfl,_,_,rfl,Eu,kz.gr _,fun k e => .inr (by
     have:k=g:=by
      unfold aJ at e;split at e
      ·cases e
      ·simpa using e.symm
     omega)⟩
variable {α:Type} {y:Operand} {t ty:TypeId} {p:α -> Bool}
section
variable {P:Program} {L:Env} {w:World} {d:Option Nat} {T:TypeId} {pos:String} {af:Array Edge} {g:Option (Nat×Bool)}
def R0 (a:Int) : Int:=((a.toNat &&& (a-1).toNat:Nat) : Int)
theorem yR {x:Operand} (hx:cT L x=some (.int .i64 a)) (hy:cT L y=some (.int .i64 (a-1))) (h : 1<=a∧a<=8) : St P ⟨d,.binOp .and t x y ty,T,pos,af,g⟩ L w (.int .i64 (R0 a)) :=
 I0 a.toNat (a-1).toNat hx hy (by omega) (by omega) (by omega) (by omega)
end
theorem Pw (h : 1<=a∧a<=8) : R0 a=0↔jL a:=by
 rcases (show a=1∨a=2∨a=3∨a=4∨a=5∨a=6∨a=7∨a=8 by omega) with rfl|rfl|rfl|rfl|rfl|rfl|rfl|rfl<;>unfold jL<;>decide
theorem F1 {l:List α} (h:l.any p=true) : ∃ (i:Nat) (hi:i<l.length),p l[i]=true∧(∀ (j:Nat) (hj:j<l.length),j<i->p l[j]=false)∧idxOf p l=(i:Int):=by
 have h1:l.findIdx p<l.length:=List.findIdx_lt_length_of_exists (by simpa using h)
 exact ⟨l.findIdx p,h1,List.findIdx_getElem (w:=h1),fun j hj ja=>by simpa using List.not_of_lt_findIdx ja,by unfold idxOf;rw [if_pos h]⟩
theorem NK {a b:gb} (h:apart a b∨apart b a) : aJ b.A b.c=none∨aJ b.A b.c≠aJ a.A a.c:=by
 cases e:aJ b.A b.c with
 | none=>exact .inl rfl
 | some g =>
   right;intro e2;rcases h with h|h
   ·exact h g e2.symm e
   ·exact h g e e2.symm
theorem x8.ne {x:gb} {cs:List dS} (h:x8 x cs) (hi:i<cs.length) (hj:j<cs.length) (pk:j≠i) : lJ cs[i] cs[j]∨lJ cs[j] cs[i]:=by
 have hp:=adl.1 h.pair;rcases adL i j with g|g
 ·exact .inl (hp i j hi hj g)
 ·exact .inr (hp j i hj hi (by omega))
theorem KP (x:dS) (b3:Nat) (z:Int) (w:World) (h3:aS w b3 3 [.int .i64 z]) :
 bF prog 50 ([.agg (fQ x).toArray]++[.pointer (some ⟨b3,0,none⟩)]) w fun v _=>v = .bool (decide (x.az=z)):=by
 refine aC func50 rfl ntmps50 rfl ?_;refine CW.seq (CW.region (SW.box rfl rfl fun b1 w1 hw lp aZ => ?_));have h3:=h3.ext hw;have P1:=h3.cell (i:=0) (v := .int .i64 z) rfl;rw [add_zero] at P1;repeat' (first|refine Wz ?_|refine Wl P1 ?_)
 exact ae.bg rfl rfl ⟨_,rfl,hw,rfl⟩
set_option maxHeartbeats 8000000 in
theorem uF (r:da) (s:ah) (n:ByteArray) (size align:Int) (w:World) (hr:Bh w r s) (hf:s.cK) (N8:n.size<=140737488351232) :
 bF prog 23 [.agg (aP r).toArray,.string n,.int .i64 size,.int .i64 align] w fun v w' => ∃ u,lI s n size align u∧iT w.heap.size u v w':=by
 refine aC func23 rfl ntmps23 rfl ?_;have hs:=hf.small;refine CW.seq (CW.region (SW.box rfl rfl fun b4 w1 hw fP aI => ?_));have eH:=fP;refine SW.LD rfl rfl rfl fun b6 w2 bt dw ar => ?_
 have cS:=hw.up dw
 (obtain ⟨hw,aI⟩:=df bt hw aI);refine SW.alloc rfl fun b8 w3 nT oG bi => ?_
 have gG:=hw.up oG
 have Ao:b4≠b8:=by have:=aI.lt;omega
 (obtain ⟨hw,aI,ar⟩:=cn nT hw aI ar)
 have Kn:∀ (w':World) (z:Int),aS w' b6 3 [.int .i64 z]->w'.cell? ⟨b6,0,none⟩=some (.int .i64 z):=fun w' z h=>by
  have:=h.cell (i:=0) (v := .int .i64 z) rfl
  rwa [add_zero] at this
 obtain ⟨q,hq⟩ : ∃ q,fW s=q:=⟨_,rfl⟩
 have c1:∀ w',Ext w w'->bF prog 46 [.agg (aP r).toArray] w' fun v _=>v = .int .i64 (if q then 0 else 8):=fun w' hx=>by
  have:=mr r s w' (hr.ext hx) hf
  rwa [hq] at this
 cases q
 ·simp only [Bool.false_eq_true,if_false] at c1;repeat' (first|refine Wz ?_|(refine Wk (c1 _ hw) ?_;intro v w1 ai hv;subst hv;obtain ⟨hw,aI,bi⟩:=cn ai hw aI bi;clear ai))
  refine SW.ag bi rfl rfl rfl rfl (aY .zero) fun w5 cX hg => ?_
  have hw:=hw.own gG hg;refine Wz ?_;exact ae.dA rfl rfl rfl cX rfl ⟨_,rfl,hw,_,.bad hq,iT.zero 8 _ _⟩
 ·simp only [if_true] at c1;have hM:=iS.1 hq;obtain ⟨p,hp⟩ : ∃ p,gz n=p:=⟨_,rfl⟩
  have c2:∀ w',bF prog 47 [.string n] w' fun v _=>v = .bool p:=fun w'=>by
   have:=EH n w' N8
   rwa [hp] at this
  obtain ⟨gv,Ux⟩ : ∃ gv,R0 align=gv:=⟨_,rfl⟩;have Uu : 1<=align∧align<=8->(gv=0↔jL align):=fun h=>by rw [<- Ux];exact Pw h
  by_cases Kg:p=true∧jL align
  ·obtain ⟨rfl,Kg⟩:=Kg;have Xq:=Kg;unfold jL at Xq;have GD:gv=0:=(Uu (by omega)).2 Kg
   have R1:gz n=true∧jL align:=⟨hp,Kg⟩
   by_cases oD : 1<=size∧size<=64
   ·obtain ⟨t,ht⟩ : ∃ t,s.aa.any (dQ n)=t:=⟨_,rfl⟩;obtain ⟨ix,rU⟩ : ∃ ix,idxOf (dQ n) s.aa=ix:=⟨_,rfl⟩
    have c3:∀ w',Ext w w'->bF prog 48 [.agg (aP r).toArray,.string n] w' fun v _=>v = .tuple #[.int .i64 ix,.bool t]:=fun w' hx=>by
     have:=Ce r s n w' (hr.ext hx) hs
     rwa [ht,rU] at this
    have hu:=IQ Kg oD;have Xr:rQ size align=(size+align-1) / align*align:=rfl
    rw [Xr] at hu;cases t
    ·repeat' (first|refine Wz ?_|(refine CW.fY rfl ?_)|refine SW.want rfl rfl ?_|refine Wl (Kn _ _ ar) ?_|((first|refine Wk (c1 _ hw) ?_|refine Wk (c2 _) ?_|refine Wk (c3 _ hw) ?_);intro v w1 ai hv;subst hv;obtain ⟨hw,aI,ar,bi⟩:=dv ai hw aI ar bi;clear ai)|(refine SW.st ((yR rfl rfl (by omega)).eq (congrArg (Value.int .i64) Ux)) rfl ?_))
     all_goals try omega
     clear c1 c2 c3;refine Wb (i:=0) ar fun w5 bQ hg => ?_
     have hG:=ar.gr hg;have hw:=hw.own cS hg;(obtain ⟨aI,bi⟩:=df hG aI bi);obtain ⟨z,hz⟩ : ∃ z,rQ size align=z:=⟨_,rfl⟩;have ar:aS w5 b6 3 [.int .i64 z]:=by rw [<- hz,Xr];exact bQ
     clear bQ hg hG;have Dx : 1<=z∧z<=64:=by rw [<- hz,Xr];omega
     clear hu;refine Wz ?_;refine Wk (Hk r s _ (hr.ext hw) hs) fun v w6 ak hv => ?_
     obtain ⟨q,zr,rfl,hO⟩:=hv;have hO:=hO.low hw.size;(obtain ⟨hw,aI,ar,bi⟩:=dv ak hw aI ar bi);obtain ⟨hX,hY,hC,xU⟩:=hO;skip;refine SW.ag aI rfl rfl rfl rfl (aY q) fun w7 de hg => ?_
     have hG:=aI.gr hg;have hw:=hw.own eH hg;have bi:=bi.grown hg (by simpa using fun e=>Ao e.symm);(obtain ⟨ar,hX,hY,hC⟩:=dv hG ar hX hY hC);have aI:=de;clear de hg hG;obtain ⟨z1,z2⟩:=hC.rd.len;have m3:=hs.br
     have p9:=mR (p:=fun x:dS=>decide (x.az=z)) (q:=zX z) (l:=zr) (m:=s.aa) (by omega) fun k h1 h2=>by
      have:=(hC.each.get k h1 h2).size
      simp only [zX,this]
     repeat' (first|refine Wz ?_|(refine SW.st (iK (vs:=[.pointer (some ⟨b6,0,none⟩)]) rfl) rfl ?_))
     refine Wk (lF _ _ _ _ _ hC.row.sl _ [.pointer (some ⟨b6,0,none⟩)] (fun x=>decide (x.az=z)) (fun x => .agg (fQ x).toArray) (fun x=>rfl) (fun x hx w1 kW=>KP x b6 z w1 (ar.ext kW)) (by omega)) fun v w8 ak hv => ?_
     subst hv;rw [p9.1];(obtain ⟨hw,aI,ar,bi,hX,hY,hC⟩:=uK ak hw aI ar bi hX hY hC);cases gQ:s.aa.any (zX z)
     ·obtain ⟨hI,_⟩:=jW (p:=zX z) (l:=s.aa) (fun j hj=>by
       have:=ady.1 gQ _ (adb hj)
       simpa using this)
      rw [hI]
      have oH:∀ (j:Nat) (hj:j<s.aa.length),s.aa[j].az≠z:=fun j hj=>by
       have:=ady.1 gQ _ (adb hj)
       simpa [zX] using this
      by_cases h20:s.aa.length=20
      ·refine Wz ?_;refine SW.ag bi rfl rfl rfl rfl (aY .zero) fun w5 cX hg => ?_
       have hw:=hw.own gG hg;refine Wz ?_;exact ae.dA rfl rfl rfl cX rfl ⟨_,rfl,hw,_,.full hq R1 oD ht (by rw [hz];exact oH) h20,iT.zero 9 _ _⟩
      ·have h19:s.aa.length<20:=by
        have:=hM.most
        omega
       obtain ⟨o,per,e,Xs⟩ : ∃ o per e,dp z=(o,per,e):=⟨_,_,_,rfl⟩;have cL:∀ w',bF prog 53 [.int .i64 z] w' fun v _=>v = .tuple #[.int .i64 o,.int .i64 per,.int .i64 e]:=fun w'=>B9 (zA z w') Xs
       have pL:=hM.heap.cpus;have eC:=hY.cpus;repeat' (first|refine Wz ?_|refine Wl (Kn _ _ ar) ?_|(refine Wk (cL _) ?_;intro v w1 ai hv;subst hv;obtain ⟨hw,aI,ar,bi,hX,hY,hC⟩:=uK ai hw aI ar bi hX hY hC;clear ai))
       clear cL;refine SW.dI (vs:=[.string n]) rfl rfl rfl rfl rfl fun bn w9 ak T4 Pf => ?_
       have Xt:=hw.up T4
       (obtain ⟨hw,aI,ar,bi,hX,hY,hC⟩:=uK ak hw aI ar bi hX hY hC);have hN:Own w9 w.heap.size 9 1 encStr (some ⟨bn,0,none⟩) 1 1 [n]:=Own.closed (rest:=[]) rfl Pf rfl (by omega) (by omega) (by simp [maxLen]) Xt
       repeat' (first|refine Wz ?_|refine Wl (Kn _ _ ar) ?_)
       have Xu:Ext w w9:=hw
       refine SW.alloc rfl fun Ib pE Xv sR lu => ?_
       skip;refine SW.ag lu rfl rfl rfl rfl (BV ⟨⟨some ⟨bn,0,none⟩,1,1⟩,z,per,o,.nil,.nil⟩) fun rI AV hg => ?_
       have hw:=Xv.own sR hg;have lu:=AV;clear AV hg;repeat' (first|refine Wz ?_|refine Wn hw (aI.cell (i:=3) (v := .int .i64 q.Heap.bG) rfl) ?_)
       obtain ⟨C,hCp⟩:=adn (show 0<=q.Heap.bG by omega);rw [hCp]
       refine CW.loop (fun t:Nat×Option Addr×Nat=>[(4,.pointer (some ⟨b4,0,none⟩)),(8,.pointer (some ⟨b8,0,none⟩)),(20,.pointer (some ⟨Ib,0,none⟩)),(121,.int .i64 (C:Int)),(122,.int .i64 (t.1:Int))])
        (fun t w'=>t.1<=C∧Ext w9 w'∧aS w' Ib 107 (fQ ⟨⟨some ⟨bn,0,none⟩,1,1⟩,z,per,o,.nil,⟨t.2.1,t.1,t.2.2⟩⟩)∧Own w' w9.heap.size 3 1 bw t.2.1 t.1 t.2.2 (List.replicate t.1 (-1))) (fun t=>C-t.1) (0,none,0)
        ⟨rfl,rfl,rfl,rfl,rfl,trivial⟩ ⟨by omega,hw,lu,Own.fF _ _ _ _ _ _⟩ ?_
       clear hw lu;rintro ⟨k,A,c⟩ ji ⟨hk,hw,lu,hA⟩
       simp only at hk lu hA ⊢;by_cases hkC:k<C
       ·refine Wz ?_;refine SW.dI rfl rfl rfl rfl rfl fun b w1 ak hb hB => ?_
        (obtain ⟨hw,lu,hA⟩:=cn ak hw lu hA);refine SW.append hA (aS.ue (enc:=bw) hB) hw.size rfl rfl rfl (by omega) (by omega) fun A2 c2 w5 lD hg => ?_
        have hG:=hA.gr hg;have hw:=aD hw hg (adg _) hA.a9;(have lu:=lu.aK hG rfl);refine Wz ?_;refine Wb (i:=5) lu fun w6 AV hg => ?_
        have hG:=lu.gr hg;have hw:=hw.own sR hg;(have lD:=lD.aK hG rfl);refine Wz ?_;refine ae.again (k+1,A2,c2) ⟨rfl,rfl,rfl,rfl,rfl,trivial⟩ (by simp only;omega) ⟨by simp only;omega,hw,AV,?_⟩;simp only;rw [List.replicate_succ'];exact lD
       ·obtain rfl:k=C:=by omega
        have hwN:=hw;have hw:=Xu;(obtain ⟨hw,aI,ar,bi,hX,hY,hC,hN⟩:=xQ hwN hw aI ar bi hX hY hC hN);have hA:=hA.low Xu.size;have Uy:w.heap.size<=Ib:=adf Xu.size sR
        refine Wz ?_;refine SW.dI rfl rfl rfl rfl rfl fun b w13 ak hb hB => ?_
        (obtain ⟨hw,aI,bi,hX,hY,hC,hN,hA⟩:=xQ ak hw aI bi hX hY hC hN hA);refine SW.append hC.row (aS.ue (enc:=fQ) (x:=⟨⟨some ⟨bn,0,none⟩,1,1⟩,z,per,o,.nil,⟨A,k,c⟩⟩) hB) hw.size rfl rfl rfl (by omega) (by omega) fun A2 c2 w14 lD hg => ?_
        have hG:=hC.row.gr hg;have hw:=aD hw hg (adg _) hC.row.a9;(obtain ⟨aI,bi,hX,hY,hN,hA⟩:=gw hG aI bi hX hY hN hA);have hE:=hC.each.mono fun _ _ h=>h.aK hG rfl
        refine Wz ?_;refine Wb (i:=6) aI fun w15 de hg => ?_
        have hG:=aI.gr hg;have hw:=hw.own eH hg;have bi:=bi.grown hg (by simpa using fun e=>Ao e.symm);(obtain ⟨hX,hY,hN,hA,lD⟩:=fD hG hX hY hN hA lD);have hE:=hE.mono fun _ _ h=>h.aK hG rfl
        refine Wz ?_;refine SW.ag bi rfl rfl rfl rfl (aY ⟨q.Words,q.Heap,⟨A2,q.aa.n+1,c2⟩⟩) fun w16 cX hg => ?_
        have hG:=bi.gr hg;have hw:=hw.own gG hg;(obtain ⟨hX,hY,hN,hA,lD⟩:=fD hG hX hY hN hA lD);have hE:=hE.mono fun _ _ h=>h.aK hG rfl
        refine Wz ?_;refine ae.dA rfl rfl rfl cX rfl ⟨_,rfl,hw,_,.new hq R1 oD ht (by rw [hz];exact oH) h19,⟨q.Words,q.Heap,⟨A2,q.aa.n+1,c2⟩⟩,rfl,hX,hY,_,lD,?_⟩;rw [hz];refine hE.snoc ⟨rfl,?_,?_,hN,Own.fF _ _ _ _ _ _,?_⟩
        ·simp only [dT,Xs]
        ·simp only [dT,Xs]
        ·have e9:s.Heap.bG.toNat=k:=by omega
         simp only [dT,e9];exact hA
     ·obtain ⟨i,hi,hiz,hib,rU⟩:=F1 gQ;rw [rU];have Xw:s.aa[i].az=z:=by simpa [zX] using hiz
      have cy:i<q.aa.n:=by omega
      have Hx:i<zr.length:=by omega
      have j3:=hC.each.get i Hx hi;have hNi:=(hM.each i hi).names;have Ee:=hC.row.sl.base;have q1:=j3.names.sl.len;have q2:=(hM.each i hi).Cd hM.heap (fun j h=>hM.each j h);have UQ:=vn s.aa[i].Names n;repeat' (first|refine Wz ?_|refine Wl (hC.row.sl.jR cy (j:=0) (u := .slice zr[i].Names.A zr[i].Names.n zr[i].Names.c) rfl) ?_)
      refine Wk (Hi _ _ _ _ n _ j3.names.sl hNi.n9 (by omega)) fun v w9 ak hv => ?_
      obtain ⟨bb,rfl⟩:=hv;(obtain ⟨hw,aI,bi,hX,hY,hC⟩:=gw ak hw aI bi hX hY hC);repeat' (first|refine Wz ?_|refine Wl (hC.row.sl.jR cy (j:=0) (u := .slice zr[i].Names.A zr[i].Names.n zr[i].Names.c) rfl) ?_)
      refine SW.dI (vs:=[.string n]) rfl rfl rfl rfl rfl fun bn pE ak T4 Pf => ?_
      have eX:=(hC.each.get i Hx hi).names.lt_size;have wk:aJ zr[i].Names.A zr[i].Names.c≠some bn:=fun e=>by have:=eX _ e;omega
      (obtain ⟨hw,aI,bi,hX,hY,hC⟩:=gw ak hw aI bi hX hY hC);have hN:=(hC.each.get i Hx hi).names;refine SW.dX rfl rfl (tK _ _ _ w.heap.size s.aa[i].Names _ hN (mQ s.aa[i].Names n) (by omega) n bn Pf wk (by omega) hw.size) fun v rI hv => ?_
      obtain ⟨A2,c2,rfl,bj,hg,kq⟩:=hv;have hG:=hN.gr hg;have hw:=aD hw hg (adg _) hN.a9;have gm:=hC.row.aK hG rfl
      have hE:=gg.setAt (R':=oE rI w.heap.size) (i:=i) hC.each (x:=⟨⟨A2,zr[i].Names.n+1,c2⟩,zr[i].az,zr[i].bL,zr[i].Order,zr[i].ab,zr[i].ap⟩) (y:=dH s.aa[i] n)
       ⟨(hC.each.get i Hx hi).size,(hC.each.get i Hx hi).per,(hC.each.get i Hx hi).order,bj,(hC.each.get i Hx hi).aE.aK hG rfl,(hC.each.get i Hx hi).ba.aK hG rfl⟩
       (fun j h1 h2 ja ho=>⟨ho.size,ho.per,ho.order,ho.names.grown hg (NK ((xU.ne Hx h1 ja).imp (·.names) (·.names))),ho.aE.aK hG rfl,ho.ba.aK hG rfl⟩)
      (obtain ⟨aI,bi,hX,hY⟩:=dv hG aI bi hX hY);clear hC;refine Wz ?_;refine SW.gZ i 0 ⟨⟨A2,zr[i].Names.n+1,c2⟩,zr[i].az,zr[i].bL,zr[i].Order,zr[i].ab,zr[i].ap⟩ gm rfl rfl rfl cy (by decide) rfl rfl fun ji kD uf => ?_
      have yG:=gm.gr uf;have hw:=aD hw uf (adg _) gm.a9;(obtain ⟨aI,bi,hX,hY⟩:=dv yG aI bi hX hY);have hE:=hE.mono fun _ _ h=>h.aK yG rfl
      refine Wz ?_;refine SW.ag bi rfl rfl rfl rfl (aY q) fun w13 cX hg => ?_
      have hG:=bi.gr hg;have hw:=hw.own gG hg;(obtain ⟨hX,hY,kD⟩:=cn hG hX hY kD);have hE:=hE.mono fun _ _ h=>h.aK hG rfl
      refine Wz ?_;refine ae.dA rfl rfl rfl cX rfl ⟨_,rfl,hw,_,.uM hq R1 oD ht hi (by rw [hz];exact Xw) (fun j hj ja => ?_),q,rfl,hX,hY,_,kD,hE⟩;rw [hz];simpa [zX] using hib j hj ja
    ·repeat' (first|refine Wz ?_|(refine CW.gu rfl ?_)|refine SW.want rfl rfl ?_|refine Wl (Kn _ _ ar) ?_|((first|refine Wk (c1 _ hw) ?_|refine Wk (c2 _) ?_|refine Wk (c3 _ hw) ?_);intro v w1 ai hv;subst hv;obtain ⟨hw,aI,ar,bi⟩:=dv ai hw aI ar bi;clear ai)|(refine SW.st ((yR rfl rfl (by omega)).eq (congrArg (Value.int .i64) Ux)) rfl ?_))
     all_goals try omega
     refine SW.ag bi rfl rfl rfl rfl (aY .zero) fun w5 cX hg => ?_
     have hw:=hw.own gG hg;refine Wz ?_;exact ae.dA rfl rfl rfl cX rfl ⟨_,rfl,hw,_,.gE hq R1 oD ht,iT.zero 5 _ _⟩
   ·rcases (show size<1∨(1<=size∧64<size) by omega) with g|g
    all_goals
     repeat' (first|refine Wz ?_|refine SW.want rfl rfl ?_|refine Wl (Kn _ _ ar) ?_|((first|refine Wk (c1 _ hw) ?_|refine Wk (c2 _) ?_);intro v w1 ai hv;subst hv;obtain ⟨hw,aI,ar,bi⟩:=dv ai hw aI ar bi;clear ai)|(refine SW.st ((yR rfl rfl (by omega)).eq (congrArg (Value.int .i64) Ux)) rfl ?_))
     all_goals try omega
     refine SW.ag bi rfl rfl rfl rfl (aY .zero) fun w5 cX hg => ?_
     have hw:=hw.own gG hg;refine Wz ?_;exact ae.dA rfl rfl rfl cX rfl ⟨_,rfl,hw,_,.range hq R1 oD,iT.zero 1 _ _⟩
  ·have R1 : ¬ (gz n=true∧jL align):=by rw [hp];exact Kg
   rcases (show p=false∨(p=true∧align<1)∨(p=true∧1<=align∧8<align)∨(p=true∧(1<=align∧align<=8)∧gv≠0) by
    cases p
    ·exact .inl rfl
    ·right;by_cases a1:align<1
     ·exact .inl ⟨rfl,a1⟩
     ·by_cases a2 : 8<align
      ·exact .inr (.inl ⟨rfl,by omega,a2⟩)
      ·exact .inr (.inr ⟨rfl,by omega,fun h=>Kg ⟨rfl,(Uu (by omega)).1 h⟩⟩)) with rfl|⟨rfl,g⟩|⟨rfl,g⟩|⟨rfl,g,g0⟩
   all_goals
    repeat' (first|refine Wz ?_|refine SW.want rfl rfl ?_|refine SW.skip rfl rfl rfl rfl ?_|((first|refine Wk (c1 _ hw) ?_|refine Wk (c2 _) ?_);intro v w1 ai hv;subst hv;obtain ⟨hw,aI,ar,bi⟩:=dv ai hw aI ar bi;clear ai)|(refine SW.st ((yR rfl rfl (by omega)).eq (congrArg (Value.int .i64) Ux)) rfl ?_))
    all_goals try omega
    refine SW.ag bi rfl rfl rfl rfl (aY .zero) fun w5 cX hg => ?_
    have hw:=hw.own gG hg;refine Wz ?_;exact ae.dA rfl rfl rfl cX rfl ⟨_,rfl,hw,_,.form hq R1,iT.zero 3 _ _⟩
section
variable {P:Program} {n:Nat} {ops:Array Oper} {Q:Exit->Act->World->Prop} {rest:List Oper} {L:Env} {w:World}
end
variable {cpus least:Int} {b d m:Nat} {A B:Option Addr} {w:World}
def fX (A:Option Addr) (n c:Nat) (B:Option Addr) (m d:Nat) (split least cpus:Int) : List Value:=[.slice A n c,.slice B m d,.int .i64 split,.int .i64 least,.int .i64 cpus]
theorem R2 {t:Nat} {n c:Nat} {split:Int} (h:aS w b t (fX A n c B m d split least cpus)) : ∀ j v,(qt A n c B m d)[j]?=some v->w.cell? ((((⟨b,0,none⟩ : Addr)).add 0).add j)=some v:=fun j v hv=>by
 rw [add_add];refine h.cell (i:=0+j) ?_
 match j,hv with
 | 0,hv=>exact hv
 | 1,hv=>exact hv
set_option maxHeartbeats 4000000 in
theorem AW (A:Option Addr) (n c:Nat) (B:Option Addr) (m d:Nat) (x y:List Region) (split least cpus:Int) (w:World) (hx:Sl w 2 jw A n x) (hy:Sl w 2 jw B m y) (hn:n<=9223372036854775807) (hm:m<=9223372036854775807) (Ln : -9223372036854775808<=split∧split<=9223372036854775807) (hS:iC w) :
 bF prog 12 [.agg (fX A n c B m d split least cpus).toArray] w fun v w' => ∃ u,iN (jt 256 x y) split least cpus u∧iT w.heap.size u v w':=by
 refine aC func12 rfl ntmps12 rfl ?_;refine CW.seq (CW.region (SW.box rfl rfl fun b1 w1 hw lp aZ => ?_));refine SW.alloc rfl fun b2 w2 bt fA au => ?_
 have u5:=hw.up fA
 (obtain ⟨hw,aZ⟩:=df bt hw aZ);have hlen:=FV 256 x y;repeat' (first|refine Wz ?_|refine Wm ((R2 aZ)) ?_)
 refine Wk (HU A n c B m d x y 256 rfl _ (hx.ext hw) (hy.ext hw) hn hm) fun v w5 oC hv => ?_
 obtain ⟨o,ho⟩ : ∃ o,jt 256 x y=o:=⟨_,rfl⟩;rw [ho] at hv hlen ⊢;clear ho;obtain ⟨A1,c1,rfl,hO⟩:=hv;have hO:=hO.low hw.size;(obtain ⟨hw,aZ,au⟩:=cn oC hw aZ au);by_cases h0:o.1=0
 ·rw [h0];refine Wz ?_;refine Wk (Nw A1 o.2.length c1 o.2 split least cpus _ hO.sl (by omega) Ln) fun v w6 Fj hv => ?_
  have Qt:=fun h2=>CQ (l:=o.2) (split:=split) (least:=least) (cpus:=cpus) h2
  obtain ⟨e,he⟩ : ∃ e,gL o.2 split least cpus=e:=⟨_,rfl⟩;have Gp:=fun h2=>iN.heap (o:=o) (split:=split) (least:=least) (cpus:=cpus) h0 h2
  have cX:=fun (t:ah) h2 m=>iN.made (o:=o) (split:=split) (least:=least) (cpus:=cpus) (t:=t) h0 h2 m
  rw [he] at hv Qt Gp cX;clear he;obtain ⟨H,rfl,hH⟩:=hv;have hH:=hH.low hw.size;(obtain ⟨hw,aZ,au⟩:=cn Fj hw aZ au);clear hO;by_cases h2:e.1=0
  ·rw [h2];refine Wz ?_;refine SW.alloc rfl fun b6 w1 ai dw ar => ?_
   skip;refine SW.ag ar rfl rfl rfl rfl (dY H) fun w2 bQ hg => ?_
   have ak:=ai.own dw hg;have cS:=hw.up dw
   obtain ⟨hw,aZ,au,hH⟩:=dv ak hw aZ au hH;have ar:=bQ;clear bQ ai hg ak;refine Wz ?_;refine Wk (Ol 256 _) fun v w7 jF hv => ?_
   rw [if_pos ⟨by decide,by decide⟩] at hv;obtain ⟨A2,c2,rfl,hX⟩:=hv;have hX:Own w7 w.heap.size 3 1 bw A2 4096 c2 (List.replicate 4096 0):=hX.low hw.size;(obtain ⟨hw,aZ,au,ar,hH⟩:=fD jF hw aZ au ar hH);refine Wz ?_;have VP:=au.lt;refine SW.alloc rfl fun b9 w1 ai nY bD => ?_
   skip;refine SW.ag bD rfl rfl rfl rfl (aY ⟨⟨A2,4096,c2⟩,H,.nil⟩) fun w2 jS hg => ?_
   have ak:=ai.own nY hg;have se:=hw.up nY
   obtain ⟨hw,aZ,au,ar,hH,hX⟩:=gw ak hw aZ au ar hH hX;have bD:=jS;clear jS ai hg ak;have bJ:b2≠b9:=by omega
   have yM:iY _ w.heap.size ⟨⟨A2,4096,c2⟩,H,.nil⟩ (HX e.2):=⟨hX,hH,⟨[],fw.nil _ _⟩⟩
   clear hX hH aZ ar;repeat' (first|refine Wz ?_|refine Wo hw ((Ct hS)) ?_)
   refine CW.loop (fun s:Nat×da×ah=>[(2,.pointer (some ⟨b2,0,none⟩)),(9,.pointer (some ⟨b9,0,none⟩)),(44,.agg (kL.map (Value.int .i64)).toArray),(45,.int .i64 (s.1:Int))])
    (fun s w'=>s.1<=6∧Ext w w'∧aS w' b2 44 (aP .zero)∧aS w' b9 44 (aP s.2.1)∧iY w' w.heap.size s.2.1 s.2.2∧vN (HX e.2) s.1 s.2.2) (fun s=>6-s.1) (0,⟨⟨A2,4096,c2⟩,H,.nil⟩,HX e.2)
    ⟨rfl,rfl,rfl,rfl,trivial⟩ ⟨by omega,hw,au,bD,yM,.zero⟩ ?_
   clear hw au bD yM;rintro ⟨j,r,s⟩ w' ⟨hj,hw,au,bD,yM,hM⟩
   simp only at hj bD yM hM ⊢;by_cases Qu:j<6
   ·obtain ⟨k1,k2,k3,k4⟩:=MU Qu;have pM:=Cu Qu;have hf:=hM.cK (Qt h2) hj;have kS:=Pa j;obtain ⟨z,hz⟩ : ∃ z,kP j=z:=⟨_,rfl⟩;have hMk:=fun (u:ah×Int) (h:lI s (fB z) z 1 u)=>vN.succ (u:=u) hM (hz ▸ h)
    rw [hz] at k1 k2 k3 k4 pM kS;have N7:(kL.map (Value.int .i64))[j]?=some (.int .i64 z):=by rw [aeM,k2];rfl
    repeat' (first|refine Wz ?_|(refine SW.st (qN j rfl rfl rfl Qu N7) rfl ?_))
    refine CW.gn 8 8 (fun _=>True) mixed (by kernel_rfl) fun w1 ai aG => ?_
    obtain ⟨hw,au,bD,yM⟩:=dv ai hw au bD yM;clear ai;refine Wf ?_;refine SF.one 2 rfl (by kernel_rfl) rfl ?_;refine Wk (wJ z k1 _) fun v w4 ak hv => ?_
    subst hv;(obtain ⟨hw,au,bD,yM⟩:=dv ak hw au bD yM);refine SW.nil (ae.sf ak ?_);refine SF.one 4 rfl (by kernel_rfl) rfl ?_;refine Wk (uF r s (fB z) z 1 _ yM.rd hf pM) fun v w4 ak hv => ?_
    obtain ⟨u,hu,q,rfl,hq⟩:=hv;have hq:=hq.low hw.size;(obtain ⟨hw,au,bD⟩:=cn ak hw au bD);refine SW.nil (ae.sf ak ?_);refine Wf ?_;refine SF.jb 7 aG rfl (by kernel_rfl) (by kernel_rfl) rfl (fun _=>aR rfl) rfl ?_;refine SF.last rfl (by kernel_rfl) (by kernel_rfl) ?_;refine SW.ag bD rfl rfl rfl rfl (aY q) fun w6 jS hg => ?_
    have hG:=bD.gr hg;have au:=au.grown hg (by simpa using bJ);have hw:=hw.own se hg;(have hq:=hq.aK hG rfl);refine Wz ?_;exact ae.again (j+1,q,u.1) ⟨rfl,rfl,rfl,rfl,trivial⟩ (by simp only;omega) ⟨by simp only;omega,hw,au,jS,hq,hMk u hu⟩
   ·obtain rfl:j=6:=by omega
    refine Wz ?_;refine SW.ag au rfl rfl rfl rfl (aY r) fun w6 hR hg => ?_
    have hG:=au.gr hg;have hw:=hw.own u5 hg;(have yM:=yM.aK hG rfl);refine Wz ?_;exact ae.dA rfl rfl rfl hR rfl ⟨_,rfl,hw,_,cX s h2 hM,r,rfl,yM⟩
  ·have hv:=Gp h2;obtain ⟨e1,SK⟩ : ∃ e1,e.1=e1:=⟨_,rfl⟩;rw [SK] at h2 hv ⊢;refine Wz ?_;refine SW.alloc rfl fun b6 w1 ai dw ar => ?_
   skip;refine SW.ag ar rfl rfl rfl rfl (dY H) fun w2 bQ hg => ?_
   have ak:=ai.own dw hg;have cS:=hw.up dw
   obtain ⟨hw,au⟩:=df ak hw au;have ar:=bQ;clear bQ ai hg ak;refine Wz ?_;refine SW.ag au rfl rfl rfl rfl (aY .zero) fun w7 hR hg => ?_
   have hw:=hw.own u5 hg;refine Wz ?_;exact ae.dA rfl rfl rfl hR rfl ⟨_,rfl,hw,_,hv,iT.zero _ _ _⟩
 ·have hv:=iN.RZ (split:=split) (least:=least) (cpus:=cpus) h0;obtain ⟨e1,SK⟩ : ∃ e1,o.1=e1:=⟨_,rfl⟩;rw [SK] at h0 hv ⊢;refine Wz ?_;refine SW.ag au rfl rfl rfl rfl (aY .zero) fun w7 hR hg => ?_
  have hw:=hw.own u5 hg;refine Wz ?_;exact ae.dA rfl rfl rfl hR rfl ⟨_,rfl,hw,_,hv,iT.zero _ _ _⟩
variable {R:Ending->World->Prop} {fn:Func} {cs:List Value} {P:Program}
inductive KQ (o:Int×List Region) (split least cpus:Int) (l:List cJ) : Int×List kI×ah->Prop
 | fault {u:ah×Int} (h:iN o split least cpus u) (he:u.2≠0) : KQ o split least cpus l (u.2,[],.zero)
 | Y9 {u:ah×Int} {xs:List kI} {t:ah} (h:iN o split least cpus u) (he:u.2=0) (hr:kJ u.1 l xs t) : KQ o split least cpus l (0,xs,t)
def R3 (lo:Nat) (o:Int×List kI×ah) (v:Value) (w:World) : Prop := ∃ A n c rs q,v = .tuple #[.slice A n c,.agg (aP q).toArray,.int .i64 o.1]∧iV w lo A n c rs o.2.1∧iY w lo q o.2.2
theorem ae.Ic {n:Nat} {L:Env} {t u q ty tb:Nat} {x y:Value} [c:fE P ty m] (hr:fn.results = #[.tmp u,.cell t ty,.tmp q]) (hx:get L u=some x) (hv:get L t=some (.pointer (some ⟨b,0,none⟩))) (hy:get L q=some y) (hB:aS w b tb cs) (hl:Nat.beq cs.length m=true) (h:R (.returned (.tuple #[x,.agg cs.toArray,y])) w) : ae n (bodyPost P fn R) .ret L w :=
 ⟨fun a ha=>⟨ha.defers,_,by simpa using mI.results (rs:=[.tmp u,.cell t ty,.tmp q]) hr (.tmp hx (.cell c hv hB (adF hl) (.tmp hy .nil))) ha,h⟩⟩
theorem iV.fF (w:World) (lo:Nat) (A:Option Addr) : iV w lo A 0 0 [] []:=⟨Own.fF _ _ _ _ _ _,.nil⟩
structure Uz where
 j:Nat
 A:Option Addr
 c:Nat
 rs:List pH
 xs:List kI
 q:da
 t:ah
set_option maxHeartbeats 4000000 in
theorem rz (I:ah->Prop) (A:Option Addr) (n c:Nat) (B:Option Addr) (m d:Nat) (x y:List Region) (split least cpus:Int) (X:Option Addr) (k e:Nat) (l:List cJ) (w:World) (hx:Sl w 2 jw A n x) (hy:Sl w 2 jw B m y) (hn:n<=9223372036854775807) (hm:m<=9223372036854775807) (Ln : -9223372036854775808<=split∧split<=9223372036854775807) (hS:iC w) (eG:mN w)
 (hl:Sl w 7 ew X k l) (hk:k<=300) (hI:∀ u,iN (jt 256 x y) split least cpus u->u.2=0->I u.1) (hF:∀ s,I s->s.cK) (hG:∀ a∈l,jQ I a) (hP:∀ a∈l,wX I a) :
 bF prog 8 [.agg (fX A n c B m d split least cpus).toArray,.slice X k e] w fun v w' => ∃ o,KQ (jt 256 x y) split least cpus l o∧R3 w.heap.size o v w':=by
 refine aC func8 rfl ntmps8 rfl ?_;refine CW.seq (CW.region (SW.box rfl rfl fun b2 w1 hw fA au => ?_));have mH:=hl.len;have Za:=hl.base;have l2:=au.lt;refine Wz ?_;refine SW.alloc rfl fun b5 w2 bt gx aM => ?_
 have jI:w.heap.size<=b5:=adf hw.size gx
 (replace hw:=Ext.trans hw bt;replace au:=au.ext bt);refine Wz ?_;refine Wk (AW A n c B m d x y split least cpus _ (hx.ext hw) (hy.ext hw) hn hm Ln (hS.ext hw)) fun v w5 oC hv => ?_
 obtain ⟨u,hu,s1,rfl,kn⟩:=hv;replace kn:=kn.low hw.size;(replace hw:=Ext.trans hw oC;replace au:=au.ext oC;replace aM:=aM.ext oC);obtain ⟨u1,u2⟩:=u;simp only at kn ⊢;refine Wz ?_;have l5:=aM.lt;refine SW.alloc rfl fun b7 w1 ai iI bf => ?_
 skip;refine SW.ag bf rfl rfl rfl rfl (aY s1) fun w2 bq hg => ?_
 have ak:=ai.own iI hg;have gf:w.heap.size<=b7:=adf hw.size iI
 replace hw:=Ext.trans hw ak;replace au:=au.ext ak;replace aM:=aM.ext ak;replace kn:=kn.ext ak;replace bf:=bq;clear bq ai hg ak;have ry:b5≠b7:=by omega
 by_cases he:u2=0
 ·have PR:=hI _ hu he;have Zb:=fun xs t h=>KQ.Y9 (l:=l) (xs:=xs) (t:=t) hu he h
  simp only at PR Zb;subst he;refine Wz ?_
  refine CW.loop (fun s:Uz=>[(5,.pointer (some ⟨b5,0,none⟩)),(7,.pointer (some ⟨b7,0,none⟩)),(9,.slice s.A s.j s.c),(26,.slice X k e),(27,.int .i64 (k:Int)),(28,.int .i64 (s.j:Int))])
   (fun s w'=>s.j<=k∧Ext w w'∧aS w' b5 44 (aP .zero)∧aS w' b7 44 (aP s.q)∧iY w' w.heap.size s.q s.t∧iV w' w.heap.size s.A s.j s.c s.rs s.xs∧kJ u1 (l.take s.j) s.xs s.t∧I s.t) (fun s=>k-s.j) ⟨0,none,0,[],[],s1,u1⟩
   ⟨rfl,rfl,rfl,rfl,rfl,rfl,trivial⟩ ⟨ad3 _,hw,aM,bf,kn,iV.fF _ _ _,by rw [List.take_zero];exact .nil _,PR⟩ ?_
  clear hw aM bf kn au;rintro ⟨j,Y,f,rs,xs,q,t⟩ w' ⟨hj,hw,aM,bf,hq,hY,hR,Qp⟩
  simp only at hj bf hq hY hR Qp ⊢;by_cases nk:j<k
  ·have rK:j<l.length:=by omega
   repeat' (first|refine Wz ?_|refine Wo hw ((hl.all nk)) ?_)
   refine SW.alloc rfl fun OB w1 ai sG g9 => ?_
   skip;refine SW.ag g9 rfl rfl rfl rfl (Ql l[j]) fun w2 oN hg => ?_
   have ak:=ai.own sG hg;have Mv:w.heap.size<=OB:=adf hw.size sG
   replace hw:=Ext.trans hw ak;replace aM:=aM.ext ak;replace bf:=bf.ext ak;replace hq:=hq.ext ak;replace hY:=hY.ext ak;replace g9:=oN;clear oN ai hg ak;refine Wz ?_;have l7:=hY.row.lt_size;refine SW.alloc rfl fun vF w2 bt lM bZ => ?_
   have mT:w.heap.size<=vF:=adf hw.size lM
   (replace hw:=Ext.trans hw bt;replace aM:=aM.ext bt;replace bf:=bf.ext bt;replace g9:=g9.ext bt;replace hq:=hq.ext bt;replace hY:=hY.ext bt);clear bt;refine Wz ?_;refine Wk (hG l[j] (adb rK) q t w.heap.size _ hq hw.size Qp (hS.ext hw) (eG.ext hw)) fun v w7 jF hv => ?_
   obtain ⟨o,ho,q',x',rfl,Ob,pN⟩:=hv;(replace hw:=Ext.trans hw jF;replace aM:=aM.ext jF;replace bf:=bf.ext jF;replace g9:=g9.ext jF;replace bZ:=bZ.ext jF;replace hY:=hY.ext jF);clear jF hq;obtain ⟨o1,o2⟩:=o;simp only at Ob pN ⊢;have hIo:=hP l[j] (adb rK) t _ Qp ho;refine Wz ?_;refine SW.ag bf rfl rfl rfl rfl (aY q') fun w8 bq hg => ?_
   have wU:=bf.gr hg;replace aM:=aM.grown hg (by simpa using ry);replace hw:=hw.own gf hg;(replace g9:=g9.aK wU rfl;replace bZ:=bZ.aK wU rfl;replace hY:=hY.aK wU rfl;replace Ob:=Ob.aK wU rfl;replace pN:=pN.aK wU rfl);clear wU hg bf;refine SW.ag bZ rfl rfl rfl rfl (fr x') fun w8 lm hg => ?_
   have wU:=bZ.gr hg;have Zc:iV w8 w.heap.size Y j f rs xs:=⟨hY.row.grown hg (.inr (fun e=>by have:=l7 _ e;omega)),hY.each.mono fun _ _ h=>h.aK wU rfl⟩
   replace hw:=hw.own mT hg;(replace aM:=aM.aK wU rfl;replace bq:=bq.aK wU rfl;replace g9:=g9.aK wU rfl;replace Ob:=Ob.aK wU rfl;replace pN:=pN.aK wU rfl);clear hY wU hg bZ l7 lM;have bf:=bq;have bZ:=lm;have hY:=Zc;clear bq lm Zc;refine Wz ?_;refine SW.dI rfl rfl rfl rfl rfl fun tL w9 tB lR cw => ?_
   (replace hw:=Ext.trans hw tB;replace aM:=aM.ext tB;replace bf:=bf.ext tB;replace Ob:=Ob.ext tB;replace pN:=pN.ext tB;replace hY:=hY.ext tB);clear tB;refine SW.append hY.row (aS.ue (enc:=cb) cw) hw.size rfl rfl rfl (by omega) (by omega) fun Y2 f2 pE xK hg => ?_
   have wU:=hY.row.gr hg;replace hw:=aD hw hg (adg _) hY.row.a9;have hYe:=hY.each.mono fun _ _ h=>h.aK (t:=55) wU rfl
   (replace aM:=aM.aK wU rfl;replace bf:=bf.aK wU rfl;replace Ob:=Ob.aK wU rfl;replace pN:=pN.aK wU rfl);clear wU hg hY;refine Wz ?_;have cX:=kJ.snoc hR ho;rw [<- adk rK] at cX;exact ae.again ⟨j+1,Y2,f2,rs++[x'],xs++[o2],q',o1⟩ ⟨rfl,rfl,rfl,rfl,rfl,rfl,trivial⟩ (by simp only;omega) ⟨by simp only;omega,hw,aM,bf,Ob,⟨xK,hYe.snoc pN⟩,cX,hIo⟩
  ·obtain rfl:j=k:=by omega
   rw [adr (by omega)] at hR;refine Wz ?_;refine Wk (mv q t _ hq.rd (hF t Qp).small) fun v w9 tB hv => ?_
   obtain ⟨p,cs',rfl,NL,_⟩:=hv;have hP:=NL.x9.low hw.size;clear NL;(replace hw:=Ext.trans hw tB;replace aM:=aM.ext tB;replace bf:=bf.ext tB;replace hY:=hY.ext tB);refine Wz ?_;refine SW.ag aM rfl rfl rfl rfl (aY p) fun ji Xx hg => ?_
   have wU:=aM.gr hg;replace hw:=hw.own jI hg;(replace hP:=hP.aK wU rfl;replace hY:=hY.aK wU rfl);refine Wz ?_;exact ae.Ic rfl rfl rfl rfl Xx rfl ⟨_,rfl,hw,_,Zb _ _ hR,Y,j,f,rs,p,rfl,hY,hP⟩
 ·have hv:=KQ.fault (l:=l) hu he;simp only at hv;refine Wz ?_;refine SW.ag aM rfl rfl rfl rfl (aY .zero) fun w7 hR hg => ?_
  replace hw:=hw.own jI hg;refine Wz ?_;exact ae.Ic rfl rfl rfl rfl hR rfl ⟨_,rfl,hw,_,hv,none,0,0,[],.zero,rfl,iV.fF _ _ _,Own.fF _ _ _ _ _ _,jH.zero _ _,⟨[],fw.nil _ _⟩⟩
variable {af:Array Edge} {g:Option (Nat×Bool)} {T:TypeId}
theorem R4 {L:Env} {d:Option Nat} {pos:String} {x:Operand} {i:Int} (hx:cT L x=some (.int .i64 i)) (h1 : -9223372036854775808 <= -i) (h2 : -i<=9223372036854775807) : St P ⟨d,.unOp .neg t x,T,pos,af,g⟩ L w (.int .i64 (-i)) :=
 ⟨fun _ a ha w' _=>by have e1:=ha.eval hx;have:=jl h1 h2;generalize a.eval = ρ at *;simp [go_sem,e1,Op.unary,this]⟩
theorem fv (n m:Int) (w:World) (hn : -9223372036854775808<=n∧n<=9223372036854775807) (hm : 0<m) : bF prog 18 [.int .i64 n,.int .i64 m] w fun v _=>v = .int .i64 (bM n m):=by
 refine aC func18 rfl ntmps18 rfl ?_;have hw:=Ext.refl w;have Eh:m≠0:=by omega
 by_cases h0:n<0
 ·have e:bM n m=(-(n+1)).tmod m:=by unfold bM;rw [if_pos h0]
  rw [e];repeat' (first|refine Wz ?_|(refine SW.st (R4 rfl (by omega) (by omega)) rfl ?_))
  exact ae.bg rfl rfl ⟨_,rfl,hw,rfl⟩
 ·have e:bM n m=n.tmod m:=by unfold bM;rw [if_neg h0]
  rw [e];refine Wz ?_;exact ae.bg rfl rfl ⟨_,rfl,hw,rfl⟩
theorem AX (n m:Int) (w:World) (hn : -9223372036854775808<=n∧n<=9223372036854775807) (hm : 0<m) : bF prog 9 [.int .i64 n,.int .i64 m] w fun v _=>v = .int .i64 (bM n m):=by
 refine aC func9 rfl ntmps9 rfl ?_;have hw:=Ext.refl w;repeat' (first|refine Wz ?_|(refine Wk (fv n m _ hn hm) ?_;intro v w1 ai hv;subst hv;have hw:=hw.trans ai;clear ai))
 exact ae.bg rfl rfl ⟨_,rfl,hw,rfl⟩
theorem vR (A:Option Addr) (n c:Nat) (B:Option Addr) (m d:Nat) (x y z:Int) : ∀ v∈fX A n c B m d x y z,v.oneCell'=true:=fun v hv=>by
 simp only [fX,List.mem_cons,List.not_mem_nil,or_false] at hv;rcases hv with rfl|rfl|rfl|rfl|rfl<;>rfl
set_option maxHeartbeats 4000000 in
theorem AY (a b c:Int) (w:World) (ha : -9223372036854775808<=a∧a<=9223372036854775807) (hb : -9223372036854775808<=b∧b<=9223372036854775807) (hc : -9223372036854775808<=c∧c<=9223372036854775807) :
 bF prog 13 [.int .i64 a,.int .i64 b,.int .i64 c] w fun v w' => ∃ A B,v = .agg (fX A 2 2 B 2 2 (16*bM a 9) (bM b 12) (1+bM c 4)).toArray∧Own w' w.heap.size 82 2 jw A 2 2 (vO a b c)∧Own w' w.heap.size 82 2 jw B 2 2 (vP a b c):=by
 refine aC func13 rfl ntmps13 rfl ?_;refine CW.seq (CW.region (SW.alloc rfl fun b6 w1 hw dw ar => ?_));have cS:=dw;have h1:=cV (n:=a) (m:=20) (by omega);have h2:=cV (n:=b) (m:=60) (by omega);have h3:=cV (n:=c) (m:=10) (by omega);have h4:=cV (n:=a) (m:=90) (by omega);have h5:=cV (n:=c) (m:=30) (by omega);have h6:=cV (n:=a) (m:=7) (by omega);have h7:=cV (n:=b) (m:=9) (by omega);have h8:=cV (n:=c) (m:=5) (by omega);have h9:=cV (n:=a) (m:=9) (by omega);have h10:=cV (n:=b) (m:=12) (by omega);have Y8:=cV (n:=c) (m:=4) (by omega);repeat' (first|refine Wz ?_|((first|refine SW.call rfl rfl (fv a _ _ ha (by decide)) ?_|refine SW.call rfl rfl (fv b _ _ hb (by decide)) ?_|refine SW.call rfl rfl (fv c _ _ hc (by decide)) ?_);intro v w1 ai hv;subst hv;have hw:=hw.trans ai;have ar:=ar.ext ai;clear ai))
 have l6:=ar.lt;refine SW.alloc rfl fun b7 w1 ai iI bf => ?_
 skip;refine SW.ag bf rfl rfl rfl rfl (vR none 0 0 none 0 0 (16*bM a 9) (bM b 12) (1+bM c 4)) fun w2 bq hg => ?_
 have ak:=ai.own iI hg;have gf:=hw.up iI
 have hw:=hw.trans ak;have ar:=ar.ext ak;have bf:=bq;clear bq ai hg ak;have Zd:b6≠b7:=by omega
 clear l6;repeat' (first|refine Wz ?_|((first|refine SW.call rfl rfl (fv a _ _ ha (by decide)) ?_|refine SW.call rfl rfl (fv b _ _ hb (by decide)) ?_|refine SW.call rfl rfl (fv c _ _ hc (by decide)) ?_);intro v w1 ai hv;subst hv;have hw:=hw.trans ai;have ar:=ar.ext ai;have bf:=bf.ext ai;clear ai))
 refine SW.wI (enc:=jw) ⟨bM a 20,40+bM b 60⟩ ⟨130+bM c 10,16+bM a 90⟩ rfl rfl rfl rfl rfl rfl fun g1 w2 bt Xy hA => ?_
 have hA:=hA.low hw.size;(have hw:=hw.trans bt;have ar:=ar.ext bt;have bf:=bf.ext bt);clear bt;refine Wz ?_;refine SW.sb (i:=0) bf rfl rfl rfl rfl fun w3 bq hg => ?_
 have hG:=bf.gr hg;have ar:=ar.grown hg (by simpa using Zd);have hw:=hw.own gf hg;(have hA:=hA.aK hG rfl);have bf:aS _ b7 29 (fX (some ⟨g1,0,none⟩) 2 2 none 0 0 (16*bM a 9) (bM b 12) (1+bM c 4)):=bq;clear hG hg bq;repeat' (first|refine Wz ?_|((first|refine SW.call rfl rfl (fv a _ _ ha (by decide)) ?_|refine SW.call rfl rfl (fv b _ _ hb (by decide)) ?_|refine SW.call rfl rfl (fv c _ _ hc (by decide)) ?_);intro v w1 ai hv;subst hv;have hw:=hw.trans ai;have ar:=ar.ext ai;have bf:=bf.ext ai;have hA:=hA.ext ai;clear ai))
 refine SW.wI (enc:=jw) ⟨bM a 20+bM c 30,1+bM a 7⟩ ⟨150+bM b 9,1+bM c 5⟩ rfl rfl rfl rfl rfl rfl fun g2 w2 bt abo hB => ?_
 have hB:=hB.low hw.size;(have hw:=hw.trans bt;have ar:=ar.ext bt;have bf:=bf.ext bt;have hA:=hA.ext bt);clear bt;refine Wz ?_;refine SW.sb (i:=1) bf rfl rfl rfl rfl fun w3 bq hg => ?_
 have hG:=bf.gr hg;have ar:=ar.grown hg (by simpa using Zd);have hw:=hw.own gf hg;(have hA:=hA.aK hG rfl;have hB:=hB.aK hG rfl);have bf:aS _ b7 29 (fX (some ⟨g1,0,none⟩) 2 2 (some ⟨g2,0,none⟩) 2 2 (16*bM a 9) (bM b 12) (1+bM c 4)):=bq;clear hG hg bq;refine Wz ?_;refine SW.ag ar rfl rfl rfl rfl (vR (some ⟨g1,0,none⟩) 2 2 (some ⟨g2,0,none⟩) 2 2 (16*bM a 9) (bM b 12) (1+bM c 4)) fun w3 hR hg => ?_
 have hG:=ar.gr hg;have hw:=hw.own cS hg;(have hA:=hA.aK hG rfl;have hB:=hB.aK hG rfl);refine Wz ?_;exact ae.En rfl rfl hR rfl ⟨_,rfl,hw,_,_,rfl,hA,hB⟩
theorem CU (a b c:Int) (w:World) (ha : -9223372036854775808<=a∧a<=9223372036854775807) (hb : -9223372036854775808<=b∧b<=9223372036854775807) (hc : -9223372036854775808<=c∧c<=9223372036854775807) :
 bF prog 13 [.int .i64 a,.int .i64 b,.int .i64 c] w fun v w' => ∃ A B,v = .agg (fX A 2 2 B 2 2 (16*bM a 9) (bM b 12) (1+bM c 4)).toArray∧Sl w' 2 jw A 2 (vO a b c)∧Sl w' 2 jw B 2 (vP a b c) :=
 (AY a b c w ha hb hc).mono fun v w' _ ⟨A,B,e,hA,hB⟩=>⟨A,B,e,hA.sl,hB.sl⟩
def Qv (k:Int) : cJ:=⟨k,0,0,0,0,0,⟨#[]⟩⟩
theorem rA {b c:Int} {l:List cJ} {o:Int×List kI×ah} (h:KQ (jt 256 (vO a b c) (vP a b c)) (16*bM a 9) (bM b 12) (1+bM c 4) l o) : o.1=0 ∧ ∃ s,nf (H9 a b c) 6 s∧dM s∧kJ s l o.2.1 o.2.2:=by
 cases h with
 | fault h he=>exact absurd (jG h).1 he
 | Y9 h he hr=>exact ⟨rfl,_,(jG h).2.1,(jG h).2.2,hr⟩
set_option maxHeartbeats 4000000 in
theorem KR (w:World) (hS:iC w) (eG:mN w) : bF prog 5 [] w fun v _=>v = .bool true:=by
 refine aC func5 rfl ntmps5 rfl ?_;have hw:=Ext.refl w;refine Wz ?_;refine SW.call rfl rfl (CU 0 0 0 _ (by decide) (by decide) (by decide)) fun v w2 bt hv => ?_
 obtain ⟨A,B,rfl,hA,hB⟩:=hv;have hw:=hw.trans bt;clear bt;have hp:=cV (n:=0) (m:=9) (by omega);refine SW.call rfl rfl (AW A 2 2 B 2 2 _ _ _ _ _ _ hA hB (by decide) (by decide) (by omega) (hS.ext hw)) fun v w3 nT hv => ?_
 obtain ⟨u,hu,q,rfl,hq⟩:=hv;obtain ⟨e0,hF,hI⟩:=jG hu;have hq:=hq.low hw.size;have hw:=hw.trans nT;clear nT hA hB;rw [e0];refine Wz ?_;refine SW.alloc rfl fun b1 w1 ai lp aZ => ?_
 skip;refine SW.ag aZ rfl rfl rfl rfl (aY q) fun w2 tE hg => ?_
 have ak:=ai.own lp hg;have Ms:=hw.up lp
 have hw:=hw.trans ak;have hq:=hq.ext ak;have aZ:=tE;clear tE ai hg ak;refine Wz ?_;refine SW.call rfl rfl (CU 0 0 0 _ (by decide) (by decide) (by decide)) fun v w2 bt hv => ?_
 obtain ⟨A,B,rfl,hA,hB⟩:=hv;(have hw:=hw.trans bt;have aZ:=aZ.ext bt;have hq:=hq.ext bt);clear bt;refine Wz ?_;refine SW.dI rfl rfl rfl rfl rfl fun U6 w9 tB vE bR => ?_
 (have hw:=hw.trans tB;have aZ:=aZ.ext tB;have hq:=hq.ext tB;have hA:=hA.ext tB;have hB:=hB.ext tB);clear tB;refine SW.call rfl rfl (rz dM A 2 2 B 2 2 _ _ _ _ _ _ 1 1 [Qv 12] _ hA hB (by decide) (by decide) (by omega) (hS.ext hw) (eG.ext hw) (aS.ue (enc:=ew) (x:=Qv 12) bR) (by decide) (fun u h _=>(jG h).2.2) (fun s h=>h.cK) (fun a ha=>by simp only [List.mem_singleton] at ha;subst ha;exact CT _ rfl) (fun a ha=>by simp only [List.mem_singleton] at ha;subst ha;exact rn rfl)) fun v w3 nT hv => ?_
 obtain ⟨o,ho,X,n,c,rs,q2,rfl,hX,lA⟩:=hv;obtain ⟨e1,s,_,_,hR⟩:=rA ho;have hn:=hX.len;have hl:=hR.len;simp only [List.length_singleton] at hl;obtain rfl:n=1:=by omega
 rw [e1];have hX:=hX.low hw.size;have lA:=lA.low hw.size;(have hw:=hw.trans nT;have aZ:=aZ.ext nT;have hq:=hq.ext nT);clear nT hA hB bR;refine Wz ?_;refine SW.alloc rfl fun b4 w1 ai fP aI => ?_
 refine Wz ?_;refine SW.ag aI rfl rfl rfl rfl (aY q2) fun w2 de hg => ?_
 have ak:=ai.own fP hg;have eH:=hw.up fP
 have hw:=hw.trans ak;have aZ:=aZ.ext ak;have hq:=hq.ext ak;have lA:=lA.ext ak;have hX:=hX.ext ak;have aI:=de;clear de ai hg ak;have YI:=hq.words.len;rw [hF.words,aed] at YI;refine Wz ?_;all_goals try omega
 exact ae.bg rfl rfl ⟨_,rfl,hw,rfl⟩
variable {sz:Nat}
theorem CV:∀ (us:List Value) (k:Nat) (D Z:List Value),(∀ u∈us,u.cells.size=sz)->D.length=k*sz->Z.length=us.length*sz ->
 Instr.fill (fun i=>some (i*sz,sz)) (D++Z).toArray ((us.zipIdx k).map fun p=>(p.2,p.1))=some (D++us.flatMap fun u=>u.cells.toList).toArray
 | [],k,D,Z,_,_,hZ=>by
   have:Z=[]:=adw (by simpa using hZ)
   subst this;simp [Instr.fill]
 | u::us,k,D,Z,hu,hD,hZ=>by
   have h1:=hu u (by simp);have hl:Z.length=sz+us.length*sz:=by rw [hZ,List.length_cons,ad0];omega
   have fold:∀ (x:Value) (off:Nat) (X:List Value),Array.foldl (fun (cs:Array Value) (p:Value×Nat)=>cs.setIfInBounds (off+p.2) p.1) X.toArray x.cells.zipIdx=(setAt X off x.cells.toList).toArray:=fun x off X=>by
    have:=qG x.cells.toList 0 off X
    rw [aeW] at this;rw [<- this,<- ae2];simp [Array.toList_zipIdx]
   have hs:setAt (D++Z) (k*sz) u.cells.toList=D++u.cells.toList++Z.drop sz:=by
    have:=te u.cells.toList D (Z.take sz) (Z.drop sz) (by simp [h1];omega)
    rw [adj,adh,hD] at this;exact this
   simp only [List.zipIdx_cons,List.map_cons,Instr.fill];rw [if_neg (by simp [h1];omega),fold u (k*sz) (D++Z),hs,CV us (k+1) (D++u.cells.toList) (Z.drop sz) (fun x hx=>hu x (by simp [hx])) (by simp [hD,h1,Nat.add_mul]) (by simp;omega)];simp
section
variable {α:Type} {P:Program} {n:Nat} {ops:Array Oper} {Q:Exit->Act->World->Prop} {rest:List Oper} {L:Env} {w:World} {d:Nat} {T:TypeId} {pos:String} {af:Array Edge}
theorem SW.uG {t e:TypeId} {z:Value} {sz bytes len:Nat} {enc : α -> List Value} {parts:Array (Nat×Operand)} [S:bz P t e sz] [E:dr P e z sz bytes] [C:iy enc sz] (xs:List Operand) {us:List Value} (vz:List α)
 (hp:parts.toList=(xs.zipIdx 0).map fun p=>(p.2,p.1)) (hx:uT L xs=some us) (hu:us.map (fun u=>u.cells.toList)=vz.map enc) (hlen:Nat.beq len vz.length=true) (kq:Nat.blt 0 len=true) (hle:Nat.ble len 100=true) (hs:Nat.ble sz 1000=true)
 (hn:Nat.blt d n=true) (h:∀ g w',Ext w w'->w.heap.size<=g->Own w' w.heap.size e sz enc (some ⟨g,0,none⟩) len len vz->SW P n ops (.gM Q) rest ((d,.slice (some ⟨g,0,none⟩) len len)::L) w') :
 SW P n ops (.gM Q) (⟨some d,.buildSlice t len parts,T,pos,af,none⟩::rest) L w :=
 ⟨fun q hq=>by
  obtain ⟨i,hi,hz,nt,yo⟩:=eB P e (z:=z) (sz:=sz) (bytes:=bytes);have kn:sz<=1000:=by simpa using hs
  have Br:len<=100:=by simpa using hle
  have BC : 0<len:=by simpa using kq
  have hl:len=vz.length:=adF hlen
  have oD : 0<sz:=E.pos
  have Ze : 0<len*sz:=Nat.mul_pos BC oD
  have YP:len*sz<=100*1000:=Nat.mul_le_mul Br kn
  have hul:us.length=len:=by have:=congrArg List.length hu;simpa [hl] using this
  have hev:xs.map q.eval=us:=hq.uU hx
  have lT:∀ u∈us,u.cells.size=sz:=fun u hm=>by
   have:u.cells.toList∈vz.map enc:=by rw [<- hu];exact List.mem_map_of_mem hm
   obtain ⟨a,_,ha⟩:=adv.1 this;rw [<- ael,<- ha,C.len]
  have pf:(us.flatMap fun u=>u.cells.toList)=vz.flatMap enc:=by rw [aey,aey,hu]
  simp only [swp];refine wpList_buildSlice rfl t e len _ rfl (vz.flatMap enc).toArray i z S.oz hi hz (by rw [nt];omega) (by rw [nt];omega) ?_ ?_
  ·have e1:(Array.map (fun (p:Nat×Operand)=>(p.1,q.eval p.2)) parts).toList=(us.zipIdx 0).map fun p=>(p.2,p.1):=by
    rw [Array.toList_map,hp,<- hev,List.zipIdx_map,afj,afj]
    rfl
   have e2:∀ X:Array Value,X=([]++X.toList).toArray:=fun X=>rfl
   rw [e1,e2 (Array.map _ (Array.range _)),nt,CV us 0 [] _ lT (by simp) (by simp [hul]),ad5,pf]
  ·refine (h w.heap.size _ (Ext.alloc w _) (adg _) ⟨hl.symm,.inr ⟨BC,w.heap.size,_,rfl,adg _,aS.new w e (vz.flatMap enc),adg _,by simp only [maxLen];omega,by simp [aW (enc:=enc),hl],?_⟩⟩).out _ (hq.put hn _);have:(vz.flatMap enc).length=len*sz:=by rw [aW (enc:=enc),hl]
   exact adr (Nat.le_of_eq this)⟩
end
section
variable {P:Program} {L:Env} {w:World} {d:Option Nat} {T:TypeId} {pos:String} {af:Array Edge} {g:Option (Nat×Bool)}
end
structure Ie where
 Kind:Int
 A:Int
 B:Int
 C:Int
def Vi (i:Int) : Prop := -9223372036854775808<=i∧i<=9223372036854775807
structure Jm (x:Ie) : Prop where
 kind:Vi x.Kind
 a:Vi x.A
 b:Vi x.B
 c:Vi x.C
def F2 (x:Ie) : List Value:=[.int .i64 x.Kind,.int .i64 x.A,.int .i64 x.B,.int .i64 x.C]
instance:iy F2 4:=⟨fun _=>rfl,fun r u hu=>by simp [F2] at hu;rcases hu with rfl|rfl|rfl|rfl<;>rfl⟩
theorem UA (r:Ie) : ∀ v∈F2 r,v.oneCell'=true:=iy.one (enc:=F2) r
def Xz:ByteArray:=⟨#[107,52]⟩
theorem tC {P : α -> Prop} {l:List α} (h:∀ x∈l,P x) {i:Int} (hi : 0<=i∧i<(l.length:Int)) : ∃ (k:Nat) (hk:k<l.length),i=(k:Int)∧P l[k]:=by
 obtain ⟨k,hk⟩:=adn hi.1;exact ⟨k,by omega,hk,h _ (adb _)⟩
theorem iv (n m:Int) (hn : -9223372036854775808<=n∧n<=9223372036854775807) (hm : 0<m) : ∃ p,(0<=p∧p<m) ∧ ∀ w',bF prog 18 [.int .i64 n,.int .i64 m] w' fun v _=>v = .int .i64 p:=⟨bM n m,cV hm,fun w'=>fv n m w' hn hm⟩
def Px (cpus:Int) (m lo:Nat) (v:Value) (w:World) : Prop := ∃ (z:gb) (l:List uE),v = .slice z.A z.n z.c∧Own w lo 84 8 rS z.A z.n z.c ([oy,ju]++l)∧(∀ x∈l,rv cpus x)∧l.length<=m
set_option maxHeartbeats 16000000 in
theorem NM (cpus:Int) (A:Option Addr) (n c:Nat) (l:List Ie) (w:World) (hl:Sl w 4 F2 A n l) (hn:n<=9000000000000000000) (hr:∀ x∈l,Jm x) (hc : 0<cpus) :
 bF prog 15 [.slice A n c,.int .i64 cpus,.int .i64 40] w fun v w'=>Px cpus 40 w.heap.size v w':=by
 refine aC func15 rfl ntmps15 rfl ?_;have hw:=Ext.refl w;have mH:=hl.len;have Za:=hl.base;refine Wz ?_;refine SW.wI (enc:=rS) oy ju rfl rfl rfl rfl rfl rfl fun g1 w2 bt Xy hO => ?_
 have hO:=hO.low hw.size;(have hw:=hw.trans bt);clear bt;refine Wz ?_
 refine CW.loop (fun s:Nat×gb×List uE=>[(0,.slice A n c),(1,.int .i64 cpus),(2,.int .i64 40),(7,.slice s.2.1.A s.2.1.n s.2.1.c),(8,.int .i64 (s.1:Int))])
  (fun s w'=>s.1<=n∧s.1<=40∧s.2.1.n=2+s.1∧s.2.2.length=s.1∧Ext w w'∧Own w' w.heap.size 84 8 rS s.2.1.A s.2.1.n s.2.1.c ([oy,ju]++s.2.2) ∧ ∀ x∈s.2.2,rv cpus x) (fun s=>n-s.1) (0,⟨some ⟨g1,0,none⟩,2,2⟩,[])
  ⟨rfl,rfl,rfl,rfl,rfl,trivial⟩ ⟨ad3 _,ad3 _,rfl,rfl,hw,hO,fun x hx=>by cases hx⟩ ?_
 clear hw hO;rintro ⟨j,z,ys⟩ w' ⟨hj,Yp,hz,hy,hw,hO,hR⟩
 simp only at hj Yp hz hy hO hR ⊢;by_cases nk:j<n∧j<40
 ·obtain ⟨pO,abr⟩:=nk;have rK:j<l.length:=by omega
  obtain ⟨x,ex⟩ : ∃ x,l[j]=x:=⟨_,rfl⟩;have hx:=hr _ (adb rK);rw [ex] at hx;obtain ⟨⟨Zf,R5⟩,⟨oT,Gl⟩,⟨Zg,qA⟩,⟨R6,BE⟩⟩:=hx;have fk:=hl.all pO;rw [ex] at fk;obtain ⟨K,A1,B1,C1⟩:=x;simp only at Zf R5 oT Gl Zg qA R6 BE;repeat' (first|refine Wz ?_|refine Wo hw fk ?_)
  refine SW.alloc rfl fun b9 w1 ai nY bD => ?_
  skip;refine SW.ag bD rfl rfl rfl rfl (UA ⟨K,A1,B1,C1⟩) fun w2 jS hg => ?_
  have ak:=ai.own nY hg;have se:=hw.up nY
  obtain ⟨hw,hO⟩:=df ak hw hO;have bD:=jS;clear jS ai hg ak;repeat' (first|refine Wz ?_|(refine Wk (fv B1 cpus _ ⟨Zg,qA⟩ hc) ?_;intro v w1 ai hv;subst hv;obtain ⟨hw,bD,hO⟩:=cn ai hw bD hO;clear ai))
  obtain ⟨cpu,XB⟩ : ∃ q,bM B1 cpus=q:=⟨_,rfl⟩;rw [XB];have l9:=bD.lt;refine SW.alloc rfl fun qC w1 ai oU aH => ?_
  skip;refine SW.ag aH rfl rfl rfl rfl (Ql ⟨0,cpu,0,0,0,0,⟨#[]⟩⟩) fun w2 bB hg => ?_
  have ak:=ai.own oU hg;have im:=hw.up oU
  obtain ⟨hw,bD,hO⟩:=cn ak hw bD hO;have aH:=bB;clear bB ai hg ak;have abt:b9≠qC:=by omega
  clear l9;refine Wz ?_;refine Wk (fv K 24 _ ⟨Zf,R5⟩ (by decide)) fun v w5 oC hv => ?_
  subst hv;(obtain ⟨hw,bD,aH,hO⟩:=dv oC hw bD aH hO);clear oC;have hk:=cV (n:=K) (m:=24) (by omega);obtain ⟨k,ek⟩ : ∃ q,bM K 24=q:=⟨_,rfl⟩;rw [ek] at hk ⊢;refine SW.pure rfl rfl (SW.nil (ae.seq ?_));obtain ⟨KK,yy⟩ : ∃ KK:Env->World->Prop,KK=fun L' w' => ∃ a o,iw L' [(0,.slice A n c),(1,.int .i64 cpus),(2,.int .i64 40),(7,.slice z.A z.n z.c),(8,.int .i64 (j:Int)),(10,.pointer (some ⟨qC,0,none⟩)),(11,.int .i64 o)]∧Ext w w'∧aS w' qC 35 (ew a)∧Own w' w.heap.size 84 8 rS z.A z.n z.c ([oy,ju]++ys)∧rv cpus ⟨a,o⟩:=⟨_,rfl⟩
  refine CW.block (CW.LI KK ?_ ?_)
  ·rcases (show k<5∨(5<=k∧k<9)∨k=9∨(10<=k∧k<13)∨(13<=k∧k<16)∨(16<=k∧k<18)∨k=18∨k=19∨k=20∨(21<=k∧k<23)∨k=23 by omega) with h|h|h|h|h|h|h|h|h|h|h
   ·obtain ⟨q,hq,cC⟩:=iv C1 3 ⟨R6,BE⟩ (by decide);obtain ⟨ls,CX⟩ : ∃ ls:List Int,[4,40,140]=ls:=⟨_,rfl⟩;have Gj:∀ x∈ls,x=4∨x=40∨x=140:=by rw [<- CX];intro x hx;simpa using hx
    have Vj:ls.length=3:=by rw [<- CX];rfl
    obtain ⟨i,hi,rfl,hm⟩:=tC Gj (i:=q) (by omega);obtain ⟨KS,uH⟩ : ∃ x,ls[i]=x:=⟨_,rfl⟩;rw [uH] at hm;have cy:i<3:=by omega
    obtain ⟨p,hp,cA⟩:=iv A1 KS ⟨oT,Gl⟩ (by omega);refine Wz ?_;refine Wb (i:=0) aH fun ji bB dE => ?_
    have ee:=aH.gr dE;have hw:=hw.own im dE;(obtain ⟨bD,hO⟩:=df ee bD hO);have aH:aS _ qC 35 (ew ⟨8,cpu,0,0,0,0,⟨#[]⟩⟩):=bB;clear bB ee dE;refine Wz ?_
    focus
     refine CW.any 9 mixed (dk (by kernel_rfl)) rfl fun w1 ai aG => ?_
     obtain ⟨hw,bD,aH,hO⟩:=dv ai hw bD aH hO;clear ai;refine Wa ?_;refine SA.two 2 5 rfl rfl (by kernel_rfl) rfl rfl ?_ ?_
     focus
      refine SW.uG (enc:=bw) (xs:=[.const (.int .i64 4),.const (.int .i64 40),.const (.int .i64 140)]) [4,40,140] rfl rfl rfl rfl rfl rfl rfl rfl fun g3 w9 ak UB hL => ?_
      rw [CX] at hL;have N4:=hL.sl.base;(obtain ⟨hw,bD,aH,hO⟩:=dv ak hw bD aH hO);refine SW.nil (ae.sa ak ?_);refine SA.one 5 rfl (by kernel_rfl) rfl ?_;refine Wk (cC _) fun v w5 ak hv => ?_
      subst hv;(try have hL:=hL.ext ak);(obtain ⟨hw,bD,aH,hO⟩:=dv ak hw bD aH hO);refine SW.nil (ae.sa ak ?_);refine Wa ?_;refine Wu 7 aG rfl (aU rfl (hL.sl.one cy (congrArg bw uH))) ?_;refine SA.one 8 rfl (by kernel_rfl) rfl ?_;refine Wk (cA _) fun v w5 ak hv => ?_
      subst hv;(obtain ⟨hw,bD,aH,hO,hL⟩:=fD ak hw bD aH hO hL);refine SW.nil (ae.sa ak ?_)
     rotate_left
     focus
      refine Wk (cC _) fun v w5 ak hv => ?_
      subst hv;(try have hL:=hL.ext ak);(obtain ⟨hw,bD,aH,hO⟩:=dv ak hw bD aH hO);refine SW.nil (ae.sa ak ?_);refine SA.one 2 rfl (by kernel_rfl) rfl ?_;refine SW.uG (enc:=bw) (xs:=[.const (.int .i64 4),.const (.int .i64 40),.const (.int .i64 140)]) [4,40,140] rfl rfl rfl rfl rfl rfl rfl rfl fun g3 w9 ak UB hL => ?_
      rw [CX] at hL;have N4:=hL.sl.base;(obtain ⟨hw,bD,aH,hO⟩:=dv ak hw bD aH hO);refine SW.nil (ae.sa ak ?_);refine Wa ?_;refine Wu 7 aG rfl (aU rfl (hL.sl.one cy (congrArg bw uH))) ?_;refine SA.one 8 rfl (by kernel_rfl) rfl ?_;refine Wk (cA _) fun v w5 ak hv => ?_
      subst hv;(obtain ⟨hw,bD,aH,hO,hL⟩:=fD ak hw bD aH hO hL);refine SW.nil (ae.sa ak ?_)
     rotate_left
     all_goals
      refine SA.done (by kernel_rfl) ?_;refine Wz ?_;refine Wb (i:=2) aH fun ji bB dE => ?_
      have ee:=aH.gr dE;have hw:=hw.own im dE;(obtain ⟨bD,hO⟩:=df ee bD hO);have aH:aS _ qC 35 (ew ⟨8,cpu,(1+p),0,0,0,⟨#[]⟩⟩):=bB;clear bB ee dE;refine Wz ?_;exact ae.mj (K:=KK) (by rw [yy];exact ⟨⟨8,cpu,(1+p),0,0,0,⟨#[]⟩⟩,0,⟨rfl,rfl,rfl,rfl,rfl,rfl,rfl,trivial⟩,hw,aH,hO,.fj (by omega)⟩)
   ·obtain ⟨p,hp,cA⟩:=iv A1 9 ⟨oT,Gl⟩ (by decide);refine Wz ?_;refine Wb (i:=0) aH fun ji bB dE => ?_
    have ee:=aH.gr dE;have hw:=hw.own im dE;(obtain ⟨bD,hO⟩:=df ee bD hO);have aH:aS _ qC 35 (ew ⟨9,cpu,0,0,0,0,⟨#[]⟩⟩):=bB;clear bB ee dE;repeat' (first|refine Wz ?_|(refine Wk (cA _) ?_;intro v w1 ai hv;subst hv;obtain ⟨hw,bD,aH,hO⟩:=dv ai hw bD aH hO;clear ai))
    exact ae.mj (K:=KK) (by rw [yy];exact ⟨⟨9,cpu,0,0,0,0,⟨#[]⟩⟩,1+p,⟨rfl,rfl,rfl,rfl,rfl,rfl,rfl,trivial⟩,hw,aH,hO,.ko (by omega)⟩)
   ·obtain ⟨p,hp,cA⟩:=iv A1 60 ⟨oT,Gl⟩ (by decide);obtain ⟨q,hq,cC⟩:=iv C1 6 ⟨R6,BE⟩ (by decide);refine Wz ?_;refine Wb (i:=0) aH fun ji bB dE => ?_
    have ee:=aH.gr dE;have hw:=hw.own im dE;(obtain ⟨bD,hO⟩:=df ee bD hO);have aH:aS _ qC 35 (ew ⟨11,cpu,0,0,0,0,⟨#[]⟩⟩):=bB;clear bB ee dE;repeat' (first|refine Wz ?_|(refine Wk (cA _) ?_;intro v w1 ai hv;subst hv;obtain ⟨hw,bD,aH,hO⟩:=dv ai hw bD aH hO;clear ai))
    refine Wb (i:=2) aH fun ji bB dE => ?_
    have ee:=aH.gr dE;have hw:=hw.own im dE;(obtain ⟨bD,hO⟩:=df ee bD hO);have aH:aS _ qC 35 (ew ⟨11,cpu,(1+p),0,0,0,⟨#[]⟩⟩):=bB;clear bB ee dE;repeat' (first|refine Wz ?_|(refine Wk (cC _) ?_;intro v w1 ai hv;subst hv;obtain ⟨hw,bD,aH,hO⟩:=dv ai hw bD aH hO;clear ai))
    exact ae.mj (K:=KK) (by rw [yy];exact ⟨⟨11,cpu,(1+p),0,0,0,⟨#[]⟩⟩,1+q,⟨rfl,rfl,rfl,rfl,rfl,rfl,rfl,trivial⟩,hw,aH,hO,.dV (by omega) (by omega)⟩)
   ·obtain ⟨p,hp,cA⟩:=iv A1 5 ⟨oT,Gl⟩ (by decide);obtain ⟨q,hq,cC⟩:=iv C1 7 ⟨R6,BE⟩ (by decide);obtain ⟨ls,CX⟩ : ∃ ls:List Int,[0,2,4,1,8,3,10]=ls:=⟨_,rfl⟩;have Gj:∀ x∈ls,x∈([0,2,4,1,8,3,10] : List Int):=by rw [<- CX];intro x hx;simpa using hx
    have Vj:ls.length=7:=by rw [<- CX];rfl
    obtain ⟨i,hi,rfl,hm⟩:=tC Gj (i:=q) (by omega);obtain ⟨KS,uH⟩ : ∃ x,ls[i]=x:=⟨_,rfl⟩;rw [uH] at hm;have cy:i<7:=by omega
    refine Wz ?_;refine Wb (i:=0) aH fun ji bB dE => ?_
    have ee:=aH.gr dE;have hw:=hw.own im dE;(obtain ⟨bD,hO⟩:=df ee bD hO);have aH:aS _ qC 35 (ew ⟨1,cpu,0,0,0,0,⟨#[]⟩⟩):=bB;clear bB ee dE;repeat' (first|refine Wz ?_|(refine Wk (cA _) ?_;intro v w1 ai hv;subst hv;obtain ⟨hw,bD,aH,hO⟩:=dv ai hw bD aH hO;clear ai))
    refine Wb (i:=2) aH fun ji bB dE => ?_
    have ee:=aH.gr dE;have hw:=hw.own im dE;(obtain ⟨bD,hO⟩:=df ee bD hO);have aH:aS _ qC 35 (ew ⟨1,cpu,p,0,0,0,⟨#[]⟩⟩):=bB;clear bB ee dE;refine Wz ?_;refine SW.uG (enc:=bw) (xs:=[.const (.int .i64 0),.const (.int .i64 2),.const (.int .i64 4),.const (.int .i64 1),.const (.int .i64 8),.const (.int .i64 3),.const (.int .i64 10)]) [0,2,4,1,8,3,10] rfl rfl rfl rfl rfl rfl rfl rfl fun g3 w9 ak UB hL => ?_
    rw [CX] at hL;have N4:=hL.sl.base;(obtain ⟨hw,bD,aH,hO⟩:=dv ak hw bD aH hO);clear ak;repeat' (first|refine Wz ?_|refine Wl (hL.sl.one cy (congrArg bw uH)) ?_|(refine Wk (cC _) ?_;intro v w1 ai hv;subst hv;obtain ⟨hw,bD,aH,hO,hL⟩:=fD ai hw bD aH hO hL;clear ai))
    refine Wb (i:=5) aH fun ji bB dE => ?_
    have ee:=aH.gr dE;have hw:=hw.own im dE;(obtain ⟨bD,hO⟩:=df ee bD hO);have aH:aS _ qC 35 (ew ⟨1,cpu,p,0,0,KS,⟨#[]⟩⟩):=bB;clear bB ee dE;refine Wz ?_;exact ae.mj (K:=KK) (by rw [yy];exact ⟨⟨1,cpu,p,0,0,KS,⟨#[]⟩⟩,0,⟨rfl,rfl,rfl,rfl,rfl,rfl,rfl,trivial⟩,hw,aH,hO,.bC (by omega)⟩)
   ·obtain ⟨p,hp,cA⟩:=iv A1 9 ⟨oT,Gl⟩ (by decide);refine Wz ?_;refine Wb (i:=0) aH fun ji bB dE => ?_
    have ee:=aH.gr dE;have hw:=hw.own im dE;(obtain ⟨bD,hO⟩:=df ee bD hO);have aH:aS _ qC 35 (ew ⟨2,cpu,0,0,0,0,⟨#[]⟩⟩):=bB;clear bB ee dE;repeat' (first|refine Wz ?_|(refine Wk (cA _) ?_;intro v w1 ai hv;subst hv;obtain ⟨hw,bD,aH,hO⟩:=dv ai hw bD aH hO;clear ai))
    exact ae.mj (K:=KK) (by rw [yy];exact ⟨⟨2,cpu,0,0,0,0,⟨#[]⟩⟩,1+p,⟨rfl,rfl,rfl,rfl,rfl,rfl,rfl,trivial⟩,hw,aH,hO,.nc (by omega)⟩)
   ·obtain ⟨q,hq,cA⟩:=iv A1 2 ⟨oT,Gl⟩ (by decide);obtain ⟨ls,CX⟩ : ∃ ls:List ByteArray,[pI,gh]=ls:=⟨_,rfl⟩;have Gj:∀ x∈ls,x=pI∨x=gh:=by rw [<- CX];intro x hx;simpa using hx
    have Vj:ls.length=2:=by rw [<- CX];rfl
    obtain ⟨i,hi,rfl,hm⟩:=tC Gj (i:=q) (by omega);obtain ⟨KS,uH⟩ : ∃ x,ls[i]=x:=⟨_,rfl⟩;rw [uH] at hm;have cy:i<2:=by omega
    refine Wz ?_;refine Wb (i:=0) aH fun ji bB dE => ?_
    have ee:=aH.gr dE;have hw:=hw.own im dE;(obtain ⟨bD,hO⟩:=df ee bD hO);have aH:aS _ qC 35 (ew ⟨5,cpu,0,0,0,0,⟨#[]⟩⟩):=bB;clear bB ee dE;refine Wz ?_;refine SW.uG (enc:=encStr) (xs:=[.const (.string ⟨#[111,98]⟩),.const (.string ⟨#[112,97,105,114]⟩)]) [pI,gh] rfl rfl rfl rfl rfl rfl rfl rfl fun g3 w9 ak UB hL => ?_
    rw [CX] at hL;have N4:=hL.sl.base;(obtain ⟨hw,bD,aH,hO⟩:=dv ak hw bD aH hO);clear ak;repeat' (first|refine Wz ?_|refine Wl (hL.sl.one cy (congrArg encStr uH)) ?_|(refine Wk (cA _) ?_;intro v w1 ai hv;subst hv;obtain ⟨hw,bD,aH,hO,hL⟩:=fD ai hw bD aH hO hL;clear ai))
    refine Wb (i:=6) aH fun ji bB dE => ?_
    have ee:=aH.gr dE;have hw:=hw.own im dE;(obtain ⟨bD,hO⟩:=df ee bD hO);have aH:aS _ qC 35 (ew ⟨5,cpu,0,0,0,0,KS⟩):=bB;clear bB ee dE;refine Wz ?_;exact ae.mj (K:=KK) (by rw [yy];exact ⟨⟨5,cpu,0,0,0,0,KS⟩,0,⟨rfl,rfl,rfl,rfl,rfl,rfl,rfl,trivial⟩,hw,aH,hO,.new hm⟩)
   ·obtain ⟨q,hq,cC⟩:=iv C1 2 ⟨R6,BE⟩ (by decide);obtain ⟨p,hp,cA⟩:=iv A1 9 ⟨oT,Gl⟩ (by decide);obtain ⟨ls,CX⟩ : ∃ ls:List ByteArray,[pI,gh]=ls:=⟨_,rfl⟩;have Gj:∀ x∈ls,x=pI∨x=gh:=by rw [<- CX];intro x hx;simpa using hx
    have Vj:ls.length=2:=by rw [<- CX];rfl
    obtain ⟨i,hi,rfl,hm⟩:=tC Gj (i:=q) (by omega);obtain ⟨KS,uH⟩ : ∃ x,ls[i]=x:=⟨_,rfl⟩;rw [uH] at hm;have cy:i<2:=by omega
    refine Wz ?_;refine Wb (i:=0) aH fun ji bB dE => ?_
    have ee:=aH.gr dE;have hw:=hw.own im dE;(obtain ⟨bD,hO⟩:=df ee bD hO);have aH:aS _ qC 35 (ew ⟨6,cpu,0,0,0,0,⟨#[]⟩⟩):=bB;clear bB ee dE;refine Wz ?_;refine SW.uG (enc:=encStr) (xs:=[.const (.string ⟨#[111,98]⟩),.const (.string ⟨#[112,97,105,114]⟩)]) [pI,gh] rfl rfl rfl rfl rfl rfl rfl rfl fun g3 w9 ak UB hL => ?_
    rw [CX] at hL;have N4:=hL.sl.base;(obtain ⟨hw,bD,aH,hO⟩:=dv ak hw bD aH hO);clear ak;repeat' (first|refine Wz ?_|refine Wl (hL.sl.one cy (congrArg encStr uH)) ?_|(refine Wk (cC _) ?_;intro v w1 ai hv;subst hv;obtain ⟨hw,bD,aH,hO,hL⟩:=fD ai hw bD aH hO hL;clear ai))
    refine Wb (i:=6) aH fun ji bB dE => ?_
    have ee:=aH.gr dE;have hw:=hw.own im dE;(obtain ⟨bD,hO⟩:=df ee bD hO);have aH:aS _ qC 35 (ew ⟨6,cpu,0,0,0,0,KS⟩):=bB;clear bB ee dE;repeat' (first|refine Wz ?_|(refine Wk (cA _) ?_;intro v w1 ai hv;subst hv;obtain ⟨hw,bD,aH,hO⟩:=dv ai hw bD aH hO;clear ai))
    exact ae.mj (K:=KK) (by rw [yy];exact ⟨⟨6,cpu,0,0,0,0,KS⟩,1+p,⟨rfl,rfl,rfl,rfl,rfl,rfl,rfl,trivial⟩,hw,aH,hO,.drop hm (by omega)⟩)
   ·obtain ⟨q,hq,cA⟩:=iv A1 2 ⟨oT,Gl⟩ (by decide);obtain ⟨r,hr,cC⟩:=iv C1 3 ⟨R6,BE⟩ (by decide);obtain ⟨ks,XC⟩ : ∃ ls:List Int,[12,7]=ls:=⟨_,rfl⟩;have pM:∀ x∈ks,x=12∨x=7:=by rw [<- XC];intro x hx;simpa using hx
    have nks:ks.length=2:=by rw [<- XC];rfl
    obtain ⟨i,hi,rfl,hm⟩:=tC pM (i:=q) (by omega);obtain ⟨XD,UC⟩ : ∃ x,ks[i]=x:=⟨_,rfl⟩;rw [UC] at hm;have cy:i<2:=by omega
    obtain ⟨ls,CX⟩ : ∃ ls:List ByteArray,[pI,gh,Xz]=ls:=⟨_,rfl⟩;have Gj:∀ x∈ls,x=pI∨x=gh∨x=Xz:=by rw [<- CX];intro x hx;simpa using hx
    have Vj:ls.length=3:=by rw [<- CX];rfl
    obtain ⟨j2,YV,rfl,wS⟩:=tC Gj (i:=r) (by omega);obtain ⟨KS,uH⟩ : ∃ x,ls[j2]=x:=⟨_,rfl⟩;rw [uH] at wS;have XE:j2<3:=by omega
    refine Wz ?_;refine SW.uG (enc:=bw) (xs:=[.const (.int .i64 12),.const (.int .i64 7)]) [12,7] rfl rfl rfl rfl rfl rfl rfl rfl fun g3 w9 ak UB hL => ?_
    rw [XC] at hL;have N4:=hL.sl.base;(obtain ⟨hw,bD,aH,hO⟩:=dv ak hw bD aH hO);clear ak;repeat' (first|refine Wz ?_|refine Wl (hL.sl.one cy (congrArg bw UC)) ?_|(refine Wk (cA _) ?_;intro v w1 ai hv;subst hv;obtain ⟨hw,bD,aH,hO,hL⟩:=fD ai hw bD aH hO hL;clear ai))
    refine Wb (i:=0) aH fun ji bB dE => ?_
    have ee:=aH.gr dE;have hw:=hw.own im dE;(obtain ⟨bD,hO⟩:=df ee bD hO);have aH:aS _ qC 35 (ew ⟨XD,cpu,0,0,0,0,⟨#[]⟩⟩):=bB;clear bB ee dE;clear hL N4;refine Wz ?_;refine SW.uG (enc:=encStr) (xs:=[.const (.string ⟨#[111,98]⟩),.const (.string ⟨#[112,97,105,114]⟩),.const (.string ⟨#[107,52]⟩)]) [pI,gh,Xz] rfl rfl rfl rfl rfl rfl rfl rfl fun g4 w9 ak g4b hL => ?_
    rw [CX] at hL;have N4:=hL.sl.base;(obtain ⟨hw,bD,aH,hO⟩:=dv ak hw bD aH hO);clear ak;repeat' (first|refine Wz ?_|refine Wl (hL.sl.one XE (congrArg encStr uH)) ?_|(refine Wk (cC _) ?_;intro v w1 ai hv;subst hv;obtain ⟨hw,bD,aH,hO,hL⟩:=fD ai hw bD aH hO hL;clear ai))
    refine Wb (i:=6) aH fun ji bB dE => ?_
    have ee:=aH.gr dE;have hw:=hw.own im dE;(obtain ⟨bD,hO⟩:=df ee bD hO);have aH:aS _ qC 35 (ew ⟨XD,cpu,0,0,0,0,KS⟩):=bB;clear bB ee dE;refine Wz ?_;exact ae.mj (K:=KK) (by rw [yy];exact ⟨⟨XD,cpu,0,0,0,0,KS⟩,0,⟨rfl,rfl,rfl,rfl,rfl,rfl,rfl,trivial⟩,hw,aH,hO,.tidy hm (by rcases wS with e|e|e<;>(rw [e];decide))⟩)
   ·obtain ⟨p,hp,cA⟩:=iv A1 30 ⟨oT,Gl⟩ (by decide);refine Wz ?_;refine Wb (i:=0) aH fun ji bB dE => ?_
    have ee:=aH.gr dE;have hw:=hw.own im dE;(obtain ⟨bD,hO⟩:=df ee bD hO);have aH:aS _ qC 35 (ew ⟨15,cpu,0,0,0,0,⟨#[]⟩⟩):=bB;clear bB ee dE;refine Wz ?_;refine Wb (i:=6) aH fun ji bB dE => ?_
    have ee:=aH.gr dE;have hw:=hw.own im dE;(obtain ⟨bD,hO⟩:=df ee bD hO);have aH:aS _ qC 35 (ew ⟨15,cpu,0,0,0,0,pI⟩):=bB;clear bB ee dE;repeat' (first|refine Wz ?_|(refine Wk (cA _) ?_;intro v w1 ai hv;subst hv;obtain ⟨hw,bD,aH,hO⟩:=dv ai hw bD aH hO;clear ai))
    refine Wb (i:=2) aH fun ji bB dE => ?_
    have ee:=aH.gr dE;have hw:=hw.own im dE;(obtain ⟨bD,hO⟩:=df ee bD hO);have aH:aS _ qC 35 (ew ⟨15,cpu,(1+p),0,0,0,pI⟩):=bB;clear bB ee dE;refine Wz ?_;exact ae.mj (K:=KK) (by rw [yy];exact ⟨⟨15,cpu,(1+p),0,0,0,pI⟩,0,⟨rfl,rfl,rfl,rfl,rfl,rfl,rfl,trivial⟩,hw,aH,hO,.bulk (by omega)⟩)
   ·obtain ⟨q,hq,cC⟩:=iv C1 1000 ⟨R6,BE⟩ (by decide);obtain ⟨p,hp,cA⟩:=iv A1 9 ⟨oT,Gl⟩ (by decide);refine Wz ?_;refine Wb (i:=0) aH fun ji bB dE => ?_
    have ee:=aH.gr dE;have hw:=hw.own im dE;(obtain ⟨bD,hO⟩:=df ee bD hO);have aH:aS _ qC 35 (ew ⟨13,cpu,0,0,0,0,⟨#[]⟩⟩):=bB;clear bB ee dE;repeat' (first|refine Wz ?_|(refine Wk (cC _) ?_;intro v w1 ai hv;subst hv;obtain ⟨hw,bD,aH,hO⟩:=dv ai hw bD aH hO;clear ai))
    refine Wb (i:=3) aH fun ji bB dE => ?_
    have ee:=aH.gr dE;have hw:=hw.own im dE;(obtain ⟨bD,hO⟩:=df ee bD hO);have aH:aS _ qC 35 (ew ⟨13,cpu,0,q,0,0,⟨#[]⟩⟩):=bB;clear bB ee dE;repeat' (first|refine Wz ?_|(refine Wk (cA _) ?_;intro v w1 ai hv;subst hv;obtain ⟨hw,bD,aH,hO⟩:=dv ai hw bD aH hO;clear ai))
    exact ae.mj (K:=KK) (by rw [yy];exact ⟨⟨13,cpu,0,q,0,0,⟨#[]⟩⟩,1+p,⟨rfl,rfl,rfl,rfl,rfl,rfl,rfl,trivial⟩,hw,aH,hO,.write (by omega) (by omega)⟩)
   ·obtain ⟨p,hp,cA⟩:=iv A1 9 ⟨oT,Gl⟩ (by decide);refine Wz ?_;refine Wb (i:=0) aH fun ji bB dE => ?_
    have ee:=aH.gr dE;have hw:=hw.own im dE;(obtain ⟨bD,hO⟩:=df ee bD hO);have aH:aS _ qC 35 (ew ⟨14,cpu,0,0,0,0,⟨#[]⟩⟩):=bB;clear bB ee dE;repeat' (first|refine Wz ?_|(refine Wk (cA _) ?_;intro v w1 ai hv;subst hv;obtain ⟨hw,bD,aH,hO⟩:=dv ai hw bD aH hO;clear ai))
    exact ae.mj (K:=KK) (by rw [yy];exact ⟨⟨14,cpu,0,0,0,0,⟨#[]⟩⟩,1+p,⟨rfl,rfl,rfl,rfl,rfl,rfl,rfl,trivial⟩,hw,aH,hO,.read (by omega)⟩)
  ·clear hw bD aH hO;subst yy;rintro L' w' ⟨a,o,jA,hw,aH,hO,hx⟩
   refine ae.sub jA ?_;refine Wz ?_;refine SW.dI rfl rfl rfl rfl rfl fun abu w9 tB XF UD => ?_
   (obtain ⟨hw,hO⟩:=df tB hw hO);clear tB;refine SW.append hO (aS.ue (enc:=rS) (x:=⟨a,o⟩) UD) hw.size rfl rfl rfl (by omega) (by omega) fun Y f pE lD hg => ?_
   have hw:=aD hw hg (adg _) hO.a9;clear hO hg;rw [adj] at lD;refine Wz ?_
   exact ae.again (j+1,⟨Y,z.n+1,f⟩,ys++[⟨a,o⟩]) ⟨rfl,rfl,rfl,rfl,rfl,trivial⟩ (by simp only;omega) ⟨by simp only;omega,by simp only;omega,by simp only;omega,by simp [hy],hw,lD,fun x pN=>by
    rcases adm.1 pN with h|h
    ·exact hR x h
    ·simp only [List.mem_singleton] at h;rw [h];exact hx⟩
 ·repeat' (first|refine Wz ?_|refine SW.gi rfl rfl rfl (fun h => ?_) (fun h => ?_))
  all_goals try omega
  all_goals exact ae.bg rfl rfl ⟨_,rfl,hw,z,ys,rfl,hO,hR,by omega⟩
set_option maxRecDepth 100000
open Go.ChangeShapes Go.WideShapes Go.ChangeAt Go.RowKit Go.Deep Go.Joins
variable {H:Type} {held:Bool} {fuel:Nat} {spare:Nat->Bool} {W:World}
theorem R7 {enc:TypeId×Value->H} {base:Nat} {x:DataW H×List MemPlace}
 (h:DataW.trod enc prog W base spare held fuel 88 cs=some x) : ∃ r:Ie,cs=F2 r∧Jm r:=by
 obtain ⟨xs,n,_,_,hlen,nW,hf⟩:=DataW.trod_struct Tryz.underlying88 h;have hc:prog.cellsOf 88=4:=by kernel_rfl
 have hi:prog.cellsOf 3=1:=by kernel_rfl
 rw [hc] at hlen
 match cs,hlen with
 | [c0,c1,c2,c3],_ =>
   match xs,nW with
   | [y0,y1,y2,y3],_ =>
     have h0:DataW.trod enc prog W base spare held n 3 (List.take (prog.cellsOf 3) (List.drop 0 [c0,c1,c2,c3]))=some y0:=hf 0 _ rfl
     have h1:DataW.trod enc prog W base spare held n 3 (List.take (prog.cellsOf 3) (List.drop 1 [c0,c1,c2,c3]))=some y1:=hf 1 _ rfl
     have h2:DataW.trod enc prog W base spare held n 3 (List.take (prog.cellsOf 3) (List.drop 2 [c0,c1,c2,c3]))=some y2:=hf 2 _ rfl
     have h3:DataW.trod enc prog W base spare held n 3 (List.take (prog.cellsOf 3) (List.drop 3 [c0,c1,c2,c3]))=some y3:=hf 3 _ rfl
     rw [hi] at h0 h1 h2 h3;obtain ⟨a,ha,wa⟩:=DD Tryz.underlying3 h0;obtain ⟨b,hb,wb⟩:=DD Tryz.underlying3 h1;obtain ⟨c,WG,wc⟩:=DD Tryz.underlying3 h2;obtain ⟨d,hd,wd⟩:=DD Tryz.underlying3 h3;simp [bw] at ha hb WG hd;subst ha hb WG hd;exact ⟨⟨a,b,c,d⟩,rfl,⟨wa,wb,wc,wd⟩⟩
structure Start (s:ah) : Prop where
 sys:dM s
 bare:yf s
 shape:kw s=lP
theorem Ph.sys {l:List bT} (h:Ph s0 j s l) (h0:Start s0) : dM s:=by
 cases h with
 | p0=>exact h0.sys
 | p1 _ h _ _=>exact h
 | go _ h=>exact h.sys
structure UE (s0:ah) (j:Nat) (s:ah) (l:List bT) (x:uE) : Prop where
 free : ¬ 0<x.Of->pK s0 j s l x.act (-1)
 top:x.Of<=9
 pass : 0<x.Of->Ph s0 (j+1) s l
 at_:∀ (i:Nat) (hi:i<l.length),0<=l[i].At∧l[i].At<=100000
 pick : 0<x.Of -> ∀ (i:Nat) (hi:i<l.length),AU x.act l[i]->pK s0 j s l (dC x.act (sQ x.act l[i])) (i:Int)
theorem asked {l:List bT} {l':List uE} (hP:Ph s0 j s l) (h0:Start s0) (hR:∀ x∈l',rv cpus x) {x:uE} (hj:j<([oy,ju]++l').length) (hx:([oy,ju]++l')[j]=x) : UE s0 j s l x:=by
 cases hP with
 | p0 =>
   have e:oy=x:=hx
   subst e;exact ⟨fun _=>NC h0.sys h0.bare h0.shape,by decide,fun h=>absurd h (by decide),(fun i hi=>by cases hi),fun h=>absurd h (by decide)⟩
 | p1 hc hI hb hs =>
   have e:ju=x:=hx
   subst e;exact ⟨fun _=>ND hc hI hb hs,by decide,fun h=>absurd h (by decide),(fun i hi=>by cases hi),fun h=>absurd h (by decide)⟩
 | go h2 ho =>
   have hm:rv cpus x:=by
    refine hR x ?_;rw [<- hx,afe (by simpa using h2)];exact adb _
   refine ⟨fun h=>NE h2 ho hm h,?_,fun _ => .go (by omega) ho,fun i hi => ?_,fun h i hi hp=>NF h2 ho hm h hi hp⟩
   ·cases hm<;>simp only<;>omega
   ·obtain ⟨q,hq⟩:=ho.fits _ (adb hi);have:=fu ho.sys.may hq.qs
    omega
theorem KT (A:Option Addr) (n c:Nat) (l:List Int) (x y:Int) (w:World) (hl:Sl w 1 bw A n l) (hn:n*8<=140737488355328) :
 bF prog 75 [.slice A n c,.int .i64 x,.int .i64 y] w fun v w' =>
  if 0<=x∧x<n then ∃ A c,v = .tuple #[.slice A n c,.int .i64 0]∧Own w' w.heap.size 3 1 bw A n c (l.set x.toNat y) else v = .tuple #[.slice none 0 0,.int .i64 1]:=by
 refine aC func75 rfl ntmps75 rfl ?_;have hw:=Ext.refl w;have kj:n<=2305843009213693952:=by omega
 by_cases hx : 0<=x∧x<n
 ·obtain ⟨k,rfl⟩:=adn hx.1;have hk:k<n:=by omega
  repeat' (first|refine Wz ?_|(refine Wk (qH _ _ _ _ _ _ kj) ?_;intro v w1 ai hv;subst hv;have hw:=hw.trans ai;clear ai))
  refine Wk (dF _ _ _ _ _ (hl.ext hw) hn) fun v w1 ai hv => ?_
  obtain ⟨A1,c1,rfl,hO⟩:=hv;have dD:=hw.size;have hw:=hw.trans ai;have oT:=hO.sl.base;refine Wz ?_;refine SW.qF k hO rfl rfl hk fun w2 bj hg => ?_
  have hw:=aD hw hg dD hO.a9;refine Wz ?_;refine ae.dm rfl rfl rfl ⟨_,rfl,hw,?_⟩;rw [if_pos hx];exact ⟨A1,c1,rfl,Own.low bj dD⟩
 ·repeat' (first|refine Wz ?_|(refine Wk (qH _ _ _ _ _ _ kj) ?_;intro v w1 ai hv;subst hv;have hw:=hw.trans ai;clear ai))
  refine ae.dm rfl rfl rfl ⟨_,rfl,hw,?_⟩;rw [if_neg hx]
theorem Py (t:Int) (b8:Nat) (x:Block) (w:World) (h8:aS w b8 3 [.int .i64 t]) (hx : 0<=x.At∧x.At<=255) (ho : 0<=x.Order∧x.Order<=4) :
 bF prog 129 ([.agg (aO x).toArray]++[.pointer (some ⟨b8,0,none⟩)]) w fun v _=>v = .bool (decide (x.At<=t) && decide (t<x.At+pw x.Order)):=by
 refine aC func129 rfl ntmps129 rfl ?_;refine CW.seq (CW.region (SW.box rfl rfl fun b2 w1 hw fA au => ?_));have h8:=h8.ext hw;have I2:=h8.cell (i:=0) (v := .int .i64 t) rfl;rw [add_zero] at I2;have hp:=cQ ho.1 ho.2;by_cases h1:x.At<=t
 ·repeat' (first|refine Wz ?_|((apply CW.bH mixed;(· kernel_rfl);rotate_left;intro w1 ai;obtain ⟨hw,au,h8⟩:=cn ai hw au h8;clear ai;rotate_right))|refine Wl I2 ?_|(refine SW.st (fG (r:=pw x.Order) rfl rfl (by omega) (by omega) (by simp [pw]) (by omega) (by omega)) rfl ?_)|exact SW.eU rfl)
  exact ae.bg rfl rfl ⟨_,rfl,hw,by simp [h1]⟩
 ·repeat' (first|refine Wz ?_|((apply CW.bH mixed;(· kernel_rfl);rotate_left;intro w1 ai;obtain ⟨hw,au,h8⟩:=cn ai hw au h8;clear ai;rotate_right))|refine Wl I2 ?_|exact SW.eU rfl)
  exact ae.bg rfl rfl ⟨_,rfl,hw,by simp [h1]⟩
set_option maxHeartbeats 4000000 in
theorem Ig (r:da) (s:ah) (a:Int) (w:World) (hr:Bh w r s) (hf:s.cK) (hM:aB s) (ha : -9223372036854775808<=a∧a<=9223372036854775807) :
 bF prog 74 [.agg (aP r).toArray,.int .i64 a] w fun v _ => ∃ b,gj s a b∧v = .bool b:=by
 refine aC func74 rfl ntmps74 rfl ?_;refine CW.seq (CW.region (SW.box rfl rfl fun b2 w1 hw fA au => ?_));have hs:=hf.small;obtain ⟨cs,hc⟩:=hr.br;obtain ⟨z1,z2⟩:=hc.len;have wl:=hr.words.len;have m1:=hs.words;have m3:=hs.br;by_cases hb : 0<=a∧a<s.Words.length
 rotate_left
 ·have lT:a<0∨(0<=a∧(s.Words.length:Int)<=a):=by omega
  rcases lT with h|h
  all_goals refine Wz ?_
  all_goals exact ae.bg rfl rfl ⟨_,rfl,hw,_,.out hb,rfl⟩
 obtain ⟨aZ,aq⟩:=id hb;refine Wz ?_
 refine CW.loop (fun k:Nat=>[(1,.int .i64 a),(2,.pointer (some ⟨b2,0,none⟩)),(24,.slice r.aa.A r.aa.n r.aa.c),(25,.int .i64 (r.aa.n:Int)),(26,.int .i64 (k:Int))])
  (fun k w'=>k<=r.aa.n∧Ext w w'∧aS w' b2 44 (aP r) ∧ ∀ (j:Nat) (h:j<s.aa.length),j<k -> ∀ x∈s.aa[j].ab,¬ k9 s.aa[j] x a) (fun k=>r.aa.n-k) 0
  ⟨rfl,rfl,rfl,rfl,rfl,trivial⟩ ⟨by omega,hw,au,fun j h h'=>by omega⟩ ?_
 clear hw au;rintro i w' ⟨hk,hw,au,hI⟩
 have hA:=hc.row.base;by_cases cy:i<r.aa.n
 ·have oY:i<cs.length:=by omega
  have tF:i<s.aa.length:=by omega
  have j3:=hc.each.get i oY tF;have sm:=hs.each _ (adb tF);have P3:=(hM.each i tF).may;obtain ⟨l1,l2,l3⟩:=cj P3.lay;have eS:=j3.size;have eO:=j3.order;have n2:=j3.aE.len;have m2:=sm.aE;have hS : 1<=cs[i].az∧cs[i].az<=64:=by omega
  have hO : 0<=cs[i].Order∧cs[i].Order<=4:=by omega
  have hp:=cQ hO.1 hO.2;repeat' (first|refine Wz ?_|refine SW.st (vX hw rfl rfl ((hc.row.all cy))) rfl ?_)
  refine SW.alloc rfl fun b6 w1 ai dw ar => ?_
  skip;refine SW.ag ar rfl rfl rfl rfl (BV _) fun w2 bQ hg => ?_
  have ak:=ai.own dw hg;have cS:=hw.up dw
  have hw:=hw.trans ak;have au:=au.ext ak;have ar:=bQ;clear bQ ai hg ak;refine Wz ?_
  refine CW.loop (fun k:Nat=>[(1,.int .i64 a),(2,.pointer (some ⟨b2,0,none⟩)),(6,.pointer (some ⟨b6,0,none⟩)),(24,.slice r.aa.A r.aa.n r.aa.c),(25,.int .i64 (r.aa.n:Int)),(26,.int .i64 (i:Int)),(31,.slice cs[i].ab.A cs[i].ab.n cs[i].ab.c),(32,.int .i64 (cs[i].ab.n:Int)),(33,.int .i64 (k:Int))])
   (fun k w'=>k<=cs[i].ab.n∧Ext w w'∧aS w' b2 44 (aP r)∧aS w' b6 107 (fQ cs[i]) ∧ ∀ (j:Nat) (h:j<s.aa[i].ab.length),j<k -> ¬ k9 s.aa[i] s.aa[i].ab[j] a) (fun k=>cs[i].ab.n-k) 0
   ⟨rfl,rfl,rfl,rfl,rfl,rfl,rfl,rfl,rfl,trivial⟩ ⟨by omega,hw,au,ar,fun j h h'=>by omega⟩ ?_
  clear hw au ar;rintro k w' ⟨hk,hw,au,ar,hJ⟩
  have oT:=j3.aE.base;by_cases gp:k<cs[i].ab.n
  ·have iE:k<s.aa[i].ab.length:=by omega
   obtain ⟨x,hx⟩ : ∃ x,s.aa[i].ab[k]=x:=⟨_,rfl⟩;have Sj:x∈s.aa[i].ab:=by rw [<- hx];exact adb iE
   have gS:=j3.aE.all gp;rw [hx] at gS;have ht:=(P3.oV (hM.heap)) x Sj;repeat' (first|refine Wz ?_|refine SW.st (vX hw rfl rfl gS) rfl ?_)
   refine SW.alloc rfl fun b8 w1 ai oG bi => ?_
   skip;refine SW.ag bi rfl rfl rfl rfl (iy.one (enc:=bh) _) fun w2 tJ hg => ?_
   have ak:=ai.own oG hg;have gG:=hw.up oG
   have hw:=hw.trans ak;have au:=au.ext ak;have ar:=ar.ext ak;have bi:=tJ;clear tJ ai hg ak;by_cases nV:k9 s.aa[i] x a
   ·have Kv:=nV;unfold k9 at Kv;rw [<- eO] at Kv;have WK:(a-x.At*16).tmod cs[i].az=(a-x.At*16) % cs[i].az:=adP (by omega)
    have Hm:=afp (a-x.At*16) (show cs[i].az≠0 by omega);have wS:=ae4 (a-x.At*16) (show 0<cs[i].az by omega);have yM:cs[i].az≠0:=by omega
    repeat' (first|refine Wz ?_|(refine SW.st (fG (r:=16*pw cs[i].Order) rfl rfl (by omega) (by omega) (by simp [pw]) (by omega) (by omega)) rfl ?_))
    refine CW.any 14 mixed (dk (by kernel_rfl)) rfl fun w1 ai aG => ?_
    have hw:=hw.trans ai;have au:=au.ext ai;have ar:=ar.ext ai;have bi:=bi.ext ai;clear ai;refine Wa ?_;refine SA.one 7 rfl (by kernel_rfl) rfl ?_;refine SW.call rfl rfl (vt r s _ _ (hr.ext hw) hf (by rw [WK];omega)) fun v w4 ak hv => ?_
    obtain ⟨u,hu,rfl⟩:=hv;obtain ⟨u1,u2,u3⟩:=u;simp only [Cj];(have hw:=hw.trans ak;have au:=au.ext ak;have ar:=ar.ext ak;have bi:=bi.ext ak);refine SW.nil (ae.sa ak ?_);refine Wa ?_;refine SA.done (by kernel_rfl) ?_;rw [WK,eS] at hu;have hW:=gj.py hb (adb tF) Sj nV hu;by_cases h0:u3=0
    ·refine Wz ?_;exact ae.bg rfl rfl ⟨_,rfl,hw,_,hW,by simp [h0]⟩
    ·refine Wz ?_;exact ae.bg rfl rfl ⟨_,rfl,hw,_,hW,by simp [h0]⟩
   ·have Kv:=nV;unfold k9 at Kv;rw [<- eO] at Kv;have lT:a-x.At*16<0∨(0<=a-x.At*16∧16*pw cs[i].Order<=a-x.At*16):=by omega
    have xo:∀ (j:Nat) (h:j<s.aa[i].ab.length),j<k+1 -> ¬ k9 s.aa[i] s.aa[i].ab[j] a:=fun j h h'=>by
     by_cases e:j=k
     ·subst e;rw [hx];exact nV
     ·exact hJ j h (by omega)
    rcases lT with h|h
    all_goals repeat' (first|refine Wz ?_|(refine SW.st (fG (r:=16*pw cs[i].Order) rfl rfl (by omega) (by omega) (by simp [pw]) (by omega) (by omega)) rfl ?_))
    all_goals exact ae.again (k+1) ⟨rfl,rfl,rfl,rfl,rfl,rfl,rfl,rfl,rfl,trivial⟩ (by omega) ⟨by omega,hw,au,ar,xo⟩
  ·refine Wz ?_
   exact ae.again (i+1) ⟨rfl,rfl,rfl,rfl,rfl,trivial⟩ (by omega) ⟨by omega,hw,au,fun j h h'=>by
    by_cases e:j=i
    ·subst e;intro x hx;obtain ⟨q,hq,rfl⟩:=ade hx;exact hJ q hq (by omega)
    ·exact hI j h (by omega)⟩
 ·have oH:∀ c∈s.aa,∀ x∈c.ab,¬ k9 c x a:=fun c hc x hx=>by
   obtain ⟨j,hj,rfl⟩:=ade hc;exact hI j hj (by omega) x hx
  have hq:a.tdiv 16=a / 16:=ae6 aZ
  obtain ⟨t,ht⟩ : ∃ t,a / 16=t:=⟨_,rfl⟩;have mH:=hr.heap.live.len;have m5:=hs.heap.live;refine Wz ?_;refine SW.alloc rfl fun tL w2 bt XG cw => ?_
  have XH:=hw.up XG
  (have hw:=hw.trans bt;have au:=au.ext bt);skip;refine SW.sb (i:=0) cw rfl rfl rfl rfl fun w3 lS hg => ?_
  have hG:=cw.gr hg;have hw:=hw.own XH hg;(have au:=au.aK hG rfl);have cw:aS w3 tL 3 [.int .i64 t]:=by rw [<- ht];exact lS
  clear lS hg hG;repeat' (first|refine Wz ?_|(refine SW.st (iK (vs:=[.pointer (some ⟨tL,0,none⟩)]) rfl) rfl ?_))
  refine SW.call rfl rfl (lY _ _ _ s.Heap.Live _ (hr.heap.live.ext hw) _ [.pointer (some ⟨tL,0,none⟩)] (fun b=>decide (b.At<=t) && decide (t<b.At+pw b.Order)) (fun x => .agg (aO x).toArray) (fun x=>rfl)
   (fun x Sj w1 kW=>by
     obtain ⟨k,hk,rfl⟩:=ade Sj;have hl:=hM.heap.live.each k hk;exact Py t tL _ w1 (cw.ext kW) hl.2.1 hl.1) (by omega)) fun v w4 kz hv => ?_
  subst hv;have hw:=hw.trans kz;have hW:=gj.bC hb oH;unfold Au at hW;rw [ht] at hW;refine Wz ?_;exact ae.bg rfl rfl ⟨_,rfl,hw,_,hW,rfl⟩
set_option maxHeartbeats 4000000 in
theorem F3 (r:da) (s:ah) (a:cJ) (lo:Nat) (w:World) (hO:iY w lo r s) (dD:lo<=w.heap.size) (hI:dM s) (BG : -9223372036854775808<=a.At∧a.At<=9223372036854775807) :
 bF prog 36 [.agg (aP r).toArray,.agg (ew a).toArray] w fun v w' => ∃ u,mf s a u ∧ ∃ q,v = .tuple #[.agg (aP q).toArray,.int .i64 u.2.1,.int .i64 u.2.2]∧iY w' lo q u.1:=by
 obtain ⟨k,cpu,n,m,At,fl,nm⟩:=a;simp only at BG;have hf:=hI.cK;have hs:=hf.small;have hM:=hI.may;have Sq:=hM.words;have wl:=hO.words.len;refine aC func36 rfl ntmps36 rfl ?_;refine CW.seq (CW.region (SW.box rfl rfl fun b2 w1 hw fA au => ?_));have l2:=au.lt;refine SW.box rfl rfl fun b3 w2 bt cg aq => ?_
 have gd:=hw.up cg
 (obtain ⟨hw,au⟩:=df bt hw au);clear bt;have l3:=aq.lt;refine SW.alloc rfl fun b4 w2 bt fP aI => ?_
 have eH:=hw.up fP
 (obtain ⟨hw,au,aq⟩:=cn bt hw au aq);clear bt;have NH:b2≠b4:=by omega
 have NN:b4≠b2:=by omega
 repeat' (first|refine Wy ?_|refine Wm ((fun _ _=>au.cell)) ?_|refine Wl (aq.cell (i:=4) (v := .int .i64 At) rfl) ?_)
 refine Wk (Ig r s At _ (hO.rd.ext hw) hf hM BG) fun v w3 nT hv => ?_
 obtain ⟨b,hb,rfl⟩:=hv;(obtain ⟨hw,au,aq,aI⟩:=dv nT hw au aq aI);clear nT;have bj:=hO.ext hw;cases b
 ·have hR:=mf.no (a:=⟨k,cpu,n,m,At,fl,nm⟩) hb;repeat' (first|refine Wy ?_|(refine CW.gu rfl ?_)|refine Wm ((fun _ _=>au.cell)) ?_)
  refine SW.ag aI rfl rfl rfl rfl (aY r) fun w7 j1 hg => ?_
  have hG:=aI.gr hg;have hw:=hw.own eH hg;(have bj:=bj.aK hG rfl);repeat' (first|refine Wy ?_|fail);exact ae.fg rfl rfl rfl rfl j1 rfl ⟨_,rfl,hw,_,hR,r,rfl,bj⟩
 have cy : 0<=At∧At<4096:=by
  generalize e:true=b at hb
  cases hb with
  | out=>cases e
  | py h=>omega
  | bC h=>omega
 obtain ⟨an,rfl⟩:=adn cy.1;have M8:an<r.Words.n:=by omega
 have M9:an<s.Words.length:=by omega
 have Zh:=hO.words.sl.base;by_cases RV:k=14
 ·have hR:=mf.read (a:=⟨k,cpu,n,m,an,fl,nm⟩) hb RV;have PH:=hO.words.sl.one M8 (congrArg bw (rfl:s.Words[an]=s.Words[an]));have e1:s.Words.getD ((an:Nat) : Int).toNat 0=s.Words[an]:=by simp [List.getD,M9]
  simp only [Int.ofNat_eq_natCast] at hR;rw [e1] at hR;subst RV;repeat' (first|refine Wy ?_|(refine CW.fY rfl ?_)|refine Wl (aq.cell (i:=0) (v := .int .i64 14) rfl) ?_)
  refine CW.gn 7 9 (fun w2=>iY w2 lo r s∧aS w2 b2 44 (aP r)∧aS w2 b3 35 (ew ⟨14,cpu,n,m,an,fl,nm⟩)) mixed (by kernel_rfl) fun w1 ai aG => ?_
  obtain ⟨hw,au,aq,aI,bj⟩:=fD ai hw au aq aI bj;clear ai;refine Wt 0 [] [] aG rfl (aX rfl rfl ((fun _ _=>au.cell))) ?_;refine SF.cr 1 [] aG rfl (by kernel_rfl) (by kernel_rfl) (by kernel_rfl) (aA rfl) (fun w2 hS=>aA rfl) rfl ?_;refine SF.cr 2 [] aG rfl (by kernel_rfl) (by kernel_rfl) (by kernel_rfl) (aU rfl (au.cell (i:=0) (v := .slice r.Words.A r.Words.n r.Words.c) rfl)) (fun w2 hS=>aU rfl (hS.2.1.cell (i:=0) (v := .slice r.Words.A r.Words.n r.Words.c) rfl)) rfl ?_;refine SF.cr 3 [] aG rfl (by kernel_rfl) (by kernel_rfl) (by kernel_rfl) (aA rfl) (fun w2 hS=>aA rfl) rfl ?_;refine SF.cr 4 [] aG rfl (by kernel_rfl) (by kernel_rfl) (by kernel_rfl) (aU rfl (aq.cell (i:=4) (v := .int .i64 (an:Int)) rfl)) (fun w2 hS=>aU rfl (hS.2.2.cell (i:=4) (v := .int .i64 (an:Int)) rfl)) rfl ?_;refine SF.cr 5 [] aG rfl (by kernel_rfl) (by kernel_rfl) (by kernel_rfl) (cd rfl rfl (by assumption) (by omega)) (fun w2 hS=>cd rfl rfl (by assumption) (by omega)) rfl ?_;refine SF.cr 6 [] aG rfl (by kernel_rfl) (by kernel_rfl) (by kernel_rfl) (aU rfl (bj.words.sl.one M8 (congrArg bw (rfl:s.Words[an]=s.Words[an])))) (fun w2 hS=>aU rfl (hS.1.words.sl.one M8 (congrArg bw (rfl:s.Words[an]=s.Words[an])))) rfl ?_;refine SF.turn rfl (by kernel_rfl) rfl ?_;refine SW.ag aI rfl rfl rfl rfl (aY r) fun w8 de hg => ?_
  have hG:=aI.gr hg;have au:=au.grown hg (by simpa using NH);have hw:=hw.own eH hg;(obtain ⟨bj,aq⟩:=df hG bj aq);have hS:=And.intro bj (And.intro au aq);refine SW.nil (ae.sg hS ?_);refine SG.one 8 rfl (by kernel_rfl) rfl ?_;repeat (refine SW.pure rfl rfl ?_)
  refine SW.nil (ae.sg hS ?_);refine SG.last rfl (by kernel_rfl) (by kernel_rfl) ?_;repeat' (first|refine Wy ?_|fail);exact ae.fg rfl rfl rfl rfl de rfl ⟨_,rfl,hw,_,hR,r,rfl,bj⟩
 by_cases hm:rm m
 rotate_left
 ·have hR:=mf.range (a:=⟨k,cpu,n,m,an,fl,nm⟩) hb RV hm;have wS:=hm;unfold rm at wS;have lT:m < -1099511627776∨(-1099511627776<=m∧1099511627776<m):=by omega
  rcases lT with h|h
  all_goals repeat' (first|refine Wy ?_|(refine CW.fY rfl ?_)|refine Wl (aq.cell (i:=0) (v := .int .i64 k) rfl) ?_|refine Wl (aq.cell (i:=3) (v := .int .i64 m) rfl) ?_|refine Wm ((fun _ _=>au.cell)) ?_)
  all_goals
   refine SW.ag aI rfl rfl rfl rfl (aY r) fun w7 j1 hg => ?_
   have hG:=aI.gr hg;have hw:=hw.own eH hg;(have bj:=bj.aK hG rfl);repeat' (first|refine Wy ?_|fail);exact ae.fg rfl rfl rfl rfl j1 rfl ⟨_,rfl,hw,_,hR,r,rfl,bj⟩
 have hR:=mf.write (a:=⟨k,cpu,n,m,an,fl,nm⟩) hb RV hm;have wS:=hm;unfold rm at wS;repeat' (first|refine Wy ?_|(refine CW.fY rfl ?_)|refine Wl (aq.cell (i:=0) (v := .int .i64 k) rfl) ?_|refine Wl (aq.cell (i:=3) (v := .int .i64 m) rfl) ?_|refine Wl (aq.cell (i:=4) (v := .int .i64 (an:Int)) rfl) ?_|refine Wl (au.cell (i:=0) (v := .slice r.Words.A r.Words.n r.Words.c) rfl) ?_)
 refine Wk (KT r.Words.A r.Words.n r.Words.c s.Words an m _ (hO.words.sl.ext hw) (by omega)) fun v w4 kz hv => ?_
 rw [if_pos (by omega)] at hv;obtain ⟨A,c,rfl,R8⟩:=hv;have R8:=R8.low (adf dD hw.size);(obtain ⟨hw,au,aq,aI,bj⟩:=fD kz hw au aq aI bj);clear kz;repeat' (first|refine Wy ?_|fail);refine Wb (i:=0) au fun w5 ot hg => ?_
 have hG:=au.gr hg;have aI:=aI.grown hg (by simpa using NN);have hw:=hw.own fA hg;(obtain ⟨aq,bj,R8⟩:=cn hG aq bj R8);have au:aS w5 b2 44 (aP ⟨⟨A,r.Words.n,c⟩,r.Heap,r.aa⟩):=ot;clear ot hG hg;repeat' (first|refine Wy ?_|refine Wm ((fun _ _=>au.cell)) ?_)
 refine SW.ag aI rfl rfl rfl rfl (aY ⟨⟨A,r.Words.n,c⟩,r.Heap,r.aa⟩) fun w7 j1 hg => ?_
 have hG:=aI.gr hg;have hw:=hw.own eH hg;(obtain ⟨bj,R8⟩:=df hG bj R8);repeat' (first|refine Wy ?_|fail);exact ae.fg rfl rfl rfl rfl j1 rfl ⟨_,rfl,hw,_,hR,⟨⟨A,r.Words.n,c⟩,r.Heap,r.aa⟩,rfl,R8,bj.heap,bj.br⟩
variable {cpu:Int} {c:aQ} {l':List Slab} {k lo:Nat} {w':World}
theorem F4 (u:dS) (c:aQ) (x:Slab) (w:World) (hr:GY w u c) (hn:u.ap.n<=9223372036854775807) :
 bF prog 102 [.agg (fQ u).toArray,.agg (bh x).toArray] w fun v _=>v = .bool (oh c x):=by
 refine aC func102 rfl ntmps102 rfl ?_;refine CW.seq (CW.region (SW.box rfl rfl fun b2 w1 hw fA au => ?_));refine SW.box rfl rfl fun b3 w3 nT cg aq => ?_
 (obtain ⟨hw,au⟩:=df nT hw au);obtain ⟨q,hq⟩ : ∃ q,decide (x.At∈c.ap)=q:=⟨_,rfl⟩
 have cC:∀ w',Ext w w'->bF prog 125 [.slice u.ap.A u.ap.n u.ap.c,.int .i64 x.At] w' fun v _=>v = .bool q:=fun w' hx=>by
  have:=ic _ _ u.ap.c _ x.At _ (hr.ba.ext hx) hn
  rwa [hq] at this
 have M7:=hr.per;by_cases hf:x.aj=c.bL
 ·repeat' (first|refine Wz ?_|(refine Wk (cC _ hw) ?_;intro v w1 ai hv;subst hv;obtain ⟨hw,au,aq⟩:=cn ai hw au aq;clear ai))
  all_goals try omega
  exact ae.bg rfl rfl ⟨_,rfl,hw,by unfold oh;rw [hq,decide_eq_true hf];simp⟩
 ·refine Wz ?_;all_goals try omega
  exact ae.bg rfl rfl ⟨_,rfl,hw,by unfold oh;rw [decide_eq_false hf];simp⟩
theorem sD.Pz {r:da} {cs:List dS} {p:Heap×aQ} (h:SX w lo r (bI s i p) cs) (hi:i<cs.length) (po:i<s.aa.length) (hO:Own w' lo 111 3 bh cs[i].ab.A cs[i].ab.n cs[i].ab.c l') (hg:w.grownBy w' (aJ cs[i].ab.A cs[i].ab.c)) :
 SX w' lo r (bI s i (p.1,⟨p.2.Names,p.2.az,p.2.bL,p.2.Order,l',p.2.ap⟩)) cs:=by
 have:=h.DF hi po hO hg
 have e:cs.set i ⟨cs[i].Names,cs[i].az,cs[i].bL,cs[i].Order,⟨cs[i].ab.A,cs[i].ab.n,cs[i].ab.c⟩,cs[i].ap⟩=cs:=adW hi
 rwa [e] at this
theorem F5 (p : α -> Bool) (l:List α) (k:Nat) (hk:k<l.length) : (l.take (k+1)).countP p=(l.take k).countP p+(if p l[k] then 1 else 0):=by
 rw [adk hk,List.countP_append,List.countP_singleton]
theorem PA {x:Slab} (h:oh (iq c k x a) ⟨x.At,x.aj+1,a⟩=false) : vu s c k x cpu a=(s.Heap,iq c k x a):=by unfold vu;rw [h];simp
theorem NO {x:Slab} (h : ¬ 1<(iq c k x a).ab.countP (oh (iq c k x a))) : vu s c k x cpu a=(s.Heap,iq c k x a):=by unfold vu;rw [decide_eq_false h];simp
theorem NP {x:Slab} (h:oh (iq c k x a) ⟨x.At,x.aj+1,a⟩=true) (h1 : 1<(iq c k x a).ab.countP (oh (iq c k x a))) : vu s c k x cpu a=((fh s.Heap cpu x.At).2,eQ (iq c k x a) k):=by unfold vu;rw [h,decide_eq_true h1];simp
set_option maxHeartbeats 8000000 in
theorem rB (r:da) (s:ah) (n:ByteArray) (cpu a:Int) (w:World) (hr:Bh w r s) (hf:s.cK) (N8:n.size<=140737488351232) (ha : -9223372036854775808<=a∧a<=9223372036854775807) :
 bF prog 57 [.agg (aP r).toArray,.string n,.int .i64 cpu,.int .i64 a] w fun v w' => ∃ u,rb s n cpu a u∧iT w.heap.size u v w':=by
 refine aC func57 rfl ntmps57 rfl ?_;refine CW.seq (CW.region (SW.box rfl rfl fun b4 w1 hw fP aI => ?_));refine SW.alloc rfl fun b8 w3 nT oG bi => ?_
 have gG:=hw.up oG
 have bJ:b8≠b4:=by have:=aI.lt;omega
 (obtain ⟨hw,aI⟩:=df nT hw aI);refine Wz ?_;refine Wk (yO r s n cpu _ (hr.ext hw) hf N8) fun v w4 ak hv => ?_
 have oD:=hw.size;(obtain ⟨hw,aI,bi⟩:=cn ak hw aI bi);rcases hv with ⟨he,rfl⟩|⟨he,q,cs,rfl,hO,hI⟩
 ·obtain ⟨e,hE⟩ : ∃ e,iU s n cpu=e:=⟨_,rfl⟩;have hP:=rb.ask (a:=a) he;rw [hE] at he hP;rw [hE];refine Wz ?_;refine SW.ag aI rfl rfl rfl rfl (aY .zero) fun w5 de hg => ?_
  have bi:=bi.grown hg (by simpa using bJ);have hw:=hw.own fP hg;refine Wz ?_;all_goals try omega
  refine SW.ag bi rfl rfl rfl rfl (aY .zero) fun w6 cX hg => ?_
  have hw:=hw.own gG hg;refine Wz ?_;exact ae.dA rfl rfl rfl cX rfl ⟨_,rfl,hw,_,hP,iT.zero e _ _⟩
 ·have hO:=hO.low oD;have hI:=hI.low oD;obtain ⟨ix,rU⟩ : ∃ ix,idxOf (dQ n) s.aa=ix:=⟨_,rfl⟩;rw [rU];refine Wz ?_;refine SW.ag aI rfl rfl rfl rfl (aY q) fun w5 de hg => ?_
  have hG:=aI.gr hg;have bi:=bi.grown hg (by simpa using bJ);have hw:=hw.own fP hg;(obtain ⟨hO,hI⟩:=df hG hO hI);have aI:=de;clear de hG hg;refine Wz ?_;refine Wk (vt q s a _ hO.x9.rd hf ha) fun v w6 ak hv => ?_
  obtain ⟨⟨j,k,e⟩,hF,rfl⟩:=hv;(obtain ⟨hw,aI,bi,hO,hI⟩:=fD ak hw aI bi hO hI);simp only [Cj];by_cases hh:e=0∧j=ix
  ·obtain ⟨rfl,rfl⟩:=hh;have hF0:=hF;obtain ⟨i,k',rfl,rfl,hq,hA,Tn⟩:=hF.TN;have hi:=hA.hi;have hk:=hA.hk;have hM:=iS.1 hq;have lg:=Rl hM hA;have hP:=rb.put he hF0 rU hi hk;have hm:=hM.most;obtain ⟨an,rfl⟩:=adn lg.1;have Sq:=hM.words;have e0:=oe hi;have h1:=hf.lX;have h2:=hf.Sw hi;obtain ⟨x,hx⟩ : ∃ x,s.aa[i].ab[k']=x:=⟨_,rfl⟩;have ns:=h2.put hk (an:Int);rw [hx] at Tn hP ns;have lD:=hO;have U8:=hO.words.len;obtain ⟨e1,e2⟩:=hO.len;have oY:i<cs.length:=by omega
   have cy:i<q.aa.n:=by omega
   have Ee:=hO.row.sl.base;have YJ:=hO.words.sl.base;have hC:=hO.each.get i oY hi;have q1:=hC.aE.len;have q2:=h2.small.aE;have q3:=hC.ba.len;have q4:=h2.small.ba;have pM:k'<cs[i].ab.n:=by omega
   have SB:=hC.aE.sl.base;have gX:∀ w',SX w' w.heap.size q s cs->w'.cell? ((((cs[i].ab.A).getD default).add (k'*3)).add 2)=some (Value.int .i64 x.ck):=fun w' h=>(h.each.get i oY hi).aE.sl.jR pM (j:=2) (show (bh (s.aa[i].ab[k']'(by omega)))[2]?=some (Value.int .i64 x.ck) by rw [hx];rfl)
   repeat' (first|refine Wz ?_|refine Wl (hO.row.sl.jR cy (j:=4) (u := .slice cs[i].ab.A cs[i].ab.n cs[i].ab.c) rfl) ?_)
   refine CW.gn 8 8 (fun _=>True) mixed (by kernel_rfl) fun w1 ai aG => ?_
   obtain ⟨hw,aI,bi,hO,hI⟩:=fD ai hw aI bi hO hI;clear ai;refine Wf ?_;refine Wt 6 [] [] aG rfl (aU rfl (gX _ hO)) ?_;refine Wf ?_;refine SF.last rfl (by kernel_rfl) (by kernel_rfl) ?_;refine SW.qF an hO.words rfl rfl (by omega) fun w7 M4 hg => ?_
   have hG:=hO.words.gr hg;have hS:=hO.Ff hI M4 hg;have hw:=aD hw hg (adg _) hO.words.a9;(obtain ⟨aI,bi⟩:=df hG aI bi);obtain ⟨s1,kn⟩ : ∃ s1:ah,MF s x (an:Int)=s1:=⟨_,rfl⟩;have e4:(⟨s.Words.set an x.ck,s.Heap,s.aa⟩ : ah)=s1:=by rw [<- kn];simp [MF]
   rw [e4] at hS;have R9:s1.aa=s.aa:=by rw [<- e4]
   have XI:s1.Heap=s.Heap:=by rw [<- e4]
   have Oc:i<s1.aa.length:=by rw [R9];exact hi
   have BS:s1.aa[i]=s.aa[i]:=by simp [R9]
   have e5:=oe Oc;rw [BS,XI] at e5;rw [<- e5] at hS;have hC:=hS.get oY Oc;simp only at hC;refine Wz ?_;refine SW.gZ k' 2 ⟨x.At,x.aj,(an:Int)⟩ hC.aE rfl rfl rfl pM (by decide) rfl (by simp only [hx];rfl) fun w8 SC Rx => ?_
   have g8:=SC.sl.jR pM (j:=1) (show (bh ((s.aa[i].ab.set k' ⟨x.At,x.aj,(an:Int)⟩)[k']'(by rw [adK];exact hk)))[1]?=some (Value.int .i64 x.aj) by rw [aeT];rfl);repeat' (first|refine Wz ?_|refine Wl g8 ?_)
   refine SW.gZ k' 1 ⟨x.At,x.aj+1,(an:Int)⟩ SC rfl rfl rfl pM (by decide) rfl (by simp only [List.getElem_set_self];rfl) fun w9 SD Va => ?_
   have Bf:=bU Rx Va (.inl rfl);rw [aeE] at SD;have RI:=hC.aE.gr Bf;have qq:=hS.Pz oY Oc SD Bf;have hw:=aD hw Bf (adg _) hC.aE.a9;(obtain ⟨aI,bi⟩:=df RI aI bi);obtain ⟨c1,PB⟩ : ∃ c1,iq s.aa[i] k' x (an:Int)=c1:=⟨_,rfl⟩;have e6:(⟨s.aa[i].Names,s.aa[i].az,s.aa[i].bL,s.aa[i].Order,s.aa[i].ab.set k' ⟨x.At,x.aj+1,(an:Int)⟩,s.aa[i].ap⟩ : aQ)=c1:=PB
   simp only at qq;rw [e6] at qq;have yC:c1.ab=s.aa[i].ab.set k' ⟨x.At,x.aj+1,(an:Int)⟩:=by rw [<- e6]
   have Bx:k'<c1.ab.length:=by rw [yC,adK];exact hk
   have Mx:c1.ab[k']=⟨x.At,x.aj+1,(an:Int)⟩:=by simp [yC]
   have Br:c1.ab.length=cs[i].ab.n:=by rw [yC,adK];exact hC.aE.len
   rw [PB] at ns;clear hC hS SC SD Rx Va Bf hO hI lD M4 gX g8 hg hG RI e6;have hC:=qq.get oY Oc;have SB:=hC.aE.sl.base;simp only at hC;obtain ⟨t,ht⟩ : ∃ t,oh c1 ⟨x.At,x.aj+1,(an:Int)⟩=t:=⟨_,rfl⟩
   have cI:∀ w',Ext w9 w'->bF prog 102 [.agg (fQ cs[i]).toArray,.agg (bh ⟨x.At,x.aj+1,(an:Int)⟩).toArray] w' fun v _=>v = .bool t:=fun w' hx=>by
    have:=F4 cs[i] c1 ⟨x.At,x.aj+1,(an:Int)⟩ w' (hC.rd.ext hx) (by omega)
    rwa [ht] at this
   have gk:∀ (w':World),oE w' w.heap.size cs[i] c1 -> ∀ j v,(bh ⟨x.At,x.aj+1,(an:Int)⟩)[j]?=some v->w'.cell? (((cs[i].ab.A.getD default).add (k'*3)).add j)=some v:=fun w' h j v hv=>by
    refine h.aE.sl.all pM j v ?_;rw [Mx];exact hv
   have N9:=hw;have hw:=Ext.refl w9;cases t
   ·have UF:=PA (s:=s) (cpu:=cpu) (c:=s.aa[i]) (k:=k') (x:=x) (a:=(an:Int)) (by rw [PB];exact ht);rw [PB] at UF;rw [UF,kn] at hP;repeat' (first|refine Wz ?_|((apply CW.bH mixed;(· kernel_rfl);rotate_left;intro w1 ai;obtain ⟨hw,aI,bi,qq⟩:=dv ai hw aI bi qq;clear ai;rotate_right))|refine Wm ((qq.row.sl.all cy)) ?_|refine Wm ((gk _ (qq.get oY Oc))) ?_|refine SW.dK rfl rfl (fun w1 ai=>(cI _ (hw.trans ai))) ?_|exact SW.eU rfl)
    have hw:=N9.trans hw;refine SW.ag bi rfl rfl rfl rfl (aY q) fun ji cX hg => ?_
    have hG:=bi.gr hg;have hw:=hw.own gG hg;have qq:=qq.aK hG rfl;refine Wz ?_;exact ae.dA rfl rfl rfl cX rfl ⟨_,rfl,hw,_,hP,⟨_,rfl,qq.x9⟩⟩
   ·repeat' (first|refine Wz ?_|((apply CW.bH mixed;(· kernel_rfl);rotate_left;intro w1 ai;obtain ⟨hw,aI,bi,qq⟩:=dv ai hw aI bi qq;clear ai;rotate_right))|refine Wm ((qq.row.sl.all cy)) ?_|refine Wm ((gk _ (qq.get oY Oc))) ?_|refine Wl (qq.row.sl.jR cy (j:=4) (u := .slice cs[i].ab.A cs[i].ab.n cs[i].ab.c) rfl) ?_|refine SW.dK rfl rfl (fun w1 ai=>(cI _ (hw.trans ai))) ?_|exact SW.eU rfl)
    have hw:=N9.trans hw;clear cI hC N9
    refine CW.loop (fun t:Nat×Nat=>[(2,.int .i64 cpu),(4,.pointer (some ⟨b4,0,none⟩)),(8,.pointer (some ⟨b8,0,none⟩)),(10,.int .i64 (i:Int)),(13,.int .i64 (k':Int)),(14,.pointer (some ((q.aa.A.getD default).add (i*6)))),(16,.int .i64 (t.2:Int)),(85,.slice cs[i].ab.A cs[i].ab.n cs[i].ab.c),(86,.int .i64 (cs[i].ab.n:Int)),(87,.int .i64 (t.1:Int))])
     (fun t w'=>t.1<=cs[i].ab.n∧t.2=(c1.ab.take t.1).countP (oh c1)∧Ext w w'∧aS w' b4 44 (aP q)∧aS w' b8 44 (aP .zero)∧SX w' w.heap.size q (bI s1 i (s.Heap,c1)) cs) (fun t=>cs[i].ab.n-t.1) (0,0)
     ⟨rfl,rfl,rfl,rfl,rfl,rfl,rfl,rfl,rfl,rfl,trivial⟩ ⟨by omega,by simp,hw,aI,bi,qq⟩ ?_
    clear hw aI bi qq;rintro ⟨j,m⟩ pE ⟨hj,hm,hw,aI,bi,qq⟩
    simp only at hj hm ⊢;have hC:=qq.get oY Oc;simp only at hC
    have Tl:m<=j:=by
     rw [hm];exact adf List.countP_le_length (by rw [aeQ];omega)
    by_cases pO:j<cs[i].ab.n
    ·have rK:j<c1.ab.length:=by omega
     obtain ⟨y,hy⟩ : ∃ y,c1.ab[j]=y:=⟨_,rfl⟩;have gy:=hC.aE.sl.all pO;rw [show c1.ab[j]'(hC.aE.sl.lt pO)=y from hy] at gy;obtain ⟨t2,Tc⟩ : ∃ t2,oh c1 y=t2:=⟨_,rfl⟩;have pL:=F5 (oh c1) c1.ab j rK;rw [hy,Tc,<- hm] at pL;clear hC;repeat' (first|refine Wz ?_|refine Wm gy ?_)
     refine SW.alloc rfl fun SL w1 ai o9 eA => ?_
     skip;refine SW.ag eA rfl rfl rfl rfl (iy.one (enc:=bh) y) fun w2 xN hg => ?_
     have ak:=ai.own o9 hg;have rJ:=hw.up o9
     obtain ⟨hw,aI,bi,qq⟩:=dv ak hw aI bi qq;have eA:=xN;clear xN ai hg ak;clear gy;have hC:=qq.get oY Oc;simp only at hC
     have cI:∀ w',Ext w2 w'->bF prog 102 [.agg (fQ cs[i]).toArray,.agg (bh y).toArray] w' fun v _=>v = .bool t2:=fun w' hx=>by
      have:=F4 cs[i] c1 y w' (hC.rd.ext hx) (by omega)
      rwa [Tc] at this
     have N9:=hw;have hw:=Ext.refl w2;cases t2
     ·repeat' (first|refine Wz ?_|((apply CW.bH mixed;(· kernel_rfl);rotate_left;intro w1 ai;obtain ⟨hw,aI,bi,eA,qq⟩:=fD ai hw aI bi eA qq;clear ai;rotate_right))|refine Wm ((qq.row.sl.all cy)) ?_|refine SW.dK rfl rfl (fun w1 ai=>(cI _ (hw.trans ai))) ?_|exact SW.eU rfl)
      have hw:=N9.trans hw;exact ae.again (j+1,m) ⟨rfl,rfl,rfl,rfl,rfl,rfl,rfl,rfl,rfl,rfl,trivial⟩ (by simp only;omega) ⟨by simp only;omega,by rw [pL];simp,hw,aI,bi,qq⟩
     ·repeat' (first|refine Wz ?_|((apply CW.bH mixed;(· kernel_rfl);rotate_left;intro w1 ai;obtain ⟨hw,aI,bi,eA,qq⟩:=fD ai hw aI bi eA qq;clear ai;rotate_right))|refine Wm ((qq.row.sl.all cy)) ?_|refine SW.dK rfl rfl (fun w1 ai=>(cI _ (hw.trans ai))) ?_|exact SW.eU rfl)
      have hw:=N9.trans hw;exact ae.again (j+1,m+1) ⟨rfl,rfl,rfl,rfl,rfl,rfl,rfl,rfl,rfl,rfl,trivial⟩ (by simp only;omega) ⟨by simp only;omega,by rw [pL];simp,hw,aI,bi,qq⟩
    ·obtain rfl:j=cs[i].ab.n:=by omega
     rw [adr (by omega)] at hm;clear hC;by_cases Hm : 1<m
     ·have Zi:=NP (s:=s) (cpu:=cpu) (c:=s.aa[i]) (k:=k') (x:=x) (a:=(an:Int)) (by rw [PB];exact ht) (by rw [PB,<- hm];exact Hm);rw [PB] at Zi;rw [Zi,kn] at hP;clear gk;refine Wz ?_;refine SW.dX rfl rfl (xE w _ b4 q s1 cs i k' (s.Heap,c1) cpu hw aI fP qq Oc (by rw [R9];omega) Bx h1 ns) fun v rI hv => ?_
      obtain ⟨rfl,H,Vb,hh⟩:=hv;simp only [Mx] at hh;have hw:=hh.ext;have bi:=hh.kp _ _ bJ bi;have hb:=hh.eM;have qq:=hh.sx;refine Wz ?_;refine SW.ag bi rfl rfl rfl rfl (aY ⟨q.Words,H,q.aa⟩) fun ji cX hg => ?_
      have hG:=bi.gr hg;have hw:=hw.own gG hg;have qq:=qq.aK hG rfl;refine Wz ?_;exact ae.dA rfl rfl rfl cX rfl ⟨_,rfl,hw,_,hP,⟨_,rfl,qq.x9⟩⟩
     ·have UF:=NO (s:=s) (cpu:=cpu) (c:=s.aa[i]) (k:=k') (x:=x) (a:=(an:Int)) (by rw [PB,<- hm];exact Hm);rw [PB] at UF;rw [UF,kn] at hP;refine Wz ?_;refine SW.ag bi rfl rfl rfl rfl (aY q) fun ji cX hg => ?_
      have hG:=bi.gr hg;have hw:=hw.own gG hg;have qq:=qq.aK hG rfl;refine Wz ?_;exact ae.dA rfl rfl rfl cX rfl ⟨_,rfl,hw,_,hP,⟨_,rfl,qq.x9⟩⟩
  ·have hP:=rb.none (n:=n) (cpu:=cpu) he hF (by rw [rU];exact hh)
   rcases (show e≠0∨(e=0∧j≠ix) by
    by_cases e0:e=0
    ·exact .inr ⟨e0,fun e1=>hh ⟨e0,e1⟩⟩
    ·exact .inl e0) with g|⟨g,g2⟩
   all_goals
    refine Wz ?_;all_goals try omega
    refine SW.ag bi rfl rfl rfl rfl (aY .zero) fun w7 cX hg => ?_
    have hw:=hw.own gG hg;refine Wz ?_;exact ae.dA rfl rfl rfl cX rfl ⟨_,rfl,hw,_,hP,iT.zero 4 _ _⟩
end Go.Proofs.YtohigmjjbgpfmaaGreatDoor
