/- Part 9 of what topEnds_holds leans on. -/
import Derived.Test.YtenhkiaaebnggaaGreatDoorPackTopEnds8
set_option linter.unusedVariables false
set_option linter.unusedSimpArgs false
set_option linter.defProp false
open Go.Proofs.Tryz
namespace Go.Proofs.YtenhkiaaebnggaaGreatDoor
open Go.RowKit
variable {α:Type} {a cpu:Int} {c:aN} {s:ag} {l':List Slab} {i k lo:Nat} {w w':World}
def GD (u:dT) (c:aN) (x:Slab) (w:World) (hr:Hx w u c) (hn:u.ak.n<=9223372036854775807) :
 bI prog 97 [.agg (fu u).toArray,.agg (bd x).toArray] w fun v _=>v = .bool (oJ c x):=by
 refine Wj func97 ntmps97 ?_;refine Ww fun b2 w1 hw eW aq => ?_;refine SW.box rfl rfl fun b3 w3 nL cg ao => ?_
 (obtain ⟨hw,aq⟩:=cT nL hw aq);obtain ⟨q,hq⟩ : ∃ q,decide (x.At∈c.ak)=q:=⟨_,rfl⟩
 have cC:∀ w',Ext w w'->bI prog 120 [.slice u.ak.A u.ak.n u.ak.c,.int .i64 x.At] w' fun v _=>v = .bool q:=fun w' hx=>by
  have:=iy _ _ u.ak.c _ x.At _ (hr.aV.ext hx) hn
  rwa [hq] at this
 have Ii:=hr.per;by_cases hf:x.ai=c.bL
 ·repeat' (first|refine Wz ?_|(refine Wk (cC _ hw) ?_;intro v w1 ah hv;subst hv;obtain ⟨hw,aq,ao⟩:=cd ah hw aq ao;clear ah))
  all_goals try omega
  exact ae.bh rfl rfl ⟨_,rfl,hw,by unfold oJ;rw [hq,decide_eq_true hf];simp⟩
 ·refine Wz ?_;all_goals try omega
  exact ae.bh rfl rfl ⟨_,rfl,hw,by unfold oJ;rw [decide_eq_false hf];simp⟩
def ru.Qi {r:de} {cs:List dT} {p:Heap×aN} (h:SX w lo r (bz s i p) cs) (hi:i<cs.length) (mo:i<s.aa.length) (hO:Own w' lo 107 3 bd cs[i].ab.A cs[i].ab.n cs[i].ab.c l') (hg:w.grownBy w' (aG cs[i].ab.A cs[i].ab.c)) :
 SX w' lo r (bz s i (p.1,⟨p.2.Names,p.2.ay,p.2.bL,p.2.Order,l',p.2.ak⟩)) cs:=by
 have:=h.Ej hi mo hO hg
 have e:cs.set i ⟨cs[i].Names,cs[i].ay,cs[i].bL,cs[i].Order,⟨cs[i].ab.A,cs[i].ab.n,cs[i].ab.c⟩,cs[i].ak⟩=cs:=afb hi
 rwa [e] at this
def GF (p : α -> Bool) (l:List α) (k:Nat) (hk:k<l.length) : (l.take (k+1)).countP p=(l.take k).countP p+(if p l[k] then 1 else 0):=by
 rw [aeA hk,List.countP_append,List.countP_singleton]
def Qj {x:Slab} (h:oJ (iG c k x a) ⟨x.At,x.ai+1,a⟩=false) : vN s c k x cpu a=(s.Heap,iG c k x a):=by unfold vN;rw [h];simp
def Ow {x:Slab} (h : ¬ 1<(iG c k x a).ab.countP (oJ (iG c k x a))) : vN s c k x cpu a=(s.Heap,iG c k x a):=by unfold vN;rw [decide_eq_false h];simp
def Ox {x:Slab} (h:oJ (iG c k x a) ⟨x.At,x.ai+1,a⟩=true) (h1 : 1<(iG c k x a).ab.countP (oJ (iG c k x a))) : vN s c k x cpu a=((fq s.Heap cpu x.At).2,eY (iG c k x a) k):=by unfold vN;rw [h,decide_eq_true h1];simp
set_option maxHeartbeats 8000000 in
def rO (r:de) (s:ag) (n:ByteArray) (cpu a:Int) (w:World) (hr:zU w r s) (hf:s.cS) (Mi:n.size<=140737488351232) (ha : -9223372036854775808<=a∧a<=9223372036854775807) :
 bI prog 52 [.agg (aK r).toArray,.string n,.int .i64 cpu,.int .i64 a] w fun v w' => ∃ u,pP s n cpu a u∧gR w.heap.size u v w':=by
 refine Wj func52 ntmps52 ?_;refine Ww fun b4 w1 hw fw aE => ?_;refine SW.alloc rfl fun b8 w3 nL nV bf => ?_
 have gq:=hw.up nV
 have bG:b8≠b4:=by have:=aE.lt;omega
 (obtain ⟨hw,aE⟩:=cT nL hw aE);refine Wz ?_;refine Wk (vY r s n cpu _ (hr.ext hw) hf Mi) fun v w4 ar hv => ?_
 have nq:=hw.size;(obtain ⟨hw,aE,bf⟩:=cd ar hw aE bf);rcases hv with ⟨he,rfl⟩|⟨he,q,cs,rfl,hO,hI⟩
 ·obtain ⟨e,hE⟩ : ∃ e,gV s n cpu=e:=⟨_,rfl⟩;have hP:=pP.ask (a:=a) he;rw [hE] at he hP;rw [hE];refine Wz ?_;refine Wg aE (aU .zero) fun w5 df hg => ?_
  have bf:=bf.grown hg (by simpa using bG);have hw:=hw.own fw hg;refine Wz ?_;all_goals try omega
  refine Wg bf (aU .zero) fun w6 cK hg => ?_
  have hw:=hw.own gq hg;refine Wz ?_;exact ae.dj rfl rfl rfl cK rfl ⟨_,rfl,hw,_,hP,gR.zero e _ _⟩
 ·have hO:=hO.low nq;have hI:=hI.low nq;obtain ⟨ix,oe⟩ : ∃ ix,idxOf (dr n) s.aa=ix:=⟨_,rfl⟩;rw [oe];refine Wz ?_;refine Wg aE (aU q) fun w5 df hg => ?_
  have hG:=aE.gr hg;have bf:=bf.grown hg (by simpa using bG);have hw:=hw.own fw hg;(obtain ⟨hO,hI⟩:=cT hG hO hI);have aE:=df;clear df hG hg;refine Wz ?_;refine Wk (vM q s a _ hO.xd.rd hf ha) fun v w6 ar hv => ?_
  obtain ⟨⟨j,k,e⟩,hF,rfl⟩:=hv;(obtain ⟨hw,aE,bf,hO,hI⟩:=fH ar hw aE bf hO hI);simp only [CO];by_cases hh:e=0∧j=ix
  ·obtain ⟨rfl,rfl⟩:=hh;have hF0:=hF;obtain ⟨i,k',rfl,rfl,hq,hA,Un⟩:=hF.UK;have hi:=hA.hi;have hk:=hA.hk;have hM:=iE.1 hq;have kZ:=Sf hM hA;have hP:=pP.put he hF0 oe hi hk;have hm:=hM.most;obtain ⟨an,rfl⟩:=aeE kZ.1;have TC:=hM.words;have e0:=mJ hi;have h1:=hf.mm;have h2:=hf.PJ hi;obtain ⟨x,hx⟩ : ∃ x,s.aa[i].ab[k']=x:=⟨_,rfl⟩;have nI:=h2.put hk (an:Int);rw [hx] at Un hP nI;have lO:=hO;have Wc:=hO.words.len;obtain ⟨e1,e2⟩:=hO.len;have ol:i<cs.length:=by omega
   have cx:i<q.aa.n:=by omega
   have G1:=hO.row.sl.base;have ZS:=hO.words.sl.base;have hC:=hO.each.get i ol hi;have q1:=hC.aB.len;have q2:=h2.small.aB;have q3:=hC.aV.len;have q4:=h2.small.aV;have pY:k'<cs[i].ab.n:=by omega
   have TK:=hC.aB.sl.base;have gX:∀ w',SX w' w.heap.size q s cs->w'.cell? ((((cs[i].ab.A).getD default).add (k'*3)).add 2)=some (Value.int .i64 x.cj):=fun w' h=>(h.each.get i ol hi).aB.sl.jF pY (j:=2) (show (bd (s.aa[i].ab[k']'(by omega)))[2]?=some (Value.int .i64 x.cj) by rw [hx];rfl)
   repeat' (first|refine Wz ?_|refine Wl (hO.row.sl.jF cx (j:=4) (u := .slice cs[i].ab.A cs[i].ab.n cs[i].ab.c) rfl) ?_)
   refine CW.gB 8 8 (fun _=>True) mixed (by kernel_rfl) fun w1 ah aI => ?_
   obtain ⟨hw,aE,bf,hO,hI⟩:=fH ah hw aE bf hO hI;clear ah;refine Wf ?_;refine Wt 6 [] [] aI rfl (aP rfl (gX _ hO)) ?_;refine Wf ?_;refine SF.ff ?_;refine SW.qT an hO.words rfl rfl (by omega) fun w7 NO hg => ?_
   have hG:=hO.words.gr hg;have hS:=hO.FL hI NO hg;have hw:=aD hw hg (aew _) hO.words.aW;(obtain ⟨aE,bf⟩:=cT hG aE bf);obtain ⟨s1,kD⟩ : ∃ s1:ag,Np s x (an:Int)=s1:=⟨_,rfl⟩;have e4:(⟨s.Words.set an x.cj,s.Heap,s.aa⟩ : ag)=s1:=by rw [<- kD];simp [Np]
   rw [e4] at hS;have Td:s1.aa=s.aa:=by rw [<- e4]
   have YP:s1.Heap=s.Heap:=by rw [<- e4]
   have Qk:i<s1.aa.length:=by rw [Td];exact hi
   have Cx:s1.aa[i]=s.aa[i]:=by simp [Td]
   have e5:=mJ Qk;rw [Cx,YP] at e5;rw [<- e5] at hS;have hC:=hS.get ol Qk;simp only at hC;refine Wz ?_;refine SW.gH k' 2 ⟨x.At,x.ai,(an:Int)⟩ hC.aB rfl rfl rfl pY (by decide) rfl (by simp only [hx];rfl) fun w8 TL Ss => ?_
   have g8:=TL.sl.jF pY (j:=1) (show (bd ((s.aa[i].ab.set k' ⟨x.At,x.ai,(an:Int)⟩)[k']'(by rw [ae0];exact hk)))[1]?=some (Value.int .i64 x.ai) by rw [agd];rfl);repeat' (first|refine Wz ?_|refine Wl g8 ?_)
   refine SW.gH k' 1 ⟨x.At,x.ai+1,(an:Int)⟩ TL rfl rfl rfl pY (by decide) rfl (by simp only [List.getElem_set_self];rfl) fun w9 Q5 Q6 => ?_
   have xG:=bC Ss Q6 (.inl rfl);rw [afY] at Q5;have OW:=hC.aB.gr xG;have oY:=hS.Qi ol Qk Q5 xG;have hw:=aD hw xG (aew _) hC.aB.aW;(obtain ⟨aE,bf⟩:=cT OW aE bf);obtain ⟨c1,Ql⟩ : ∃ c1,iG s.aa[i] k' x (an:Int)=c1:=⟨_,rfl⟩;have e6:(⟨s.aa[i].Names,s.aa[i].ay,s.aa[i].bL,s.aa[i].Order,s.aa[i].ab.set k' ⟨x.At,x.ai+1,(an:Int)⟩,s.aa[i].ak⟩ : aN)=c1:=Ql
   simp only at oY;rw [e6] at oY;have wT:c1.ab=s.aa[i].ab.set k' ⟨x.At,x.ai+1,(an:Int)⟩:=by rw [<- e6]
   have D9:k'<c1.ab.length:=by rw [wT,ae0];exact hk
   have Nh:c1.ab[k']=⟨x.At,x.ai+1,(an:Int)⟩:=by simp [wT]
   have BQ:c1.ab.length=cs[i].ab.n:=by rw [wT,ae0];exact hC.aB.len
   rw [Ql] at nI;clear hC hS TL Q5 Ss Q6 xG hO hI lO NO gX g8 hg hG OW e6;have hC:=oY.get ol Qk;have TK:=hC.aB.sl.base;simp only at hC;obtain ⟨t,ht⟩ : ∃ t,oJ c1 ⟨x.At,x.ai+1,(an:Int)⟩=t:=⟨_,rfl⟩
   have cI:∀ w',Ext w9 w'->bI prog 97 [.agg (fu cs[i]).toArray,.agg (bd ⟨x.At,x.ai+1,(an:Int)⟩).toArray] w' fun v _=>v = .bool t:=fun w' hx=>by
    have:=GD cs[i] c1 ⟨x.At,x.ai+1,(an:Int)⟩ w' (hC.rd.ext hx) (by omega)
    rwa [ht] at this
   have gk:∀ (w':World),o7 w' w.heap.size cs[i] c1 -> ∀ j v,(bd ⟨x.At,x.ai+1,(an:Int)⟩)[j]?=some v->w'.cell? (((cs[i].ab.A.getD default).add (k'*3)).add j)=some v:=fun w' h j v hv=>by
    refine h.aB.sl.all pY j v ?_;rw [Nh];exact hv
   have OV:=hw;have hw:=Ext.refl w9;cases t
   ·have VC:=Qj (s:=s) (cpu:=cpu) (c:=s.aa[i]) (k:=k') (x:=x) (a:=(an:Int)) (by rw [Ql];exact ht);rw [Ql] at VC;rw [VC,kD] at hP;repeat' (first|refine Wz ?_|((apply CW.bH mixed;(· kernel_rfl);rotate_left;intro w1 ah;obtain ⟨hw,aE,bf,oY⟩:=dJ ah hw aE bf oY;clear ah;rotate_right))|refine Wm ((oY.row.sl.all cx)) ?_|refine Wm ((gk _ (oY.get ol Qk))) ?_|refine SW.dI rfl rfl (fun w1 ah=>(cI _ (hw.trans ah))) ?_|exact SW.eU rfl)
    have hw:=OV.trans hw;refine Wg bf (aU q) fun iZ cK hg => ?_
    have hG:=bf.gr hg;have hw:=hw.own gq hg;have oY:=oY.aJ hG rfl;refine Wz ?_;exact ae.dj rfl rfl rfl cK rfl ⟨_,rfl,hw,_,hP,⟨_,rfl,oY.xd⟩⟩
   ·repeat' (first|refine Wz ?_|((apply CW.bH mixed;(· kernel_rfl);rotate_left;intro w1 ah;obtain ⟨hw,aE,bf,oY⟩:=dJ ah hw aE bf oY;clear ah;rotate_right))|refine Wm ((oY.row.sl.all cx)) ?_|refine Wm ((gk _ (oY.get ol Qk))) ?_|refine Wl (oY.row.sl.jF cx (j:=4) (u := .slice cs[i].ab.A cs[i].ab.n cs[i].ab.c) rfl) ?_|refine SW.dI rfl rfl (fun w1 ah=>(cI _ (hw.trans ah))) ?_|exact SW.eU rfl)
    have hw:=OV.trans hw;clear cI hC OV
    refine CW.loop (fun t:Nat×Nat=>[(2,.int .i64 cpu),(4,.pointer (some ⟨b4,0,none⟩)),(8,.pointer (some ⟨b8,0,none⟩)),(10,.int .i64 (i:Int)),(13,.int .i64 (k':Int)),(14,.pointer (some ((q.aa.A.getD default).add (i*6)))),(16,.int .i64 (t.2:Int)),(85,.slice cs[i].ab.A cs[i].ab.n cs[i].ab.c),(86,.int .i64 (cs[i].ab.n:Int)),(87,.int .i64 (t.1:Int))])
     (fun t w'=>t.1<=cs[i].ab.n∧t.2=(c1.ab.take t.1).countP (oJ c1)∧Ext w w'∧aR w' b4 44 (aK q)∧aR w' b8 44 (aK .zero)∧SX w' w.heap.size q (bz s1 i (s.Heap,c1)) cs) (fun t=>cs[i].ab.n-t.1) (0,0)
     ⟨rfl,rfl,rfl,rfl,rfl,rfl,rfl,rfl,rfl,rfl,trivial⟩ ⟨by omega,by simp,hw,aE,bf,oY⟩ ?_
    clear hw aE bf oY;rintro ⟨j,m⟩ oP ⟨hj,hm,hw,aE,bf,oY⟩
    simp only at hj hm ⊢;have hC:=oY.get ol Qk;simp only at hC
    have Uk:m<=j:=by
     rw [hm];exact aev List.countP_le_length (by rw [agb];omega)
    by_cases p7:j<cs[i].ab.n
    ·have pZ:j<c1.ab.length:=by omega
     obtain ⟨y,hy⟩ : ∃ y,c1.ab[j]=y:=⟨_,rfl⟩;have gy:=hC.aB.sl.all p7;rw [show c1.ab[j]'(hC.aB.sl.lt p7)=y from hy] at gy;obtain ⟨t2,Ua⟩ : ∃ t2,oJ c1 y=t2:=⟨_,rfl⟩;have qQ:=GF (oJ c1) c1.ab j pZ;rw [hy,Ua,<- hm] at qQ;clear hC;repeat' (first|refine Wz ?_|refine Wm gy ?_)
     refine SW.alloc rfl fun YQ w1 ah GG sd => ?_
     skip;refine Wg sd (iK.one (enc:=bd) y) fun w2 GH hg => ?_
     have ar:=ah.own GG hg;have VD:=hw.up GG
     obtain ⟨hw,aE,bf,oY⟩:=dJ ar hw aE bf oY;have sd:=GH;clear GH ah hg ar;clear gy;have hC:=oY.get ol Qk;simp only at hC
     have cI:∀ w',Ext w2 w'->bI prog 97 [.agg (fu cs[i]).toArray,.agg (bd y).toArray] w' fun v _=>v = .bool t2:=fun w' hx=>by
      have:=GD cs[i] c1 y w' (hC.rd.ext hx) (by omega)
      rwa [Ua] at this
     have OV:=hw;have hw:=Ext.refl w2;cases t2
     ·repeat' (first|refine Wz ?_|((apply CW.bH mixed;(· kernel_rfl);rotate_left;intro w1 ah;obtain ⟨hw,aE,bf,sd,oY⟩:=fH ah hw aE bf sd oY;clear ah;rotate_right))|refine Wm ((oY.row.sl.all cx)) ?_|refine SW.dI rfl rfl (fun w1 ah=>(cI _ (hw.trans ah))) ?_|exact SW.eU rfl)
      have hw:=OV.trans hw;exact ae.again (j+1,m) ⟨rfl,rfl,rfl,rfl,rfl,rfl,rfl,rfl,rfl,rfl,trivial⟩ (by simp only;omega) ⟨by simp only;omega,by rw [qQ];simp,hw,aE,bf,oY⟩
     ·repeat' (first|refine Wz ?_|((apply CW.bH mixed;(· kernel_rfl);rotate_left;intro w1 ah;obtain ⟨hw,aE,bf,sd,oY⟩:=fH ah hw aE bf sd oY;clear ah;rotate_right))|refine Wm ((oY.row.sl.all cx)) ?_|refine SW.dI rfl rfl (fun w1 ah=>(cI _ (hw.trans ah))) ?_|exact SW.eU rfl)
      have hw:=OV.trans hw;exact ae.again (j+1,m+1) ⟨rfl,rfl,rfl,rfl,rfl,rfl,rfl,rfl,rfl,rfl,trivial⟩ (by simp only;omega) ⟨by simp only;omega,by rw [qQ];simp,hw,aE,bf,oY⟩
    ·obtain rfl:j=cs[i].ab.n:=by omega
     rw [aeF (by omega)] at hm;clear hC;by_cases HV : 1<m
     ·have hPy:=Ox (s:=s) (cpu:=cpu) (c:=s.aa[i]) (k:=k') (x:=x) (a:=(an:Int)) (by rw [Ql];exact ht) (by rw [Ql,<- hm];exact HV);rw [Ql] at hPy;rw [hPy,kD] at hP;clear gk;refine Wz ?_;refine SW.dK rfl rfl (xW w _ b4 q s1 cs i k' (s.Heap,c1) cpu hw aE fw oY Qk (by rw [Td];omega) D9 h1 nI) fun v qH hv => ?_
      obtain ⟨rfl,H,We,hh⟩:=hv;simp only [Nh] at hh;have hw:=hh.ext;have bf:=hh.kp _ _ bG bf;have hb:=hh.eV;have oY:=hh.sx;refine Wz ?_;refine Wg bf (aU ⟨q.Words,H,q.aa⟩) fun iZ cK hg => ?_
      have hG:=bf.gr hg;have hw:=hw.own gq hg;have oY:=oY.aJ hG rfl;refine Wz ?_;exact ae.dj rfl rfl rfl cK rfl ⟨_,rfl,hw,_,hP,⟨_,rfl,oY.xd⟩⟩
     ·have VC:=Ow (s:=s) (cpu:=cpu) (c:=s.aa[i]) (k:=k') (x:=x) (a:=(an:Int)) (by rw [Ql,<- hm];exact HV);rw [Ql] at VC;rw [VC,kD] at hP;refine Wz ?_;refine Wg bf (aU q) fun iZ cK hg => ?_
      have hG:=bf.gr hg;have hw:=hw.own gq hg;have oY:=oY.aJ hG rfl;refine Wz ?_;exact ae.dj rfl rfl rfl cK rfl ⟨_,rfl,hw,_,hP,⟨_,rfl,oY.xd⟩⟩
  ·have hP:=pP.none (n:=n) (cpu:=cpu) he hF (by rw [oe];exact hh)
   rcases (show e≠0∨(e=0∧j≠ix) by
    by_cases e0:e=0
    ·exact .inr ⟨e0,fun e1=>hh ⟨e0,e1⟩⟩
    ·exact .inl e0) with g|⟨g,g2⟩
   all_goals
    refine Wz ?_;all_goals try omega
    refine Wg bf (aU .zero) fun w7 cK hg => ?_
    have hw:=hw.own gq hg;refine Wz ?_;exact ae.dj rfl rfl rfl cK rfl ⟨_,rfl,hw,_,hP,gR.zero 4 _ _⟩
variable {u2 u3:Int}
def Te {u1:Int} (hu:im s a (u1,u2,u3)) (hq:gg s=true) :
 (∃ i:Nat,u1=(i:Int)∧u3=0 ∧ ∃ hi:i<s.aa.length,nF s.aa[i]=true∧qD s a (some i)) ∨
 (qD s a none∧(u3=4 ∨ ∃ i:Nat,u1=(i:Int)∧u3=0 ∧ ∃ hi:i<s.aa.length,nF s.aa[i]=false)):=by
 by_cases h0:u3=0
 ·obtain ⟨i,hi,R7⟩:=hu.NB h0;simp only at R7;subst h0 R7;cases Mh:nF s.aa[i]
  ·exact .inr ⟨.no hu fun i2 Si _ e=>by
    have e:i=i2:=by simp only at e;omega
    subst e;exact Mh,.inr ⟨i,rfl,rfl,hi,Mh⟩⟩
  ·exact .inl ⟨i,rfl,rfl,hi,Mh,.yes hu hi Mh⟩
 ·exact .inr ⟨.no hu fun i hi h=>absurd h h0,.inl ((hu.code hq).resolve_left h0)⟩
set_option maxHeartbeats 4000000 in
def xB (r:de) (s:ag) (cpu a:Int) (w:World) (hr:zU w r s) (hf:s.cS) (ha : -9223372036854775808<=a∧a<=9223372036854775807) (hS:iQ w) :
 bI prog 27 [.agg (aK r).toArray,.int .i64 cpu,.int .i64 a] w fun v w' => ∃ u,jU s cpu a u∧gR w.heap.size u v w':=by
 refine Wj func27 ntmps27 ?_;refine Ww fun b3 w1 hw cg ao => ?_;refine SW.alloc rfl fun b6 w2 bq dv ap => ?_
 have cQ:=hw.up dv
 have bG:b6≠b3:=by have:=ao.lt;omega
 (obtain ⟨hw,ao⟩:=cT bq hw ao);have hs:=hf.small;obtain ⟨q,hq⟩ : ∃ q,gg s=q:=⟨_,rfl⟩
 have c1:∀ w',Ext w w'->bI prog 41 [.agg (aK r).toArray] w' fun v _=>v = .int .i64 (if q then 0 else 8):=fun w' hx=>by
  have:=mI r s w' (hr.ext hx) hf
  rwa [hq] at this
 cases q
 ·simp only [Bool.false_eq_true,if_false] at c1;repeat' (first|refine Wz ?_|(refine Wk (c1 _ hw) ?_;intro v w1 ah hv;subst hv;obtain ⟨hw,ao,ap⟩:=cd ah hw ao ap;clear ah))
  refine Wg ap (aU .zero) fun w5 cK hg => ?_
  have hw:=hw.own cQ hg;refine Wz ?_;exact ae.dj rfl rfl rfl cK rfl ⟨_,rfl,hw,_,.bad hq,gR.zero 8 _ _⟩
 simp only [if_true] at c1;have hM:=iE.1 hq;have eC:r.Heap.bJ=s.Heap.bJ:=hr.heap.cpus
 by_cases qQ:kj s cpu
 ·have Tf:=qQ;unfold kj at Tf;repeat' (first|refine Wz ?_|(refine Wk (c1 _ hw) ?_;intro v w1 ah hv;subst hv;obtain ⟨hw,ao,ap⟩:=cd ah hw ao ap;clear ah))
  refine Wk (vM r s a _ (hr.ext hw) hf ha) fun v w5 oX hv => ?_
  obtain ⟨u,hu,rfl⟩:=hv;(obtain ⟨hw,ao,ap⟩:=cd oX hw ao ap);clear c1;obtain ⟨cs,hc⟩:=hr.bo;obtain ⟨z1,z2⟩:=hc.len;have hA:=hc.row.base;obtain ⟨u1,u2,u3⟩:=u;simp only [CO];rcases Te hu hq with ⟨i,rfl,rfl,hi,Mh,hO⟩|⟨hO,hN⟩
  ·have cx:i<r.aa.n:=by omega
   have Ib:i<cs.length:=by omega
   have kf:=hc.each.get i Ib hi;have q1:=kf.names.len;have q2:=(hs.each _ (aet hi)).names;have q3:=(hM.each i hi).may.names;have G9 : 0<cs[i].Names.n:=by omega
   have hAn:=kf.names.base
   have c2:∀ w',Ext w w'->bI prog 67 [.agg (fu cs[i]).toArray] w' fun v _=>v = .bool true:=fun w' hx=>by
    have:=Ar cs[i] _ w' (kf.ext hx) (by omega) (hS.ext hx)
    rwa [Mh] at this
   have gN:=kf.names.one G9 (congrArg encStr (rfl:s.aa[i].Names[0]=s.aa[i].Names[0]));have eN:s.aa[i].Names[0]=qE s.aa[i]:=by simp [qE,q3]
   rw [eN] at gN;repeat' (first|refine Wz ?_|refine Wo hw ((hc.row.all cx)) ?_|(refine Wk (c2 _ hw) ?_;intro v w1 ah hv;subst hv;obtain ⟨hw,ao,ap⟩:=cd ah hw ao ap;clear ah))
   refine CW.any 14 mixed (db (by kernel_rfl)) rfl fun w1 ah aI => ?_
   obtain ⟨hw,ao,ap⟩:=cd ah hw ao ap;clear ah;refine Wa ?_;refine Wu 6 aI rfl (mX hw rfl (hc.row.jF cx (j:=0) (u := .slice cs[i].Names.A cs[i].Names.n cs[i].Names.c) rfl)) ?_;refine Wa ?_;refine Wu 8 aI rfl (mX hw rfl gN) ?_;refine Wa ?_;refine SA.bZ 11 ?_;refine Wk (rO r s _ cpu a _ (hr.ext hw) hf (ND hf hi) ha) fun v w4 ar hv => ?_
   obtain ⟨u,hP,s1,rfl,kD⟩:=hv;have kD:=kD.low hw.size;(obtain ⟨hw,ao,ap⟩:=cd ar hw ao ap);refine SW.nil (ae.sa ar ?_);refine Wa ?_;refine SA.fZ ?_;refine Wg ap (aU s1) fun w6 hR hg => ?_
   have hG:=ap.gr hg;have hw:=hw.own cQ hg;(have kD:=kD.aJ hG rfl);refine Wz ?_;exact ae.dj rfl rfl rfl hR rfl ⟨_,rfl,hw,_,.obj hq qQ hi hO hP,_,rfl,kD⟩
  have Ed:=fun hW=>K9 hM qQ (a:=a) hW
  rcases hN with rfl|⟨i,rfl,rfl,hi,Mh⟩
  refine Wz ?_;rotate_left;have cx:i<r.aa.n:=by omega
  have Ib:i<cs.length:=by omega
  have kf:=hc.each.get i Ib hi;have q1:=kf.names.len;have q2:=(hs.each _ (aet hi)).names
  have c2:∀ w',Ext w w'->bI prog 67 [.agg (fu cs[i]).toArray] w' fun v _=>v = .bool false:=fun w' hx=>by
   have:=Ar cs[i] _ w' (kf.ext hx) (by omega) (hS.ext hx)
   rwa [Mh] at this
  repeat' (first|refine Wz ?_|refine Wo hw ((hc.row.all cx)) ?_|(refine Wk (c2 _ hw) ?_;intro v w1 ah hv;subst hv;obtain ⟨hw,ao,ap⟩:=cd ah hw ao ap;clear ah))
  all_goals
   refine Wk (tH r s a _ (hr.ext hw) hs hM ha) fun v w6 FP hv => ?_
   obtain ⟨ix,rfl,oe⟩:=hv;(obtain ⟨hw,ao,ap⟩:=cd FP hw ao ap);cases hW:cV s a
   ·repeat' (first|refine Wz ?_|(refine CW.gG rfl ?_))
    refine Wg ap (aU .zero) fun w7 cK hg => ?_
    have hw:=hw.own cQ hg;refine Wz ?_;exact ae.dj rfl rfl rfl cK rfl ⟨_,rfl,hw,_,.no hq qQ hO hW,gR.zero 4 _ _⟩
   ·obtain ⟨OP,ha0,_⟩:=dG hW;repeat' (first|refine Wz ?_|(refine CW.gj rfl ?_)|refine Wm ((mH ao)) ?_)
    refine Wk (vL r.Heap s.Heap cpu (a / 16) _ (hr.heap.ext hw) hs.heap hf.cq (by omega)) fun v w7 iV hv => ?_
    obtain ⟨H,rfl,hH⟩:=hv;rw [Ed hW];have hH:=hH.low hw.size;(obtain ⟨hw,ao,ap⟩:=cd iV hw ao ap);refine Wz ?_;refine SW.alloc rfl fun XT w1 ah vU qF => ?_
    skip;refine Wg qF (ed H) fun w2 xT hg => ?_
    have ar:=ah.own vU hg;have Q0:=hw.up vU
    obtain ⟨hw,ao,ap,hH⟩:=dJ ar hw ao ap hH;have qF:=xT;clear xT ah hg ar;refine Wz ?_;refine Wk (mM r s _ (hr.ext hw) hs) fun v w9 tQ hv => ?_
    obtain ⟨p,cs',rfl,Ou,_⟩:=hv;have hP:=Ou.xd.low hw.size;clear Ou;(obtain ⟨hw,ao,ap,qF,hH⟩:=fH tQ hw ao ap qF hH);refine Wg ao (aU p) fun oP ef hg => ?_
    have hG:=ao.gr hg;have ap:=ap.grown hg (by simpa using bG);have hw:=hw.own cg hg;(obtain ⟨qF,hH,hP⟩:=cd hG qF hH hP);have ao:=ef;clear ef hG hg;refine Wz ?_;refine SW.gE 1 ao rfl rfl rfl (ae2 rfl) (ed H) (aK ⟨p.Words,H,p.aa⟩) rfl fun qH ef hg => ?_
    have hG:=ao.gr hg;have ap:=ap.grown hg (by simpa using bG);have hw:=hw.own cg hg;(obtain ⟨hH,hP⟩:=cT hG hH hP);refine Wz ?_;refine Wg ap (aU ⟨p.Words,H,p.aa⟩) fun iZ hR hg => ?_
    have hG:=ap.gr hg;have hw:=hw.own cQ hg;(obtain ⟨hH,hP⟩:=cT hG hH hP);refine Wz ?_;exact ae.dj rfl rfl rfl hR rfl ⟨_,rfl,hw,_,.whole hq qQ hO hW,_,rfl,hP.words,hH,hP.bo⟩
 ·have Tf:=qQ;unfold kj at Tf;have:cpu<0∨(0<=cpu∧s.Heap.bJ<=cpu):=by omega
  rcases this with h1|h1
  all_goals repeat' (first|refine Wz ?_|(refine Wk (c1 _ hw) ?_;intro v w1 ah hv;subst hv;obtain ⟨hw,ao,ap⟩:=cd ah hw ao ap;clear ah))
  all_goals
   refine Wg ap (aU .zero) fun w5 cK hg => ?_
   have hw:=hw.own cQ hg;refine Wz ?_;exact ae.dj rfl rfl rfl cK rfl ⟨_,rfl,hw,_,.range hq qQ,gR.zero 1 _ _⟩
def IQ (n:Int) (w:World) (hS:iQ w) : bI prog 65 [.int .i64 n] w fun v _=>v = .tuple #[.string (jx n),.bool (decide (n<=32))]:=by
 refine Wj func65 ntmps65 ?_;have hw:=Ext.refl w;repeat' (first|refine Wz ?_|refine Wm ((CZ hS)) ?_)
 refine CW.loop (fun j:Nat=>[(0,.int .i64 n),(6,.agg (kL.map (Value.int .i64)).toArray),(7,.int .i64 (j:Int))]) (fun j w'=>j<=6∧Ext w w' ∧ ∀ m,m<j->kP m<n) (fun j=>6-j) 0
  ⟨rfl,rfl,rfl,trivial⟩ ⟨by omega,hw,fun m h=>by omega⟩ ?_
 clear hw;rintro j w' ⟨hj,hw,hI⟩
 by_cases Rj:j<6
 ·obtain ⟨k1,k2,k3,k4⟩:=NE Rj;have PD:=NU (n:=n) Rj hI;obtain ⟨z,hz⟩ : ∃ z,kP j=z:=⟨_,rfl⟩;rw [hz] at k1 k2 k3 k4 PD;have OU:(kL.map (Value.int .i64))[j]?=some (.int .i64 z):=by rw [af7,k2];rfl
  by_cases hnz:n<=z
  ·obtain ⟨e1,e2⟩:=PD hnz;repeat' (first|refine Wz ?_|(refine Wk (xc z k1 _) ?_;intro v w1 ah hv;subst hv;have hw:=hw.trans ah;clear ah)|(refine SW.st (rb j rfl rfl rfl Rj OU) rfl ?_))
   exact ae.dl rfl rfl rfl ⟨_,rfl,hw,by rw [e1,decide_eq_true e2]⟩
  ·repeat' (first|refine Wz ?_|(refine SW.st (rb j rfl rfl rfl Rj OU) rfl ?_))
   refine ae.again (j+1) ⟨rfl,rfl,rfl,trivial⟩ (by omega) ⟨by omega,hw,fun m h => ?_⟩;by_cases e:m=j
   ·subst e;omega
   ·exact hI m (by omega)
 ·obtain rfl:j=6:=by omega
  obtain ⟨e1,e2⟩:=Li hI;refine Wz ?_;exact ae.dl rfl rfl rfl ⟨_,rfl,hw,by rw [e1,decide_eq_false (by omega)]⟩
def yF (lo:Nat) (u:ag×Int×Int) (v:Value) (w:World) : Prop := ∃ q,v = .tuple #[.agg (aK q).toArray,.int .i64 u.2.1,.int .i64 u.2.2]∧jj w lo q u.1
def yF.zero (e:Int) (lo:Nat) (w:World) : yF lo (.zero,0,e) (.tuple #[.agg (aK .zero).toArray,.int .i64 0,.int .i64 e]) w :=
 ⟨.zero,rfl,Own.fC _ _ _ _ _ _,jP.zero w lo,⟨[],fI.nil _ _⟩⟩
set_option maxHeartbeats 4000000 in
def uX (r:de) (s:ag) (cpu n:Int) (w:World) (hr:zU w r s) (hf:s.cS) (hS:iQ w) (fh:m9 w) :
 bI prog 26 [.agg (aK r).toArray,.int .i64 cpu,.int .i64 n] w fun v w' => ∃ u,fv s cpu n u∧yF w.heap.size u v w':=by
 refine Wj func26 ntmps26 ?_;refine Ww fun b3 w1 hw cg ao => ?_;refine SW.alloc rfl fun b6 w2 bq dv ap => ?_
 have cQ:=hw.up dv
 have bG:b6≠b3:=by have:=ao.lt;omega
 (obtain ⟨hw,ao⟩:=cT bq hw ao);have hs:=hf.small;obtain ⟨q,hq⟩ : ∃ q,gg s=q:=⟨_,rfl⟩
 have c1:∀ w',Ext w w'->bI prog 41 [.agg (aK r).toArray] w' fun v _=>v = .int .i64 (if q then 0 else 8):=fun w' hx=>by
  have:=mI r s w' (hr.ext hx) hf
  rwa [hq] at this
 cases q
 ·simp only [Bool.false_eq_true,if_false] at c1;repeat' (first|refine Wz ?_|(refine Wk (c1 _ hw) ?_;intro v w1 ah hv;subst hv;obtain ⟨hw,ao,ap⟩:=cd ah hw ao ap;clear ah))
  refine Wg ap (aU .zero) fun w5 cK hg => ?_
  have hw:=hw.own cQ hg;refine Wz ?_;exact ae.fp rfl rfl rfl rfl cK rfl ⟨_,rfl,hw,_,.bad hq,yF.zero 8 _ _⟩
 simp only [if_true] at c1;have hM:=iE.1 hq;by_cases J1:n<1
 ·repeat' (first|refine Wz ?_|(refine Wk (c1 _ hw) ?_;intro v w1 ah hv;subst hv;obtain ⟨hw,ao,ap⟩:=cd ah hw ao ap;clear ah))
  refine Wg ap (aU .zero) fun w5 cK hg => ?_
  have hw:=hw.own cQ hg;refine Wz ?_;exact ae.fp rfl rfl rfl rfl cK rfl ⟨_,rfl,hw,_,.range hq J1,yF.zero 1 _ _⟩
 have c2:∀ w',Ext w w'->bI prog 65 [.int .i64 n] w' fun v _=>v = .tuple #[.string (jx n),.bool (decide (n<=32))]:=fun w' hx=>IQ n w' (hS.ext hx)
 have kK:=F5 n;by_cases Qu:n<=32
 ·rw [decide_eq_true Qu] at c2;obtain ⟨cs,YR⟩ : ∃ cs,jx n=cs:=⟨_,rfl⟩;have hR:=fun u (h:pR s (jx n) cpu u)=>fv.obj (cpu:=cpu) (n:=n) hq ⟨by omega,Qu⟩ h
  rw [YR] at c2 kK hR;repeat' (first|refine Wz ?_|(refine CW.gG rfl ?_)|((first|refine Wk (c1 _ hw) ?_|refine Wk (c2 _ hw) ?_);intro v w1 ah hv;subst hv;obtain ⟨hw,ao,ap⟩:=cd ah hw ao ap;clear ah))
  refine Wk (pV r s cs cpu _ (hr.ext hw) hf kK (fh.ext hw)) fun v w5 oX hv => ?_
  obtain ⟨u,hu,q,rfl,hO⟩:=hv;have hO:=hO.low hw.size;(obtain ⟨hw,ao,ap⟩:=cd oX hw ao ap);refine Wz ?_;refine Wg ap (aU q) fun w6 cK hg => ?_
  have hG:=ap.gr hg;have hw:=hw.own cQ hg;(have hO:=hO.aJ hG rfl);refine Wz ?_;exact ae.fp rfl rfl rfl rfl cK rfl ⟨_,rfl,hw,_,hR u hu,q,rfl,hO⟩
 rw [decide_eq_false Qu] at c2;repeat' (first|refine Wz ?_|(refine CW.gj rfl ?_)|((first|refine Wk (c1 _ hw) ?_|refine Wk (c2 _ hw) ?_);intro v w1 ah hv;subst hv;obtain ⟨hw,ao,ap⟩:=cd ah hw ao ap;clear ah))
 clear c1 c2
 refine CW.loop (fun j:Nat=>[(1,.int .i64 cpu),(2,.int .i64 n),(3,.pointer (some ⟨b3,0,none⟩)),(6,.pointer (some ⟨b6,0,none⟩)),(38,.int .i64 (j:Int))])
  (fun j w'=>j<=5∧Ext w w'∧aR w' b3 44 (aK r)∧aR w' b6 44 (aK .zero) ∧ ∀ m:Nat,m<j->16*pw (m:Int)<n) (fun j=>5-j) 0
  ⟨rfl,rfl,rfl,rfl,rfl,trivial⟩ ⟨by omega,hw,ao,ap,fun m h=>by omega⟩ ?_
 clear hw ao ap;rintro j w' ⟨hj,hw,ao,ap,hI⟩
 by_cases RQ:j<5
 ·have V0:=cM (o:=(j:Int)) (by omega) (by omega);have kZ:=SE (n:=n) RQ hI;obtain ⟨p,hp⟩ : ∃ p,pw (j:Int)=p:=⟨_,rfl⟩;rw [hp] at V0 kZ;have SZ:(16:Int)*2 ^ ((j:Int)).toNat=16*p:=by rw [<- hp];rfl
  by_cases hn3:n<=16*p
  ·obtain ⟨e1,e2⟩:=kZ hn3;have G3:=fun u (h:cU s.Heap cpu (Cj n) 0 u) he=>fv.fault hq ⟨by omega,e2⟩ h he
   have cK:=fun u (h:cU s.Heap cpu (Cj n) 0 u) he=>fv.bD hq ⟨by omega,e2⟩ h he
   rw [e1] at G3 cK;repeat' (first|refine Wz ?_|refine Wm ((mH ao)) ?_|(refine SW.st (fO (r:=16*p) rfl rfl (by omega) (by omega) SZ (by omega) (by omega)) rfl ?_))
   refine Wk (qG r.Heap s.Heap cpu (j:Int) 0 _ (hr.heap.ext hw) hs.heap hf.cq (fh.ext hw)) fun v w7 iV hv => ?_
   obtain ⟨u,hu,H,rfl,hH⟩:=hv;have hH:=hH.low hw.size;(obtain ⟨hw,ao,ap⟩:=cd iV hw ao ap);by_cases he:u.2.2=0
   ·have hau:=hu.at_ he;rw [he];refine Wz ?_;refine SW.alloc rfl fun tZ w1 ah mj cw => ?_
    skip;refine Wg cw (ed H) fun w2 ml hg => ?_
    have ar:=ah.own mj hg;have uw:=hw.up mj
    obtain ⟨hw,ao,ap,hH⟩:=dJ ar hw ao ap hH;have cw:=ml;clear ml ah hg ar;refine Wz ?_;refine Wk (mM r s _ (hr.ext hw) hs) fun v w9 tQ hv => ?_
    obtain ⟨p,cs',rfl,Ou,_⟩:=hv;have hP:=Ou.xd.low hw.size;clear Ou;(obtain ⟨hw,ao,ap,cw,hH⟩:=fH tQ hw ao ap cw hH);refine Wg ao (aU p) fun oP ef hg => ?_
    have hG:=ao.gr hg;have ap:=ap.grown hg (by simpa using bG);have hw:=hw.own cg hg;(obtain ⟨cw,hH,hP⟩:=cd hG cw hH hP);have ao:=ef;clear ef hG hg;refine Wz ?_;refine SW.gE 1 ao rfl rfl rfl (ae2 rfl) (ed H) (aK ⟨p.Words,H,p.aa⟩) rfl fun qH ef hg => ?_
    have hG:=ao.gr hg;have ap:=ap.grown hg (by simpa using bG);have hw:=hw.own cg hg;(obtain ⟨hH,hP⟩:=cT hG hH hP);refine Wz ?_;refine Wg ap (aU ⟨p.Words,H,p.aa⟩) fun iZ hR hg => ?_
    have hG:=ap.gr hg;have hw:=hw.own cQ hg;(obtain ⟨hH,hP⟩:=cT hG hH hP);refine Wz ?_;exact ae.fp rfl rfl rfl rfl hR rfl ⟨_,rfl,hw,_,cK u hu he,⟨p.Words,H,p.aa⟩,by rw [afD],hP.words,hH,hP.bo⟩
   ·have hv:=G3 u hu he;obtain ⟨e,iv⟩ : ∃ e,u.2.2=e:=⟨_,rfl⟩;rw [iv] at he hv ⊢;refine Wz ?_;refine SW.alloc rfl fun tZ w1 ah mj cw => ?_
    skip;refine Wg cw (ed H) fun w2 ml hg => ?_
    have ar:=ah.own mj hg;have uw:=hw.up mj
    obtain ⟨hw,ap⟩:=cT ar hw ap;have cw:=ml;clear ml ah hg ar;refine Wz ?_;refine Wg ap (aU .zero) fun iZ hR hg => ?_
    have hw:=hw.own cQ hg;refine Wz ?_;exact ae.fp rfl rfl rfl rfl hR rfl ⟨_,rfl,hw,_,hv,yF.zero _ _ _⟩
  ·repeat' (first|refine Wz ?_|(refine SW.st (fO (r:=16*p) rfl rfl (by omega) (by omega) SZ (by omega) (by omega)) rfl ?_))
   refine ae.again (j+1) ⟨rfl,rfl,rfl,rfl,rfl,trivial⟩ (by omega) ⟨by omega,hw,ao,ap,fun m h => ?_⟩;by_cases e:m=j
   ·subst e;rw [hp];omega
   ·exact hI m (by omega)
 ·obtain rfl:j=5:=by omega
  have hn:=P6 hI;refine Wz ?_;refine Wg ap (aU .zero) fun w5 cK hg => ?_
  have hw:=hw.own cQ hg;refine Wz ?_;exact ae.fp rfl rfl rfl rfl cK rfl ⟨_,rfl,hw,_,.size hq hn,yF.zero 9 _ _⟩
def Oy (l:List Int) (t f k:Int) : (Ck l t f k).length<=l.length:=by
 unfold Ck;split
 ·rw [xn (by omega) (by omega)];exact aew _
 ·exact afc _
def LI (h:s.cS) (t f k:Int) : (F7 s t f k).cS:=by
 have:=Oy s.Words t f k
 have h1:=h.small.words;exact ⟨⟨by simp only [F7];omega,h.small.heap,h.small.bo,h.small.each⟩,h.cq,h.aB,h.names⟩
set_option maxHeartbeats 4000000 in
def Bw (r:de) (s:ag) (cpu a n:Int) (w:World) (hr:zU w r s) (hI:dy s) (ha : -9223372036854775808<=a∧a<=9223372036854775807) (hS:iQ w) (fh:m9 w) :
 bI prog 29 [.agg (aK r).toArray,.int .i64 cpu,.int .i64 a,.int .i64 n] w fun v w' => ∃ u,nW s cpu a n u∧yF w.heap.size u v w':=by
 have hf:=hI.cS;have hs:=hf.small;have hM:=hI.may;have ec:=hr.heap.cpus;refine Wj func29 ntmps29 ?_;refine Ww fun b4 w1 hw fw aE => ?_;have l4:=aE.lt;refine SW.alloc rfl fun b8 w2 bq nV bf => ?_
 have gq:w.heap.size<=b8:=aev hw.size nV
 (replace hw:=Ext.trans hw bq;replace aE:=aE.ext bq);clear bq;have l8:=bf.lt;refine Wz ?_;refine Wk (NC r s a _ (hr.ext hw) hf ha (hS.ext hw)) fun v w3 nL hv => ?_
 obtain ⟨u,hu,rfl⟩:=hv;(replace hw:=Ext.trans hw nL;replace aE:=aE.ext nL;replace bf:=bf.ext nL);clear nL;by_cases he:u.2=0
 rotate_left
 ·have hR:=nW.size (cpu:=cpu) (n:=n) hu he;obtain ⟨z,e⟩:=u;simp only at he hR ⊢;refine Wz ?_;refine Wg bf (aU .zero) fun w7 jw hg => ?_
  replace hw:=hw.own gq hg;refine Wz ?_;exact ae.fp rfl rfl rfl rfl jw rfl ⟨_,rfl,hw,_,hR,yF.zero _ _ _⟩
 by_cases hc:kj s cpu∧1<=n
 rotate_left
 ·have hR:=nW.range hu he hc;obtain ⟨z,e⟩:=u;simp only at he hR ⊢;subst he;unfold kj at hc;have kK:cpu<0∨(0<=cpu∧s.Heap.bJ<=cpu)∨((0<=cpu∧cpu<s.Heap.bJ)∧n<1):=by omega
  rw [<- ec] at kK;rcases kK with h|h|h
  all_goals refine Wz ?_
  all_goals
   refine Wg bf (aU .zero) fun w7 jw hg => ?_
   replace hw:=hw.own gq hg;refine Wz ?_;exact ae.fp rfl rfl rfl rfl jw rfl ⟨_,rfl,hw,_,hR,yF.zero _ _ _⟩
 have Cx:=hc.1;have QX:=hc.2;unfold kj at Cx;rw [<- ec] at Cx;by_cases hn:n<=u.1
 ·have hR:=nW.stay hu he hc hn;obtain ⟨z,e⟩:=u;simp only at he hn ⊢;subst he;refine Wz ?_;refine Wk (mM r s _ (hr.ext hw) hs) fun v w9 tQ hv => ?_
  obtain ⟨p,cs',rfl,Ou,_⟩:=hv;have hP:=Ou.xd.low hw.size;(replace hw:=Ext.trans hw tQ;replace aE:=aE.ext tQ;replace bf:=bf.ext tQ);clear tQ Ou;refine Wz ?_;refine Wg bf (aU p) fun w7 jw hg => ?_
  have hG:=bf.gr hg;replace hw:=hw.own gq hg;(replace hP:=hP.aJ hG rfl);refine Wz ?_;exact ae.fp rfl rfl rfl rfl jw rfl ⟨_,rfl,hw,_,hR,p,rfl,hP⟩
 have G3:=fun v hv h0=>nW.fault (v:=v) hu he hc hn hv h0
 have cK:=fun v u hv h0 uK h1=>nW.free (v:=v) (u:=u) hu he hc hn hv h0 uK h1
 have Mk:=fun v u hv h0 uK h1=>nW.ok (v:=v) (u:=u) hu he hc hn hv h0 uK h1
 obtain ⟨z,e⟩:=u;simp only at he hn G3 cK Mk ⊢;subst he;refine Wz ?_;refine Wk (uX r s cpu n _ (hr.ext hw) hf (hS.ext hw) (fh.ext hw)) fun v w4 kN hv => ?_
 obtain ⟨v,hv,q,rfl,hq⟩:=hv;replace hq:=hq.low hw.size;(replace hw:=Ext.trans hw kN;replace aE:=aE.ext kN;replace bf:=bf.ext kN);clear kN;replace G3:=G3 v hv;replace cK:=fun u=>cK v u hv
 replace Mk:=fun u=>Mk v u hv
 have Rl:=fun h0=>hv.step hI h0
 obtain ⟨t,to,e⟩:=v;simp only at G3 cK Mk Rl hq ⊢;refine Wz ?_;have l8:=bf.lt;have l4:=aE.lt;refine SW.alloc rfl fun tZ w1 ah mj cw => ?_
 skip;refine Wg cw (aU q) fun w2 ml hg => ?_
 have ar:=ah.own mj hg;have uw:w.heap.size<=tZ:=aev hw.size mj
 replace hw:=Ext.trans hw ar;replace aE:=aE.ext ar;replace bf:=bf.ext ar;replace hq:=hq.ext ar;replace cw:=ml;clear ml ah hg ar;have l13:=cw.lt;by_cases he:e=0
 rotate_left
 ·refine Wz ?_;refine Wg bf (aU .zero) fun w7 jw hg => ?_
  replace hw:=hw.own gq hg;refine Wz ?_;exact ae.fp rfl rfl rfl rfl jw rfl ⟨_,rfl,hw,_,G3 he,yF.zero _ _ _⟩
 obtain ⟨_,_,_,Rb,_,_⟩:=Rl he;replace cK:=fun u=>cK u he
 replace Mk:=fun u=>Mk u he
 subst he;have hft:=Rb.cS;have m1:=hft.small.words;have wl:=hq.words.len;have n8:b8≠tZ:=by omega
 have n4:b4≠tZ:=by omega
 refine Wz ?_;refine Wk (NV q.Words.A q.Words.n q.Words.c t.Words to a z _ hq.words.sl (by omega) hq.words.Jg) fun v w5 oX hv => ?_
 have key:∃ X m c e1,v = .tuple #[.slice X m c,.int .i64 e1]∧Own w5 w.heap.size 3 1 bt X m c (Ck t.Words to a z):=by
  unfold zb at hv;unfold Ck;by_cases h : 0<=to∧0<=a∧0<=z∧to+z<=t.Words.length∧a+z<=t.Words.length
  ·rw [if_pos (by omega)] at hv;obtain ⟨X,c,rfl,hX⟩:=hv;rw [if_pos h];exact ⟨X,_,c,0,rfl,hX.low hw.size⟩
  ·rw [if_neg (by omega)] at hv;rw [if_neg h];exact ⟨none,0,0,1,hv,Own.fC _ _ _ _ _ _⟩
 obtain ⟨X,m,c,e1,rfl,hX⟩:=key;(replace hw:=Ext.trans hw oX;replace aE:=aE.ext oX;replace bf:=bf.ext oX;replace cw:=cw.ext oX;replace hq:=hq.ext oX);clear oX;refine Wz ?_;refine Wb (i:=0) cw fun w5 ml hg => ?_
 have hG:=cw.gr hg;replace bf:=bf.grown hg (by simpa using n8);replace aE:=aE.grown hg (by simpa using n4);replace hw:=hw.own uw hg;(replace hq:=hq.aJ hG rfl;replace hX:=hX.aJ hG rfl);replace cw:aR w5 tZ 44 (aK ⟨⟨X,m,c⟩,q.Heap,q.aa⟩):=ml;clear ml hG hg;have vq:jj w5 w.heap.size ⟨⟨X,m,c⟩,q.Heap,q.aa⟩ (F7 t to a z):=⟨hX,hq.heap,hq.bo⟩
 clear hq hX;refine Wz ?_;refine Wk (xB _ (F7 t to a z) cpu a _ vq.rd (LI hft to a z) ha (hS.ext hw)) fun v w6 FP hv => ?_
 obtain ⟨u,hu2,p,rfl,hp⟩:=hv;replace hp:=hp.low hw.size;(replace hw:=Ext.trans hw FP;replace aE:=aE.ext FP;replace bf:=bf.ext FP;replace cw:=cw.ext FP);clear FP vq;replace cK:=cK u hu2;replace Mk:=Mk u hu2;obtain ⟨t2,e2⟩:=u;simp only at cK Mk hp ⊢;refine Wz ?_;refine Wg cw (aU p) fun w7 ml hg => ?_
 have hG:=cw.gr hg;replace bf:=bf.grown hg (by simpa using n8);replace hw:=hw.own uw hg;(replace hp:=hp.aJ hG rfl);replace cw:=ml;clear ml hG hg;by_cases he:e2=0
 ·replace Mk:=Mk he;subst he;refine Wz ?_;refine Wg bf (aU p) fun w7 jw hg => ?_
  have hG:=bf.gr hg;replace hw:=hw.own gq hg;(replace hp:=hp.aJ hG rfl);refine Wz ?_;exact ae.fp rfl rfl rfl rfl jw rfl ⟨_,rfl,hw,_,Mk,p,rfl,hp⟩
 ·refine Wz ?_;refine Wg bf (aU .zero) fun w7 jw hg => ?_
  replace hw:=hw.own gq hg;refine Wz ?_;exact ae.fp rfl rfl rfl rfl jw rfl ⟨_,rfl,hw,_,cK he,yF.zero _ _ _⟩
variable {c2:Nat} {G:Nat->Prop} {A A2:Option Addr}
def ru.aside {n c n2:Nat} {r:de} {cs:List dT} {l:List Int} (h:SX w lo r s cs) (hJ:SJ (fun g=>aG A c=some g) w lo r s cs) (hO:Own w lo 3 1 bt A n c l) (hg:w.grownBy w' (aG A c)) (P3:∀ g,aG A2 c2=some g->aG A c=some g∨w.heap.size<=g) :
 SX w' lo r s cs∧SJ (fun g=>aG A2 c2=some g) w' lo r s cs:=by
 obtain ⟨m1,m0,h1,h0,h3⟩:=hJ.ints;have hG:=hO.gr hg;have Ih:=h.Jy
 obtain ⟨m2,k1,k2,h2⟩ : ∃ m2,m2<=m0∧m2<=w.heap.size∧jY w m1 m2 r.Heap s.Heap:=by
  rcases Nat.le_total m0 w.heap.size with e|e
  ·exact ⟨m0,aew _,e,h0⟩
  ·exact ⟨w.heap.size,e,aew _,h0.own.vK⟩
 have hh:jY w' m1 m2 r.Heap s.Heap:=by
  cases e:aG A c with
  | none=>rw [e] at hg;exact h2.aJ (⟨none,hg,fun k hk=>by cases hk⟩ : se w w' 44) rfl
  | some g =>
    rw [e] at hg;have:=(h3 g (.inr e)).1
    exact h2.Js hg hG (by omega)
 refine ⟨⟨h.words.apart hg fun g e e2=>(h3 g (.inr e2)).2 e,hh.own.low h1,h.row.aJ hG rfl,⟨h.each.len,fun k a1 a2 => ?_⟩,h.pair⟩,⟨⟨m1,m2,h1,hh,fun g e => ?_⟩,fun u hu g e e2 => ?_⟩⟩
 ·have ho:=h.each.get k a1 a2;exact ⟨ho.size,ho.per,ho.order,ho.names.aJ hG rfl,ho.aB.aJ hG rfl,ho.aV.apart hg fun g e e2=>hJ.sep _ (aet a1) g e2 e⟩
 ·rcases e with e|e
  ·have:=h3 g (.inl e)
   exact ⟨by omega,this.2⟩
  ·rcases P3 g e with e2|e2
   ·have:=h3 g (.inr e2)
    exact ⟨by omega,this.2⟩
   ·exact ⟨.inr (by omega),fun e3=>by have:=h.words.lt_size g e3;omega⟩
 ·rcases P3 g e with e3|e3
  ·exact hJ.sep u hu g e3 e2
  ·have:=Ih u hu g e2
   omega
def SJ.none {r:de} {cs:List dT} (h:SJ (fun _=>False) w lo r s cs) (hG:∀ g,¬ G g) : SJ G w lo r s cs:=by
 obtain ⟨m1,m2,h1,h2,h3⟩:=h.ints;exact ⟨⟨m1,m2,h1,h2,fun g e=>h3 g (e.imp id fun e=>hG g e)⟩,fun u hu g e=>(hG g e).elim⟩
def Own.same {n c:Nat} {l:List Int} (h:Own w lo 3 1 bt A n c l) (hk:∀ j x,aG A c=some j->aR w j 3 x->aR w' j 3 x) : Own w' lo 3 1 bt A n c l:=by
 refine ⟨h.len,?_⟩;rcases h.row with e|⟨hc,g,ka,rfl,dt,h1,h2⟩
 ·exact .inl e
 ·have e:aG (some ⟨g,0,none⟩) c=some g:=by unfold aG;rw [if_neg (by omega)];rfl
  have:=hk g ka.toList e (by unfold aR;simpa using h1)
  unfold aR at this;exact .inr ⟨hc,g,ka,rfl,dt,by simpa using this,h2⟩
set_option maxHeartbeats 8000000 in
def wk (r:de) (s:ag) (n:ByteArray) (cpu many:Int) (w:World) (hr:zU w r s) (hf:s.cS) (Mi:n.size<=140737488351232) (fh:m9 w) :
 bI prog 54 [.agg (aK r).toArray,.string n,.int .i64 cpu,.int .i64 many] w fun v w' => ∃ u,oM s n cpu many u ∧ ∃ q A c,v = .tuple #[.agg (aK q).toArray,.slice A u.2.1.length c,.int .i64 u.2.2]∧jj w' w.heap.size q u.1∧Own w' w.heap.size 3 1 bt A u.2.1.length c u.2.1:=by
 refine Wj func54 ntmps54 ?_;refine Ww fun b3 w1 hw cg ao => ?_;refine SW.alloc rfl fun b6 w3 nL dv ap => ?_
 have cQ:=hw.up dv
 have bG:b6≠b3:=by have:=ao.lt;omega
 have hz:∀ w',jj w' w.heap.size de.zero ag.zero:=fun w'=>⟨Own.fC _ _ _ _ _ _,jP.zero w' _,⟨[],fI.nil _ _⟩⟩
 (obtain ⟨hw,ao⟩:=cT nL hw ao);repeat' (first|refine Wz ?_|fail);refine Wk (vY r s n cpu _ (hr.ext hw) hf Mi) fun v w4 ar hv => ?_
 have nq:=hw.size;(obtain ⟨hw,ao,ap⟩:=cd ar hw ao ap);rcases hv with ⟨he,rfl⟩|⟨he,q,cs,rfl,hO,hI⟩
 ·have hP:=oM.ask (many:=many) he;obtain ⟨e,hE⟩ : ∃ e,gV s n cpu=e:=⟨_,rfl⟩;rw [hE] at he hP;rw [hE];repeat' (first|refine Wz ?_|fail);refine Wg ao (aU .zero) fun w5 ef hg => ?_
  have ap:=ap.grown hg (by simpa using bG);have hw:=hw.own cg hg;repeat' (first|refine Wz ?_|fail);all_goals try omega
  refine Wg ap (aU .zero) fun w6 cK hg => ?_
  have hw:=hw.own cQ hg;repeat' (first|refine Wz ?_|fail);exact ae.fp rfl rfl rfl rfl cK rfl ⟨_,rfl,hw,_,hP,.zero,none,0,rfl,hz _,Own.fC _ _ _ _ _ _⟩
 ·have hO:=hO.low nq;have hI:=hI.low nq;obtain ⟨i,c,oe,rfl,hM,hB⟩:=PO he hf;rw [oe];repeat' (first|refine Wz ?_|fail);refine Wg ao (aU q) fun w5 ef hg => ?_
  have hG:=ao.gr hg;have ap:=ap.grown hg (by simpa using bG);have hw:=hw.own cg hg;(obtain ⟨hO,hI⟩:=cT hG hO hI);have ao:=ef;clear ef hG hg;by_cases hm : 1<=many∧many<=256
  ·obtain ⟨m,rfl⟩:=aeE (show 0<=many by omega);have hP:∀ u,oL i c m s [] u->oM s n c m u:=fun u hu=>oM.EO he hm oe hu
   have xm:m<=256:=by omega
   repeat' (first|refine Wz ?_|fail);all_goals try omega
   refine CW.loop (fun t:Nat×(Option Addr×Nat×List Int)×de×ag×List dT=>[(2,.int .i64 (c:Int)),(4,.pointer (some ⟨b3,0,none⟩)),(8,.pointer (some ⟨b6,0,none⟩)),(11,.int .i64 (i:Int)),(13,.slice t.2.1.1 t.1 t.2.1.2.1),(35,.int .i64 (m:Int)),(36,.int .i64 (t.1:Int))])
    (fun t w'=>t.1<=m∧Ext w w'∧aR w' b3 44 (aK t.2.2.1)∧aR w' b6 44 (aK .zero)∧SX w' w.heap.size t.2.2.1 t.2.2.2.1 t.2.2.2.2∧SJ (fun g=>aG t.2.1.1 t.2.1.2.1=some g) w' w.heap.size t.2.2.1 t.2.2.2.1 t.2.2.2.2∧Own w' w.heap.size 3 1 bt t.2.1.1 t.1 t.2.1.2.1 t.2.1.2.2∧Bk t.2.2.2.1 i c ∧ ∀ u,oL i c (m-t.1) t.2.2.2.1 t.2.1.2.2 u->oL i c m s [] u)
    (fun t=>m-t.1) (0,(none,0,[]),q,s,cs) ⟨rfl,rfl,rfl,rfl,rfl,rfl,rfl,trivial⟩ ⟨afc _,hw,ao,ap,hO,hI.sj.none (fun g e=>by cases e),Own.fC _ _ _ _ _ _,hB,fun u hu=>hu⟩ ?_
   clear hw ao ap hO hI hB hM;rintro ⟨j,⟨A,ca,l⟩,q1,s1,cs1⟩ w6 ⟨hj,hw,ao,ap,hS,hJ,hO,hB,hR⟩
   simp only at hj ao hS hJ hO hB hR ⊢;by_cases Zb:j<m
   ·have wT:=tD hB.inv;repeat' (first|refine Wz ?_|fail);all_goals try omega
    refine SW.dK rfl rfl (JD (fun g=>aG A ca=some g) w _ b3 q1 s1 cs1 i c hB.cS hB.hi hB.inv (fh.ext hw) hw ao cg hS hJ (fun g e=>hO.lt_size g e) hB.qA (by omega)) fun v w7 hv => ?_
    obtain ⟨M,yC,hx7,uO,G7,hv⟩:=hv;have ap:=uO _ _ bG ap;have hO:=hO.same G7;have my:m-j=(m-(j+1))+1:=by omega
    rw [my] at hR;clear hw hS hJ;have hw:=hx7;rcases hv with ⟨hn,iv,rfl⟩|⟨M,rfl,rfl,X,H,We,hb,hS,hJ⟩
    ·have hQ:=hP _ (hR _ (.bad hB.hi yC hn));obtain ⟨m1,e⟩:=M;simp only at hn iv hQ;repeat' (first|refine Wz ?_|fail);all_goals try omega
     refine Wg ap (aU .zero) fun w8 cK hg => ?_
     have hw:=hw.own cQ hg;repeat' (first|refine Wz ?_|fail);exact ae.fp rfl rfl rfl rfl cK rfl ⟨_,rfl,hw,_,hQ,.zero,none,0,rfl,hz _,Own.fC _ _ _ _ _ _⟩
    ·have qO:=hB.EO yC;have cK:∀ u,oL i c (m-(j+1)) (uM s1 i c M) (l++[(iH M.c M.k).cj]) u->oL i c m s [] u:=fun u hu=>hR u (.more hB.hi yC hu)
     obtain ⟨a,ha⟩ : ∃ a,(iH M.c M.k).cj=a:=⟨_,rfl⟩;obtain ⟨s2,ij⟩ : ∃ s2,uM s1 i c M=s2:=⟨_,rfl⟩;rw [show bz (nz s1 M.ws) i (M.h,dL M.c c M.k (M.ws.getD (iH M.c M.k).cj.toNat 0))=s2 from ij] at hS hJ;rw [ha,ij] at cK;rw [ij] at qO;rw [ha];repeat' (first|refine Wz ?_|fail);all_goals try omega
     refine SW.dR rfl rfl rfl rfl rfl fun bn w9 ar U2 P2 => ?_
     (obtain ⟨hw,hb,ap,hS,hJ,hO⟩:=jh ar hw hb ap hS hJ hO);refine SW.Ec hO (aR.wv (enc:=bt) (x:=a) P2) hw.size (by omega) rfl rfl rfl (by omega) (by omega) fun A2 c2 oP bg hg P3 => ?_
     obtain ⟨za,xJ⟩:=hS.aside (n2:=0) hJ hO hg P3;have hG:=hO.gr hg;have hw:=aD hw hg (aew _) hO.aW;(obtain ⟨hb,ap⟩:=cT hG hb ap);repeat' (first|refine Wz ?_|fail);exact ae.again (j+1,(A2,c2,l++[a]),⟨X,H,q1.aa⟩,s2,We) ⟨rfl,rfl,rfl,rfl,rfl,rfl,rfl,trivial⟩ (by simp only;omega) ⟨by simp only;omega,hw,hb,ap,za,xJ,bg,qO,cK⟩
   ·obtain rfl:j=m:=by omega
    have hQ:=hP _ (hR (s1,l,0) (by rw [agC];exact .done));have mx:=hO.len;repeat' (first|refine Wz ?_|fail);all_goals try omega
    refine Wg ap (aU q1) fun w7 cK hg => ?_
    have hG:=ap.gr hg;have hw:=hw.own cQ hg;(obtain ⟨hS,hO⟩:=cT hG hS hO);repeat' (first|refine Wz ?_|fail);exact ae.fp rfl rfl rfl rfl cK rfl ⟨_,rfl,hw,_,hQ,_,A,ca,by rw [mx],hS.xd,by rw [mx];exact hO⟩
  ·have hP:=oM.range he hm;repeat' (first|refine Wz ?_|refine SW.gp rfl rfl rfl (fun h => ?_) (fun h => ?_))
   all_goals try omega
   all_goals refine Wg ap (aU .zero) fun w7 cK hg => ?_
   all_goals have hw:=hw.own cQ hg
   repeat' (first|refine Wz ?_|fail);all_goals exact ae.fp rfl rfl rfl rfl cK rfl ⟨_,rfl,hw,_,hP,.zero,none,0,rfl,hz _,Own.fC _ _ _ _ _ _⟩
variable {R:Ending->World->Prop} {fn:Func} {cs:List Value} {b m:Nat} {P:Program}
def ae.Bx {n:Nat} {L:Env} {t u q o ty tb:Nat} {x y z:Value} [c:fG P ty m] (hr:fn.results = #[.cell t ty,.tmp u,.tmp q,.tmp o]) (hv:get L t=some (.pointer (some ⟨b,0,none⟩))) (hx:get L u=some x) (hy:get L q=some y) (hz:get L o=some z) (hB:aR w b tb cs) (hl:Nat.beq cs.length m=true) (h:R (.returned (.tuple #[.agg cs.toArray,x,y,z])) w) : ae n (bodyPost P fn R) .ret L w :=
 ⟨fun a ha=>⟨ha.defers,_,by simpa using mY.results (rs:=[.cell t ty,.tmp u,.tmp q,.tmp o]) hr (.cell c hv hB (aeY hl) (.tmp hx (.tmp hy (.tmp hz .nil)))) ha,h⟩⟩
def VE (lo:Nat) (u:ag×Int×List Int×Int) (v:Value) (w:World) : Prop := ∃ q A c,v = .tuple #[.agg (aK q).toArray,.int .i64 u.2.1,.slice A u.2.2.1.length c,.int .i64 u.2.2.2]∧jj w lo q u.1∧Own w lo 3 1 bt A u.2.2.1.length c u.2.2.1
def uY (a:cr) : Prop := ∀ (r:de) (s:ag) (lo:Nat) (w:World),jj w lo r s->lo<=w.heap.size->dy s->m9 w ->
 bI prog 25 [.agg (aK r).toArray,.agg (dZ a).toArray] w fun v w' => ∃ u,eK s a u∧VE lo u v w'
set_option maxHeartbeats 4000000 in
def GI (a:cr) (hk:a.Kind=3) (pu:a.Name.size<=140737488351232) : uY a:=by
 intro r s lo w hO dt hI fh;obtain ⟨k,cpu,n,m,At,fl,nm⟩:=a;simp only at hk pu ⊢;subst hk;have hf:=hI.cS;refine Wj func25 ntmps25 ?_;refine Ww fun b2 w1 hw eW aq => ?_;have l2:=aq.lt;refine SW.box rfl rfl fun b3 w2 bq cg ao => ?_
 (obtain ⟨hw,aq⟩:=cT bq hw aq);clear bq;have l3:=ao.lt;refine SW.alloc rfl fun b4 w2 bq fw aE => ?_
 have dQ:=hw.up fw
 (obtain ⟨hw,aq,ao⟩:=cd bq hw aq ao);clear bq;have LH:b4≠b2:=by omega
 repeat' (first|refine Wy ?_|refine Wm ((fun _ _=>aq.cell)) ?_|refine Wl (ao.cell (i:=0) (v := .int .i64 3) rfl) ?_|refine Wl (ao.cell (i:=6) (v := .string nm) rfl) ?_|refine Wl (ao.cell (i:=2) (v := .int .i64 n) rfl) ?_|refine Wl (ao.cell (i:=3) (v := .int .i64 m) rfl) ?_)
 refine Wk (uV r s nm n m _ (hO.rd.ext hw) hf pu) fun v w7 iV hv => ?_
 obtain ⟨u,hu,q,rfl,hH⟩:=hv;have hA:=eK.me (s:=s) (a:=⟨3,cpu,n,m,At,fl,nm⟩) rfl hu;have hH:=hH.low (aev dt hw.size);(obtain ⟨hw,aq,ao,aE⟩:=dJ iV hw aq ao aE);clear iV;obtain ⟨u1,e⟩:=u;simp only at hA hH ⊢;repeat' (first|refine Wy ?_|fail);refine Wg aq (aU q) fun qH lF hg => ?_
 have hG:=aq.gr hg;have aE:=aE.grown hg (by simpa using LH);have hw:=hw.own eW hg;(have hH:=hH.aJ hG rfl);have aq:=lF;clear lF hG hg;repeat' (first|refine Wy ?_|refine Wm ((fun _ _=>aq.cell)) ?_)
 refine Wg aE (aU q) fun iZ jw hg => ?_
 have hG:=aE.gr hg;have hw:=hw.own dQ hg;(have hH:=hH.aJ hG rfl);repeat' (first|refine Wy ?_|fail);exact ae.Bx rfl rfl rfl rfl rfl jw rfl ⟨_,rfl,hw,_,hA,q,none,0,rfl,hH,Own.fC _ _ _ _ _ _⟩
set_option maxHeartbeats 4000000 in
def GJ (a:cr) (hk:a.Kind=5) (pu:a.Name.size<=140737488351232) : uY a:=by
 intro r s lo w hO dt hI fh;obtain ⟨k,cpu,n,m,At,fl,nm⟩:=a;simp only at hk pu ⊢;subst hk;have hf:=hI.cS;refine Wj func25 ntmps25 ?_;refine Ww fun b2 w1 hw eW aq => ?_;have l2:=aq.lt;refine SW.box rfl rfl fun b3 w2 bq cg ao => ?_
 (obtain ⟨hw,aq⟩:=cT bq hw aq);clear bq;have l3:=ao.lt;refine SW.alloc rfl fun b4 w2 bq fw aE => ?_
 have dQ:=hw.up fw
 (obtain ⟨hw,aq,ao⟩:=cd bq hw aq ao);clear bq;have LH:b4≠b2:=by omega
 repeat' (first|refine Wy ?_|refine Wm ((fun _ _=>aq.cell)) ?_|refine Wl (ao.cell (i:=0) (v := .int .i64 5) rfl) ?_|refine Wl (ao.cell (i:=6) (v := .string nm) rfl) ?_|refine Wl (ao.cell (i:=1) (v := .int .i64 cpu) rfl) ?_)
 refine Wk (pV r s nm cpu _ (hO.rd.ext hw) hf pu (fh.ext hw)) fun v w7 iV hv => ?_
 obtain ⟨u,hu,q,rfl,hH⟩:=hv;have hA:=eK.new (s:=s) (a:=⟨5,cpu,n,m,At,fl,nm⟩) rfl hu;have hH:=hH.low (aev dt hw.size);(obtain ⟨hw,aq,ao,aE⟩:=dJ iV hw aq ao aE);clear iV;obtain ⟨u1,N,e⟩:=u;simp only at hA hH ⊢;repeat' (first|refine Wy ?_|fail);refine Wg aq (aU q) fun qH lF hg => ?_
 have hG:=aq.gr hg;have aE:=aE.grown hg (by simpa using LH);have hw:=hw.own eW hg;(have hH:=hH.aJ hG rfl);have aq:=lF;clear lF hG hg;repeat' (first|refine Wy ?_|refine Wm ((fun _ _=>aq.cell)) ?_)
 refine Wg aE (aU q) fun iZ jw hg => ?_
 have hG:=aE.gr hg;have hw:=hw.own dQ hg;(have hH:=hH.aJ hG rfl);repeat' (first|refine Wy ?_|fail);exact ae.Bx rfl rfl rfl rfl rfl jw rfl ⟨_,rfl,hw,_,hA,q,none,0,rfl,hH,Own.fC _ _ _ _ _ _⟩
set_option maxHeartbeats 4000000 in
def yf (a:cr) (hk:a.Kind=6) (pu:a.Name.size<=140737488351232) (Ch : -9223372036854775808<=a.At∧a.At<=9223372036854775807) : uY a:=by
 intro r s lo w hO dt hI fh;obtain ⟨k,cpu,n,m,At,fl,nm⟩:=a;simp only at hk pu Ch ⊢;subst hk;have hf:=hI.cS;refine Wj func25 ntmps25 ?_;refine Ww fun b2 w1 hw eW aq => ?_;have l2:=aq.lt;refine SW.box rfl rfl fun b3 w2 bq cg ao => ?_
 (obtain ⟨hw,aq⟩:=cT bq hw aq);clear bq;have l3:=ao.lt;refine SW.alloc rfl fun b4 w2 bq fw aE => ?_
 have dQ:=hw.up fw
 (obtain ⟨hw,aq,ao⟩:=cd bq hw aq ao);clear bq;have LH:b4≠b2:=by omega
 repeat' (first|refine Wy ?_|refine Wm ((fun _ _=>aq.cell)) ?_|refine Wl (ao.cell (i:=0) (v := .int .i64 6) rfl) ?_|refine Wl (ao.cell (i:=6) (v := .string nm) rfl) ?_|refine Wl (ao.cell (i:=1) (v := .int .i64 cpu) rfl) ?_|refine Wl (ao.cell (i:=4) (v := .int .i64 At) rfl) ?_)
 refine Wk (rO r s nm cpu At _ (hO.rd.ext hw) hf pu Ch) fun v w7 iV hv => ?_
 obtain ⟨u,hu,q,rfl,hH⟩:=hv;have hA:=eK.drop (s:=s) (a:=⟨6,cpu,n,m,At,fl,nm⟩) rfl hu;have hH:=hH.low (aev dt hw.size);(obtain ⟨hw,aq,ao,aE⟩:=dJ iV hw aq ao aE);clear iV;obtain ⟨u1,e⟩:=u;simp only at hA hH ⊢;repeat' (first|refine Wy ?_|fail);refine Wg aq (aU q) fun qH lF hg => ?_
 have hG:=aq.gr hg;have aE:=aE.grown hg (by simpa using LH);have hw:=hw.own eW hg;(have hH:=hH.aJ hG rfl);have aq:=lF;clear lF hG hg;repeat' (first|refine Wy ?_|refine Wm ((fun _ _=>aq.cell)) ?_)
 refine Wg aE (aU q) fun iZ jw hg => ?_
 have hG:=aE.gr hg;have hw:=hw.own dQ hg;(have hH:=hH.aJ hG rfl);repeat' (first|refine Wy ?_|fail);exact ae.Bx rfl rfl rfl rfl rfl jw rfl ⟨_,rfl,hw,_,hA,q,none,0,rfl,hH,Own.fC _ _ _ _ _ _⟩
set_option maxHeartbeats 4000000 in
def yg (a:cr) (hk:a.Kind=7) (pu:a.Name.size<=140737488351232) : uY a:=by
 intro r s lo w hO dt hI fh;obtain ⟨k,cpu,n,m,At,fl,nm⟩:=a;simp only at hk pu ⊢;subst hk;have hf:=hI.cS;refine Wj func25 ntmps25 ?_;refine Ww fun b2 w1 hw eW aq => ?_;have l2:=aq.lt;refine SW.box rfl rfl fun b3 w2 bq cg ao => ?_
 (obtain ⟨hw,aq⟩:=cT bq hw aq);clear bq;have l3:=ao.lt;refine SW.alloc rfl fun b4 w2 bq fw aE => ?_
 have dQ:=hw.up fw
 (obtain ⟨hw,aq,ao⟩:=cd bq hw aq ao);clear bq;have LH:b4≠b2:=by omega
 repeat' (first|refine Wy ?_|refine Wm ((fun _ _=>aq.cell)) ?_|refine Wl (ao.cell (i:=0) (v := .int .i64 7) rfl) ?_|refine Wl (ao.cell (i:=6) (v := .string nm) rfl) ?_)
 refine Wk (AV r s nm _ (hO.rd.ext hw) hf pu) fun v w7 iV hv => ?_
 obtain ⟨q,rfl,hH⟩:=hv;have hA:=eK.shrink (s:=s) (a:=⟨7,cpu,n,m,At,fl,nm⟩) rfl;generalize ie s nm=u at hA hH ⊢
 have hH:=hH.low (aev dt hw.size);(obtain ⟨hw,aq,ao,aE⟩:=dJ iV hw aq ao aE);clear iV;obtain ⟨u1,e⟩:=u;simp only at hA hH ⊢;repeat' (first|refine Wy ?_|fail);refine Wg aq (aU q) fun qH lF hg => ?_
 have hG:=aq.gr hg;have aE:=aE.grown hg (by simpa using LH);have hw:=hw.own eW hg;(have hH:=hH.aJ hG rfl);have aq:=lF;clear lF hG hg;repeat' (first|refine Wy ?_|refine Wm ((fun _ _=>aq.cell)) ?_)
 refine Wg aE (aU q) fun iZ jw hg => ?_
 have hG:=aE.gr hg;have hw:=hw.own dQ hg;(have hH:=hH.aJ hG rfl);repeat' (first|refine Wy ?_|fail);exact ae.Bx rfl rfl rfl rfl rfl jw rfl ⟨_,rfl,hw,_,hA,q,none,0,rfl,hH,Own.fC _ _ _ _ _ _⟩
set_option maxHeartbeats 4000000 in
def EB (a:cr) (hk:a.Kind=15) (pu:a.Name.size<=140737488351232) : uY a:=by
 intro r s lo w hO dt hI fh;obtain ⟨k,cpu,n,m,At,fl,nm⟩:=a;simp only at hk pu ⊢;subst hk;have hf:=hI.cS;refine Wj func25 ntmps25 ?_;refine Ww fun b2 w1 hw eW aq => ?_;have l2:=aq.lt;refine SW.box rfl rfl fun b3 w2 bq cg ao => ?_
 (obtain ⟨hw,aq⟩:=cT bq hw aq);clear bq;have l3:=ao.lt;refine SW.alloc rfl fun b4 w2 bq fw aE => ?_
 have dQ:=hw.up fw
 (obtain ⟨hw,aq,ao⟩:=cd bq hw aq ao);clear bq;have LH:b4≠b2:=by omega
 repeat' (first|refine Wy ?_|refine Wm ((fun _ _=>aq.cell)) ?_|refine Wl (ao.cell (i:=0) (v := .int .i64 15) rfl) ?_|refine Wl (ao.cell (i:=6) (v := .string nm) rfl) ?_|refine Wl (ao.cell (i:=1) (v := .int .i64 cpu) rfl) ?_|refine Wl (ao.cell (i:=2) (v := .int .i64 n) rfl) ?_)
 refine Wk (wk r s nm cpu n _ (hO.rd.ext hw) hf pu (fh.ext hw)) fun v w7 iV hv => ?_
 obtain ⟨u,hu,q,A,c,rfl,hH,hL⟩:=hv;have hA:=eK.bulk (s:=s) (a:=⟨15,cpu,n,m,At,fl,nm⟩) rfl hu;have hH:=hH.low (aev dt hw.size);have hL:=hL.low (aev dt hw.size);(obtain ⟨hw,aq,ao,aE⟩:=dJ iV hw aq ao aE);clear iV;obtain ⟨u1,N,e⟩:=u;simp only at hA hH hL ⊢;repeat' (first|refine Wy ?_|fail);refine Wg aq (aU q) fun qH lF hg => ?_
 have hG:=aq.gr hg;have aE:=aE.grown hg (by simpa using LH);have hw:=hw.own eW hg;(obtain ⟨hH,hL⟩:=cT hG hH hL);have aq:=lF;clear lF hG hg;repeat' (first|refine Wy ?_|refine Wm ((fun _ _=>aq.cell)) ?_)
 refine Wg aE (aU q) fun iZ jw hg => ?_
 have hG:=aE.gr hg;have hw:=hw.own dQ hg;(obtain ⟨hH,hL⟩:=cT hG hH hL);repeat' (first|refine Wy ?_|fail);exact ae.Bx rfl rfl rfl rfl rfl jw rfl ⟨_,rfl,hw,_,hA,q,A,c,rfl,hH,hL⟩
set_option maxHeartbeats 16000000 in
def nk (a:cr) (hk:a.Kind=3∨a.Kind=4∨a.Kind=5∨a.Kind=6∨a.Kind=7∨a.Kind=15) (hC:uY a) : fM dy a:=by
 intro r s lo w hO dt hI hS fh;have YS:=fun w' hx=>hC r s lo w' (hO.ext hx) (aev dt hx.size) hI (fh.ext hx)
 have YT:=fun u hu=>cu.bo (s:=s) (a:=a) (u:=u) (by omega) hu
 clear hC;obtain ⟨k,cpu,n,m,At,fl,nm⟩:=a;simp only at hk YS YT ⊢;refine uA func12 rfl ntmps12 rfl ?_;refine CW.seq (CW.region (SW.box rfl rfl fun b2 w1 hw eW aq => ?_));have l2:=aq.lt;refine SW.box rfl rfl fun b3 w2 bq cg ao => ?_
 have gm:=hw.up cg
 (obtain ⟨hw,aq⟩:=cT bq hw aq);clear bq;have l3:=ao.lt;refine SW.alloc rfl fun b4 w2 bq fw aE => ?_
 have dQ:=hw.up fw
 (obtain ⟨hw,aq,ao⟩:=cd bq hw aq ao);clear bq;have l4:=aE.lt;refine SW.alloc rfl fun b5 w2 bq gI aL => ?_
 have jR:=hw.up gI
 (obtain ⟨hw,aq,ao,aE⟩:=dJ bq hw aq ao aE);clear bq;have l5:=aL.lt;repeat' (first|refine Wy ?_|refine Wm ((fun _ _=>aq.cell)) ?_)
 refine SW.alloc rfl fun b6 w1 ah dv ap => ?_
 skip;refine SW.bw ap rfl rfl rfl rfl (aU r) fun w2 bQ hg => ?_
 have ar:=ah.own dv hg;have cQ:=hw.up dv
 obtain ⟨hw,aq,ao,aE,aL⟩:=fH ar hw aq ao aE aL;have ap:=bQ;clear bQ ah hg ar;have l6:=ap.lt;repeat' (first|refine Wy ?_|fail);refine SW.alloc rfl fun b7 w1 ah iT bc => ?_
 skip;refine SW.bw bc rfl rfl rfl rfl (fE ⟨0,0,.nil⟩) fun w2 bp hg => ?_
 have ar:=ah.own iT hg;have gn:=hw.up iT
 obtain ⟨hw,aq,ao,aE,aL,ap⟩:=jh ar hw aq ao aE aL ap;have bc:=bp;clear bp ah hg ar;have yb:b2≠b6:=by omega
 have yd:b4≠b6:=by omega
 have Oo:b2≠b4:=by omega
 have rN:b5≠b7:=by omega
 clear l2 l3 l4 l5 l6;rcases hk with rfl|rfl|rfl|rfl|rfl|rfl
 all_goals repeat' (first|refine Wy ?_|refine Wm ((fun _ _=>aq.cell)) ?_|refine Wm ((fun _ _=>ao.cell)) ?_|refine Wl (ao.cell (i:=0) (v := .int .i64 3) rfl) ?_|refine Wl (ao.cell (i:=0) (v := .int .i64 4) rfl) ?_|refine Wl (ao.cell (i:=0) (v := .int .i64 5) rfl) ?_|refine Wl (ao.cell (i:=0) (v := .int .i64 6) rfl) ?_|refine Wl (ao.cell (i:=0) (v := .int .i64 7) rfl) ?_|refine Wl (ao.cell (i:=0) (v := .int .i64 15) rfl) ?_)
 all_goals
  refine Wk (YS _ hw) fun v w7 iV hv => ?_
  obtain ⟨u,hu,q,A,c,rfl,hH,hL⟩:=hv;(obtain ⟨hw,aq,aE,aL,ap,bc⟩:=jh iV hw aq aE aL ap bc);clear iV ao;have bg:=hO.ext hw;have hA:=YT u hu;clear YS YT hu;obtain ⟨u1,N,l,e⟩:=u;simp only at hA hH hL ⊢;by_cases he:e=0
  ·rw [ms,if_pos he,he] at hA;rw [he];repeat' (first|refine Wy ?_|fail);refine SW.bw ap rfl rfl rfl rfl (aU q) fun qH bQ hg => ?_
   have hG:=ap.gr hg;have aq:=aq.grown hg (by simpa using yb);have aE:=aE.grown hg (by simpa using yd);have hw:=hw.own cQ hg;(obtain ⟨aL,bc,bg,hH,hL⟩:=fH hG aL bc bg hH hL);have ap:=bQ;clear bQ hG hg;repeat' (first|refine Wy ?_|fail);refine Wb (i:=1) bc fun iZ bp hg => ?_
   have hG:=bc.gr hg;have aL:=aL.grown hg (by simpa using rN);have hw:=hw.own gn hg;(obtain ⟨aq,aE,ap,bg,hH,hL⟩:=jh hG aq aE ap bg hH hL);have bc:aR _ b7 56 (ck ⟨0,N,.nil⟩):=bp;clear bp hG hg;repeat' (first|refine Wy ?_|fail);refine Wb (i:=2) bc fun iZ bp hg => ?_
   have hG:=bc.gr hg;have aL:=aL.grown hg (by simpa using rN);have hw:=hw.own gn hg;(obtain ⟨aq,aE,ap,bg,hH,hL⟩:=jh hG aq aE ap bg hH hL);have bc:aR _ b7 56 (ck ⟨0,N,⟨A,l.length,c⟩⟩):=bp;clear bp hG hg;repeat' (first|refine Wy ?_|fail);refine Wb (i:=0) bc fun iZ bp hg => ?_
   have hG:=bc.gr hg;have aL:=aL.grown hg (by simpa using rN);have hw:=hw.own gn hg;(obtain ⟨aq,aE,ap,bg,hH,hL⟩:=jh hG aq aE ap bg hH hL);have bc:aR _ b7 56 (ck ⟨0,N,⟨A,l.length,c⟩⟩):=bp;clear bp hG hg;repeat' (first|refine Wy ?_|refine Wl (bc.cell (i:=0) (v := .int .i64 0) rfl) ?_)
   refine CW.gB 2 3 (fun w2=>aR w2 b7 56 (ck ⟨0,N,⟨A,l.length,c⟩⟩)) mixed (by kernel_rfl) fun w1 ah aI => ?_
   obtain ⟨hw,aq,aE,aL,ap,bc,bg,hH,hL⟩:=Mx ah hw aq aE aL ap bc bg hH hL;clear ah;refine Wt 0 [] [] aI rfl (aY rfl rfl ((fun _ _=>ap.cell))) ?_;refine SF.jl 1 [] aI rfl (by kernel_rfl) (by kernel_rfl) (by kernel_rfl) (aY rfl rfl ((fun _ _=>bc.cell))) (fun w2 hS=>aY rfl rfl ((fun _ _=>hS.cell))) rfl ?_;refine SF.turn rfl (by kernel_rfl) rfl ?_;refine SW.bw aE rfl rfl rfl rfl (aU q) fun w8 df hg => ?_
   have hG:=aE.gr hg;have hw:=hw.own dQ hg;(obtain ⟨aL,bc,bg,hH,hL⟩:=fH hG aL bc bg hH hL);have hS:=bc;refine SW.nil (ae.sg hS ?_);refine SG.last rfl (by kernel_rfl) (by kernel_rfl) ?_;refine SW.bw aL rfl rfl rfl rfl (fE ⟨0,N,⟨A,l.length,c⟩⟩) fun w9 fa hg => ?_
   have hG:=aL.gr hg;have hw:=hw.own jR hg;(obtain ⟨df,bg,hH,hL⟩:=dJ hG df bg hH hL);repeat' (first|refine Wy ?_|fail);exact ae.nG rfl rfl rfl df fa rfl rfl ⟨_,rfl,hw,_,hA,q,⟨0,N,⟨A,l.length,c⟩⟩,rfl,hH,⟨rfl,rfl,hL⟩⟩
  ·rw [ms,if_neg he] at hA;repeat' (first|refine Wy ?_|fail);refine SW.bw ap rfl rfl rfl rfl (aU q) fun qH bQ hg => ?_
   have hG:=ap.gr hg;have aq:=aq.grown hg (by simpa using yb);have aE:=aE.grown hg (by simpa using yd);have hw:=hw.own cQ hg;(obtain ⟨aL,bc,bg,hH,hL⟩:=fH hG aL bc bg hH hL);have ap:=bQ;clear bQ hG hg;repeat' (first|refine Wy ?_|fail);refine Wb (i:=1) bc fun iZ bp hg => ?_
   have hG:=bc.gr hg;have aL:=aL.grown hg (by simpa using rN);have hw:=hw.own gn hg;(obtain ⟨aq,aE,ap,bg,hH,hL⟩:=jh hG aq aE ap bg hH hL);have bc:aR _ b7 56 (ck ⟨0,N,.nil⟩):=bp;clear bp hG hg;repeat' (first|refine Wy ?_|fail);refine Wb (i:=2) bc fun iZ bp hg => ?_
   have hG:=bc.gr hg;have aL:=aL.grown hg (by simpa using rN);have hw:=hw.own gn hg;(obtain ⟨aq,aE,ap,bg,hH,hL⟩:=jh hG aq aE ap bg hH hL);have bc:aR _ b7 56 (ck ⟨0,N,⟨A,l.length,c⟩⟩):=bp;clear bp hG hg;repeat' (first|refine Wy ?_|fail);refine Wb (i:=0) bc fun iZ bp hg => ?_
   have hG:=bc.gr hg;have aL:=aL.grown hg (by simpa using rN);have hw:=hw.own gn hg;(obtain ⟨aq,aE,ap,bg,hH,hL⟩:=jh hG aq aE ap bg hH hL);have bc:aR _ b7 56 (ck ⟨e,N,⟨A,l.length,c⟩⟩):=bp;clear bp hG hg;repeat' (first|refine Wy ?_|refine Wl (bc.cell (i:=0) (v := .int .i64 e) rfl) ?_)
   refine CW.gB 2 3 (fun w2=>aR w2 b7 56 (ck ⟨e,N,⟨A,l.length,c⟩⟩)) mixed (by kernel_rfl) fun w1 ah aI => ?_
   obtain ⟨hw,aq,aE,aL,ap,bc,bg,hH,hL⟩:=Mx ah hw aq aE aL ap bc bg hH hL;clear ah;refine Wt 0 [] [] aI rfl (aY rfl rfl ((fun _ _=>aq.cell))) ?_;refine SF.jl 1 [] aI rfl (by kernel_rfl) (by kernel_rfl) (by kernel_rfl) (aY rfl rfl ((fun _ _=>bc.cell))) (fun w2 hS=>aY rfl rfl ((fun _ _=>hS.cell))) rfl ?_;refine SF.turn rfl (by kernel_rfl) rfl ?_;refine SW.bw aE rfl rfl rfl rfl (aU r) fun w8 df hg => ?_
   have hG:=aE.gr hg;have hw:=hw.own dQ hg;(obtain ⟨aL,bc,bg,hH,hL⟩:=fH hG aL bc bg hH hL);have hS:=bc;refine SW.nil (ae.sg hS ?_);refine SG.last rfl (by kernel_rfl) (by kernel_rfl) ?_;refine SW.bw aL rfl rfl rfl rfl (fE ⟨e,N,⟨A,l.length,c⟩⟩) fun w9 fa hg => ?_
   have hG:=aL.gr hg;have hw:=hw.own jR hg;(obtain ⟨df,bg,hH,hL⟩:=dJ hG df bg hH hL);repeat' (first|refine Wy ?_|fail);exact ae.nG rfl rfl rfl df fa rfl rfl ⟨_,rfl,hw,_,hA,r,⟨e,N,⟨A,l.length,c⟩⟩,rfl,bg,⟨rfl,rfl,hL⟩⟩
structure ti (w:World) (lo:Nat) (s:ag) (a:cr) (b6 b7:Nat) (q:de) (t:ag) (x:qI) (y:j8) : Prop where
 b6:aR w b6 44 (aK q)
 b7:aR w b7 56 (ck x)
 own:jj w lo q t
 ans:kH w lo x y
 act:cu s a (ms y.Code s t,y)
def IR (s:ag) (a:cr) : Prop:=(a.Kind=2->(0<=a.At∧a.At<256)∧cV s (a.At*16)=true)∧(a.Kind=13∨a.Kind=14->gu s a.At true)∧(a.Kind=13->rF a.M)
def LJ {a:cr} (hk:a.Kind=2) (h : 0<=a.At∧a.At<256) (hw:cV s (a.At*16)=true) : cu s a (ms (fq s.Heap a.gl a.At).1 s (oN s (fq s.Heap a.gl a.At).2),⟨(fq s.Heap a.gl a.At).1,0,[]⟩):=by
 by_cases e:(fq s.Heap a.gl a.At).1=0
 ·have:=cu.nX hk (pB.ok h hw e)
  rw [e];exact this
 ·have:=cu.nX hk (pB.fault h hw e)
  simp only [ms,if_neg e] at this ⊢;exact this
set_option maxHeartbeats 40000000 in
def Oz (a:cr) (hk:a.Kind∈[8,11,5,3,6,9,7,1,2,12,15]) (Ch : -9223372036854775808<=a.At∧a.At<=9223372036854775807) (pu:a.Name.size<=140737488351232) (r:de) (s:ag) (lo:Nat) (w:World) (hO:jj w lo r s) (dt:lo<=w.heap.size) (hI:dy s) (hD:IR s a) (hS:iQ w) (fh:m9 w) :
 bI prog 21 [.agg (aK r).toArray,.agg (dZ a).toArray] w fun v w' => ∃ u,cu s a u∧P7 lo u v w':=by
 have hf:=hI.cS;have hs:=hf.small;have hwm:=hI.may.words;have wl:=hO.words.len;have hWA:=hO.words.sl.base;obtain ⟨k,cpu,n,m,At,fl,nm⟩:=a;simp only [List.mem_cons,List.not_mem_nil,or_false] at hk;simp only at Ch pu;refine uA func21 rfl ntmps21 rfl ?_;refine CW.seq (CW.region (SW.box rfl rfl fun b2 w1 hw eW aq => ?_));have l2:=aq.lt;refine SW.box rfl rfl fun b3 w2 bq cg ao => ?_
 have gm:=hw.up cg
 (obtain ⟨hw,aq⟩:=cT bq hw aq);clear bq;have l3:=ao.lt;refine SW.alloc rfl fun b4 w2 bq fw aE => ?_
 have dQ:=hw.up fw
 (obtain ⟨hw,aq,ao⟩:=cd bq hw aq ao);clear bq;have l4:=aE.lt;refine SW.alloc rfl fun b5 w2 bq gI aL => ?_
 have jR:=hw.up gI
 (obtain ⟨hw,aq,ao,aE⟩:=dJ bq hw aq ao aE);clear bq;have l5:=aL.lt;repeat' (first|refine Wy ?_|refine Wm ((fun _ _=>aq.cell)) ?_)
 refine SW.alloc rfl fun b6 w1 ah dv ap => ?_
 skip;refine SW.bw ap rfl rfl rfl rfl (aU r) fun w2 bQ hg => ?_
 have ar:=ah.own dv hg;have cQ:=hw.up dv
 obtain ⟨hw,aq,ao,aE,aL⟩:=fH ar hw aq ao aE aL;have ap:=bQ;clear bQ ah hg ar;have l6:=ap.lt;repeat' (first|refine Wy ?_|fail);refine SW.alloc rfl fun b7 w1 ah iT bc => ?_
 skip;refine SW.bw bc rfl rfl rfl rfl (fE ⟨0,0,.nil⟩) fun w2 bp hg => ?_
 have ar:=ah.own iT hg;have gn:=hw.up iT
 obtain ⟨hw,aq,ao,aE,aL,ap⟩:=jh ar hw aq ao aE aL ap;have bc:=bp;clear bp ah hg ar;have yb:b2≠b6:=by omega
 have yd:b4≠b6:=by omega
 have Oo:b2≠b4:=by omega
 have rN:b5≠b7:=by omega
 clear l2 l3 l4 l5 l6;rcases hk with rfl|rfl|rfl|rfl|rfl|rfl|rfl|rfl|rfl|rfl|rfl
 all_goals repeat' (first|refine Wy ?_|refine Wm ((fun _ _=>aq.cell)) ?_|refine Wm ((mH aq)) ?_|refine Wl (ao.cell (i:=0) (v := .int .i64 8) rfl) ?_|refine Wl (ao.cell (i:=0) (v := .int .i64 11) rfl) ?_|refine Wl (ao.cell (i:=0) (v := .int .i64 5) rfl) ?_|refine Wl (ao.cell (i:=0) (v := .int .i64 3) rfl) ?_|refine Wl (ao.cell (i:=0) (v := .int .i64 6) rfl) ?_|refine Wl (ao.cell (i:=0) (v := .int .i64 9) rfl) ?_|refine Wl (ao.cell (i:=0) (v := .int .i64 7) rfl) ?_|refine Wl (ao.cell (i:=0) (v := .int .i64 1) rfl) ?_|refine Wl (ao.cell (i:=0) (v := .int .i64 2) rfl) ?_|refine Wl (ao.cell (i:=0) (v := .int .i64 12) rfl) ?_|refine Wl (ao.cell (i:=0) (v := .int .i64 15) rfl) ?_|refine Wl (ao.cell (i:=1) (v := .int .i64 cpu) rfl) ?_|refine Wl (ao.cell (i:=2) (v := .int .i64 n) rfl) ?_|refine Wl (ao.cell (i:=3) (v := .int .i64 m) rfl) ?_|refine Wl (ao.cell (i:=4) (v := .int .i64 At) rfl) ?_|refine Wl (ao.cell (i:=5) (v := .int .i64 fl) rfl) ?_|refine Wl (ao.cell (i:=6) (v := .string nm) rfl) ?_)
 focus
  refine Wk (uX r s cpu n _ (hO.rd.ext hw) hf (hS.ext hw) (fh.ext hw)) fun v w7 iV hv => ?_
  obtain ⟨u,hu,q,rfl,hH⟩:=hv;have hH:=hH.low (aev dt hw.size);have hA:=cu.fL (s:=s) (a:=⟨8,cpu,n,m,At,fl,nm⟩) rfl hu;clear hu
 rotate_left
 focus
  refine Wk (Bw r s cpu At n _ (hO.rd.ext hw) hI Ch (hS.ext hw) (fh.ext hw)) fun v w7 iV hv => ?_
  obtain ⟨u,hu,q,rfl,hH⟩:=hv;have hH:=hH.low (aev dt hw.size);have hA:=cu.eA (s:=s) (a:=⟨11,cpu,n,m,At,fl,nm⟩) rfl hu;clear hu
 rotate_left
 focus
  refine Wk (pV r s nm cpu _ (hO.rd.ext hw) hf pu (fh.ext hw)) fun v w7 iV hv => ?_
  obtain ⟨u,hu,q,rfl,hH⟩:=hv;have hH:=hH.low (aev dt hw.size);have hA:=cu.bo (s:=s) (a:=⟨5,cpu,n,m,At,fl,nm⟩) (by simp) (eK.new (a:=⟨5,cpu,n,m,At,fl,nm⟩) rfl hu);clear hu
 rotate_left
 focus
  refine Wk (uV r s nm n m _ (hO.rd.ext hw) hf pu) fun v w7 iV hv => ?_
  obtain ⟨u,hu,q,rfl,hH⟩:=hv;have hH:=hH.low (aev dt hw.size);have hA:=cu.bo (s:=s) (a:=⟨3,cpu,n,m,At,fl,nm⟩) (by simp) (eK.me (a:=⟨3,cpu,n,m,At,fl,nm⟩) rfl hu);clear hu
 rotate_left
 focus
  refine Wk (rO r s nm cpu At _ (hO.rd.ext hw) hf pu Ch) fun v w7 iV hv => ?_
  obtain ⟨u,hu,q,rfl,hH⟩:=hv;have hH:=hH.low (aev dt hw.size);have hA:=cu.bo (s:=s) (a:=⟨6,cpu,n,m,At,fl,nm⟩) (by simp) (eK.drop (a:=⟨6,cpu,n,m,At,fl,nm⟩) rfl hu);clear hu
 rotate_left
 focus
  refine Wk (xB r s cpu At _ (hO.rd.ext hw) hf Ch (hS.ext hw)) fun v w7 iV hv => ?_
  obtain ⟨u,hu,q,rfl,hH⟩:=hv;have hH:=hH.low (aev dt hw.size);have hA:=cu.kW (s:=s) (a:=⟨9,cpu,n,m,At,fl,nm⟩) rfl hu;clear hu
 rotate_left
 focus
  refine Wk (AV r s nm _ (hO.rd.ext hw) hf pu) fun v w7 iV hv => ?_
  obtain ⟨q,rfl,hH⟩:=hv;have hH:=hH.low (aev dt hw.size);have hA:=cu.bo (s:=s) (a:=⟨7,cpu,n,m,At,fl,nm⟩) (by simp) (eK.shrink (a:=⟨7,cpu,n,m,At,fl,nm⟩) rfl);generalize ie s nm=u at hA hH ⊢
 rotate_left
 focus
  refine Wk (qG r.Heap s.Heap cpu n fl _ (hO.rd.heap.ext hw) hs.heap hf.cq (fh.ext hw)) fun v w7 iV hv => ?_
  obtain ⟨u,hu,H,rfl,hH⟩:=hv;have hH:=hH.low (aev dt hw.size);(obtain ⟨hw,aq,aE,aL,ap,bc⟩:=jh iV hw aq aE aL ap bc);clear iV;have bg:=hO.ext hw;have hA:=cu.bD (s:=s) (a:=⟨1,cpu,n,m,At,fl,nm⟩) rfl hu;clear hu;obtain ⟨u1,N,e⟩:=u;simp only at hA hH ⊢;repeat' (first|refine Wy ?_|fail);refine SW.gE 1 ap rfl rfl rfl (ae2 rfl) (ed H) (aK ⟨r.Words,H,r.aa⟩) rfl fun qH bQ hg => ?_
  have hG:=ap.gr hg;have aq:=aq.grown hg (by simpa using yb);have aE:=aE.grown hg (by simpa using yd);have hw:=hw.own cQ hg;(obtain ⟨aL,bc,bg,hH⟩:=dJ hG aL bc bg hH);have ap:=bQ;clear bQ hG hg;repeat' (first|refine Wy ?_|fail);refine Wb (i:=1) bc fun iZ bp hg => ?_
  have hG:=bc.gr hg;have aL:=aL.grown hg (by simpa using rN);have hw:=hw.own gn hg;(obtain ⟨aq,aE,ap,bg,hH⟩:=fH hG aq aE ap bg hH);have bc:aR _ b7 56 (ck ⟨0,N,.nil⟩):=bp;clear bp hG hg;repeat' (first|refine Wy ?_|fail);refine Wb (i:=0) bc fun iZ bp hg => ?_
  have hG:=bc.gr hg;have aL:=aL.grown hg (by simpa using rN);have hw:=hw.own gn hg;(obtain ⟨aq,aE,ap,bg,hH⟩:=fH hG aq aE ap bg hH);have bc:aR _ b7 56 (ck ⟨e,N,.nil⟩):=bp;clear bp hG hg;have hP:∃ q t x y,ti _ lo s _ b6 b7 q t x y:=⟨⟨r.Words,H,r.aa⟩,oN s u1,⟨e,N,.nil⟩,⟨e,N,[]⟩,ap,bc,⟨bg.words,hH,bg.bo⟩,kH.plain _ _ _ _,hA⟩
  clear hA hH ap bc
 rotate_left
 focus
  refine Wk (vL r.Heap s.Heap cpu At _ (hO.rd.heap.ext hw) hs.heap hf.cq (by have:=(hD.1 rfl).1;omega)) fun v w7 iV hv => ?_
  obtain ⟨H,rfl,hH⟩:=hv;have hH:=hH.low (aev dt hw.size);(obtain ⟨hw,aq,aE,aL,ap,bc⟩:=jh iV hw aq aE aL ap bc);clear iV;have bg:=hO.ext hw;have hA:=LJ (s:=s) (a:=⟨2,cpu,n,m,At,fl,nm⟩) rfl (hD.1 rfl).1 (hD.1 rfl).2;simp only at hA;generalize fq s.Heap cpu At=u at hA hH ⊢
  obtain ⟨e,u1⟩:=u;simp only at hA hH ⊢;repeat' (first|refine Wy ?_|fail);refine SW.gE 1 ap rfl rfl rfl (ae2 rfl) (ed H) (aK ⟨r.Words,H,r.aa⟩) rfl fun qH bQ hg => ?_
  have hG:=ap.gr hg;have aq:=aq.grown hg (by simpa using yb);have aE:=aE.grown hg (by simpa using yd);have hw:=hw.own cQ hg;(obtain ⟨aL,bc,bg,hH⟩:=dJ hG aL bc bg hH);have ap:=bQ;clear bQ hG hg;repeat' (first|refine Wy ?_|fail);refine Wb (i:=0) bc fun iZ bp hg => ?_
  have hG:=bc.gr hg;have aL:=aL.grown hg (by simpa using rN);have hw:=hw.own gn hg;(obtain ⟨aq,aE,ap,bg,hH⟩:=fH hG aq aE ap bg hH);have bc:aR _ b7 56 (ck ⟨e,0,.nil⟩):=bp;clear bp hG hg;have hP:∃ q t x y,ti _ lo s _ b6 b7 q t x y:=⟨⟨r.Words,H,r.aa⟩,oN s u1,⟨e,0,.nil⟩,⟨e,0,[]⟩,ap,bc,⟨bg.words,hH,bg.bo⟩,kH.plain _ _ _ _,hA⟩
  clear hA hH ap bc
 rotate_left
 focus
  refine Wk (CX r.Heap s.Heap _ (hO.rd.heap.ext hw) hs.heap hf.cq) fun v w7 iV hv => ?_
  obtain ⟨H,rfl,hH⟩:=hv;have hH:=hH.low (aev dt hw.size);(obtain ⟨hw,aq,aE,aL,ap,bc⟩:=jh iV hw aq aE aL ap bc);clear iV;have bg:=hO.ext hw;have hA:=cu.drain (s:=s) (a:=⟨12,cpu,n,m,At,fl,nm⟩) rfl;generalize ln s.Heap=u at hA hH ⊢
  obtain ⟨e,u1⟩:=u;simp only at hA hH ⊢;repeat' (first|refine Wy ?_|fail);refine SW.gE 1 ap rfl rfl rfl (ae2 rfl) (ed H) (aK ⟨r.Words,H,r.aa⟩) rfl fun qH bQ hg => ?_
  have hG:=ap.gr hg;have aq:=aq.grown hg (by simpa using yb);have aE:=aE.grown hg (by simpa using yd);have hw:=hw.own cQ hg;(obtain ⟨aL,bc,bg,hH⟩:=dJ hG aL bc bg hH);have ap:=bQ;clear bQ hG hg;repeat' (first|refine Wy ?_|fail);refine Wb (i:=0) bc fun iZ bp hg => ?_
  have hG:=bc.gr hg;have aL:=aL.grown hg (by simpa using rN);have hw:=hw.own gn hg;(obtain ⟨aq,aE,ap,bg,hH⟩:=fH hG aq aE ap bg hH);have bc:aR _ b7 56 (ck ⟨e,0,.nil⟩):=bp;clear bp hG hg;have hP:∃ q t x y,ti _ lo s _ b6 b7 q t x y:=⟨⟨r.Words,H,r.aa⟩,oN s u1,⟨e,0,.nil⟩,⟨e,0,[]⟩,ap,bc,⟨bg.words,hH,bg.bo⟩,kH.plain _ _ _ _,hA⟩
  clear hA hH ap bc
 rotate_left
 focus
  refine Wk (wk r s nm cpu n _ (hO.rd.ext hw) hf pu (fh.ext hw)) fun v w7 iV hv => ?_
  obtain ⟨u,hu,q,A,c,rfl,hH,hL⟩:=hv;have hH:=hH.low (aev dt hw.size);have hL:=hL.low (aev dt hw.size);have hA:=cu.bo (s:=s) (a:=⟨15,cpu,n,m,At,fl,nm⟩) (by simp) (eK.bulk (a:=⟨15,cpu,n,m,At,fl,nm⟩) rfl hu);clear hu;(obtain ⟨hw,aq,aE,aL,ap,bc⟩:=jh iV hw aq aE aL ap bc);clear iV;have bg:=hO.ext hw;obtain ⟨t,l,e⟩:=u;simp only at hA hH hL ⊢;repeat' (first|refine Wy ?_|fail);refine SW.bw ap rfl rfl rfl rfl (aU q) fun qH bQ hg => ?_
  have hG:=ap.gr hg;have aq:=aq.grown hg (by simpa using yb);have aE:=aE.grown hg (by simpa using yd);have hw:=hw.own cQ hg;(obtain ⟨aL,bc,bg,hH,hL⟩:=fH hG aL bc bg hH hL);have ap:=bQ;clear bQ hG hg;repeat' (first|refine Wy ?_|fail);refine Wb (i:=2) bc fun iZ bp hg => ?_
  have hG:=bc.gr hg;have aL:=aL.grown hg (by simpa using rN);have hw:=hw.own gn hg;(obtain ⟨aq,aE,ap,bg,hH,hL⟩:=jh hG aq aE ap bg hH hL);have bc:aR _ b7 56 (ck ⟨0,0,⟨A,l.length,c⟩⟩):=bp;clear bp hG hg;repeat' (first|refine Wy ?_|fail);refine Wb (i:=0) bc fun iZ bp hg => ?_
  have hG:=bc.gr hg;have aL:=aL.grown hg (by simpa using rN);have hw:=hw.own gn hg;(obtain ⟨aq,aE,ap,bg,hH,hL⟩:=jh hG aq aE ap bg hH hL);have bc:aR _ b7 56 (ck ⟨e,0,⟨A,l.length,c⟩⟩):=bp;clear bp hG hg;have hP:∃ q t x y,ti _ lo s _ b6 b7 q t x y:=⟨q,t,⟨e,0,⟨A,l.length,c⟩⟩,⟨e,0,l⟩,ap,bc,hH,⟨rfl,rfl,hL⟩,hA⟩
  clear hA hH ap bc
 rotate_left
 iterate 3
  focus
   (obtain ⟨hw,aq,aE,aL,ap,bc⟩:=jh iV hw aq aE aL ap bc);clear iV;have bg:=hO.ext hw;obtain ⟨t,N,e⟩:=u;simp only at hA hH ⊢;repeat' (first|refine Wy ?_|fail);refine SW.bw ap rfl rfl rfl rfl (aU q) fun qH bQ hg => ?_
   have hG:=ap.gr hg;have aq:=aq.grown hg (by simpa using yb);have aE:=aE.grown hg (by simpa using yd);have hw:=hw.own cQ hg;(obtain ⟨aL,bc,bg,hH⟩:=dJ hG aL bc bg hH);have ap:=bQ;clear bQ hG hg;repeat' (first|refine Wy ?_|fail);refine Wb (i:=1) bc fun iZ bp hg => ?_
   have hG:=bc.gr hg;have aL:=aL.grown hg (by simpa using rN);have hw:=hw.own gn hg;(obtain ⟨aq,aE,ap,bg,hH⟩:=fH hG aq aE ap bg hH);have bc:aR _ b7 56 (ck ⟨0,N,.nil⟩):=bp;clear bp hG hg;repeat' (first|refine Wy ?_|fail);refine Wb (i:=0) bc fun iZ bp hg => ?_
   have hG:=bc.gr hg;have aL:=aL.grown hg (by simpa using rN);have hw:=hw.own gn hg;(obtain ⟨aq,aE,ap,bg,hH⟩:=fH hG aq aE ap bg hH);have bc:aR _ b7 56 (ck ⟨e,N,.nil⟩):=bp;clear bp hG hg;have hP:∃ q t x y,ti _ lo s _ b6 b7 q t x y:=⟨q,t,⟨e,N,.nil⟩,⟨e,N,[]⟩,ap,bc,hH,kH.plain _ _ _ _,hA⟩
   clear hA hH ap bc
  rotate_left
 iterate 4
  focus
   (obtain ⟨hw,aq,aE,aL,ap,bc⟩:=jh iV hw aq aE aL ap bc);clear iV;have bg:=hO.ext hw;obtain ⟨t,e⟩:=u;simp only at hA hH ⊢;repeat' (first|refine Wy ?_|fail);refine SW.bw ap rfl rfl rfl rfl (aU q) fun qH bQ hg => ?_
   have hG:=ap.gr hg;have aq:=aq.grown hg (by simpa using yb);have aE:=aE.grown hg (by simpa using yd);have hw:=hw.own cQ hg;(obtain ⟨aL,bc,bg,hH⟩:=dJ hG aL bc bg hH);have ap:=bQ;clear bQ hG hg;repeat' (first|refine Wy ?_|fail);refine Wb (i:=0) bc fun iZ bp hg => ?_
   have hG:=bc.gr hg;have aL:=aL.grown hg (by simpa using rN);have hw:=hw.own gn hg;(obtain ⟨aq,aE,ap,bg,hH⟩:=fH hG aq aE ap bg hH);have bc:aR _ b7 56 (ck ⟨e,0,.nil⟩):=bp;clear bp hG hg;have hP:∃ q t x y,ti _ lo s _ b6 b7 q t x y:=⟨q,t,⟨e,0,.nil⟩,⟨e,0,[]⟩,ap,bc,hH,kH.plain _ _ _ _,hA⟩
   clear hA hH ap bc
  rotate_left
 iterate 5 rotate_left
 all_goals
  obtain ⟨q,t,x,y,ap,bc,hH,hY,hA⟩:=hP;by_cases he:y.Code=0
  ·rw [ms,if_pos he] at hA;rw [<- hY.code] at he;repeat' (first|refine Wy ?_|refine Wl (bc.cell (i:=0) (v := .int .i64 x.Code) rfl) ?_)
   refine CW.gB 2 3 (fun w2=>aR w2 b7 56 (ck x)) mixed (by kernel_rfl) fun w1 ah aI => ?_
   obtain ⟨hw,aq,aE,aL,ap,bc,bg,hH,hY⟩:=Mx ah hw aq aE aL ap bc bg hH hY;clear ah;refine Wt 0 [] [] aI rfl (aY rfl rfl ((fun _ _=>ap.cell))) ?_;refine SF.jl 1 [] aI rfl (by kernel_rfl) (by kernel_rfl) (by kernel_rfl) (aY rfl rfl ((fun _ _=>bc.cell))) (fun w2 hS=>aY rfl rfl ((fun _ _=>hS.cell))) rfl ?_;refine SF.turn rfl (by kernel_rfl) rfl ?_;refine SW.bw aE rfl rfl rfl rfl (aU q) fun w8 df hg => ?_
   have hG:=aE.gr hg;have hw:=hw.own dQ hg;(obtain ⟨aL,bc,bg,hH,hY⟩:=fH hG aL bc bg hH hY);have hS:=bc;refine SW.nil (ae.sg hS ?_);refine SG.last rfl (by kernel_rfl) (by kernel_rfl) ?_;refine SW.bw aL rfl rfl rfl rfl (fE x) fun w9 fa hg => ?_
   have hG:=aL.gr hg;have hw:=hw.own jR hg;(obtain ⟨df,bg,hH,hY⟩:=dJ hG df bg hH hY);repeat' (first|refine Wy ?_|fail);exact ae.nG rfl rfl rfl df fa rfl rfl ⟨_,rfl,hw,_,hA,q,x,rfl,hH,hY⟩
  ·rw [ms,if_neg he] at hA;rw [<- hY.code] at he;repeat' (first|refine Wy ?_|refine Wl (bc.cell (i:=0) (v := .int .i64 x.Code) rfl) ?_)
   refine CW.gB 2 3 (fun w2=>aR w2 b7 56 (ck x)) mixed (by kernel_rfl) fun w1 ah aI => ?_
   obtain ⟨hw,aq,aE,aL,ap,bc,bg,hH,hY⟩:=Mx ah hw aq aE aL ap bc bg hH hY;clear ah;refine Wt 0 [] [] aI rfl (aY rfl rfl ((fun _ _=>aq.cell))) ?_;refine SF.jl 1 [] aI rfl (by kernel_rfl) (by kernel_rfl) (by kernel_rfl) (aY rfl rfl ((fun _ _=>bc.cell))) (fun w2 hS=>aY rfl rfl ((fun _ _=>hS.cell))) rfl ?_;refine SF.turn rfl (by kernel_rfl) rfl ?_;refine SW.bw aE rfl rfl rfl rfl (aU r) fun w8 df hg => ?_
   have hG:=aE.gr hg;have hw:=hw.own dQ hg;(obtain ⟨aL,bc,bg,hH,hY⟩:=fH hG aL bc bg hH hY);have hS:=bc;refine SW.nil (ae.sg hS ?_);refine SG.last rfl (by kernel_rfl) (by kernel_rfl) ?_;refine SW.bw aL rfl rfl rfl rfl (fE x) fun w9 fa hg => ?_
   have hG:=aL.gr hg;have hw:=hw.own jR hg;(obtain ⟨df,bg,hH,hY⟩:=dJ hG df bg hH hY);repeat' (first|refine Wy ?_|fail);exact ae.nG rfl rfl rfl df fa rfl rfl ⟨_,rfl,hw,_,hA,r,x,rfl,bg,hY⟩
set_option maxHeartbeats 8000000 in
def LK (a:cr) (hk:a.Kind=13∨a.Kind=14) (r:de) (s:ag) (lo:Nat) (w:World) (hO:jj w lo r s) (dt:lo<=w.heap.size) (hI:dy s) (hD:IR s a) :
 bI prog 21 [.agg (aK r).toArray,.agg (dZ a).toArray] w fun v w' => ∃ u,cu s a u∧P7 lo u v w':=by
 have hf:=hI.cS;have hs:=hf.small;have hwm:=hI.may.words;have wl:=hO.words.len;have hWA:=hO.words.sl.base;obtain ⟨k,cpu,n,m,At,fl,nm⟩:=a;simp only at hk;have hW:=hD.2.1 hk;have hM:=hD.2.2;simp only at hW hM
 have cx : 0<=At∧At<4096:=by
  generalize e:true=b at hW
  cases hW with
  | out=>cases e
  | pQ h=>omega
  | bD h=>omega
 obtain ⟨an,rfl⟩:=aeE cx.1;have NS:an<r.Words.n:=by omega
 have NT:an<s.Words.length:=by omega
 have Qs:=hO.words.sl.one NS (congrArg bt (rfl:s.Words[an]=s.Words[an]));have e1:s.Words.getD ((an:Nat) : Int).toNat 0=s.Words[an]:=by simp [List.getD,NT]
 refine Wj func21 ntmps21 ?_;refine Ww fun b2 w1 hw eW aq => ?_;have l2:=aq.lt;refine SW.box rfl rfl fun b3 w2 bq cg ao => ?_
 have gm:=hw.up cg
 (obtain ⟨hw,aq⟩:=cT bq hw aq);clear bq;have l3:=ao.lt;refine SW.alloc rfl fun b4 w2 bq fw aE => ?_
 have dQ:=hw.up fw
 (obtain ⟨hw,aq,ao⟩:=cd bq hw aq ao);clear bq;have l4:=aE.lt;refine SW.alloc rfl fun b5 w2 bq gI aL => ?_
 have jR:=hw.up gI
 (obtain ⟨hw,aq,ao,aE⟩:=dJ bq hw aq ao aE);clear bq;have l5:=aL.lt;repeat' (first|refine Wy ?_|refine Wm ((fun _ _=>aq.cell)) ?_)
 refine SW.alloc rfl fun b6 w1 ah dv ap => ?_
 skip;refine Wg ap (aU r) fun w2 bQ hg => ?_
 have ar:=ah.own dv hg;have cQ:=hw.up dv
 obtain ⟨hw,aq,ao,aE,aL⟩:=fH ar hw aq ao aE aL;have ap:=bQ;clear bQ ah hg ar;have l6:=ap.lt;repeat' (first|refine Wy ?_|fail);refine SW.alloc rfl fun b7 w1 ah iT bc => ?_
 skip;refine Wg bc (fE ⟨0,0,.nil⟩) fun w2 bp hg => ?_
 have ar:=ah.own iT hg;have gn:=hw.up iT
 obtain ⟨hw,aq,ao,aE,aL,ap⟩:=jh ar hw aq ao aE aL ap;have bc:=bp;clear bp ah hg ar;have yb:b2≠b6:=by omega
 have yd:b4≠b6:=by omega
 have Oo:b2≠b4:=by omega
 have rN:b5≠b7:=by omega
 clear l2 l3 l4 l5 l6;rcases hk with rfl|rfl
 focus
  have hA:=cu.word (s:=s) (a:=⟨13,cpu,n,m,an,fl,nm⟩) (.inl rfl) (mw.write hW (by simp) (hM rfl));repeat' (first|refine Wy ?_|refine Wm ((fun _ _=>aq.cell)) ?_|refine Wl (ao.cell (i:=0) (v := .int .i64 13) rfl) ?_)
  have nq:=hw.size;refine Wk (mM r s _ (hO.rd.ext hw) hs) fun v w7 iV hv => ?_
  obtain ⟨q,cs,rfl,hX,hJ⟩:=hv;(obtain ⟨hw,aq,ao,aE,aL,ap,bc⟩:=ue iV hw aq ao aE aL ap bc);clear iV;have bg:=hO.ext hw;skip;refine Wg ap (aU q) fun qH bQ hg => ?_
  have hG:=ap.gr hg;have aq:=aq.grown hg (by simpa using yb);have aE:=aE.grown hg (by simpa using yd);have hw:=hw.own cQ hg;(obtain ⟨aL,bc,bg,ao,hX,hJ⟩:=jh hG aL bc bg ao hX hJ);have ap:=bQ;clear bQ hG hg;have Wc:=hX.words.len;have ZS:=hX.words.sl.base;repeat' (first|refine Wy ?_|refine Wl (ap.cell (i:=0) (v := .slice q.Words.A q.Words.n q.Words.c) rfl) ?_|refine Wl (ao.cell (i:=4) (v := .int .i64 (an:Int)) rfl) ?_|refine Wl (ao.cell (i:=3) (v := .int .i64 m) rfl) ?_)
  refine SW.qT an hX.words rfl rfl (by omega) fun iZ NO hg => ?_
  have hG:=hX.words.gr hg;have hX2:=hX.FL hJ NO hg;have hw:=aD hw hg nq hX.words.aW;(obtain ⟨aq,aE,aL,ap,bc⟩:=fH hG aq aE aL ap bc);clear bg;have bg:=hO.ext hw;have hH:=hX2.xd.low (aev dt nq);clear hX hJ hX2 NO hg hG;repeat' (first|refine Wy ?_|fail);have hP:∃ q t x y,ti _ lo s _ b6 b7 q t x y:=⟨q,_,⟨0,0,.nil⟩,⟨0,0,[]⟩,ap,bc,hH,kH.plain _ _ _ _,hA⟩
  clear hA hH ap bc
 rotate_left
 focus
  have hA:=cu.word (s:=s) (a:=⟨14,cpu,n,m,an,fl,nm⟩) (.inr rfl) (mw.read hW rfl);simp only [Int.ofNat_eq_natCast] at hA;rw [e1] at hA;repeat' (first|refine Wy ?_|refine Wl (ao.cell (i:=0) (v := .int .i64 14) rfl) ?_|refine Wl (aq.cell (i:=0) (v := .slice r.Words.A r.Words.n r.Words.c) rfl) ?_|refine Wl (ao.cell (i:=4) (v := .int .i64 (an:Int)) rfl) ?_|refine Wn hw Qs ?_)
  have bg:=hO.ext hw;refine Wb (i:=1) bc fun iZ bp hg => ?_
  have hG:=bc.gr hg;have aL:=aL.grown hg (by simpa using rN);have hw:=hw.own gn hg;(obtain ⟨aq,aE,ap,bg⟩:=dJ hG aq aE ap bg);have bc:aR _ b7 56 (ck ⟨0,s.Words[an],.nil⟩):=bp;clear bp hG hg;repeat' (first|refine Wy ?_|fail);have hP:∃ q t x y,ti _ lo s _ b6 b7 q t x y:=⟨r,s,⟨0,s.Words[an],.nil⟩,⟨0,s.Words[an],[]⟩,ap,bc,bg,kH.plain _ _ _ _,hA⟩
  clear hA ap bc
 rotate_left
 all_goals
  obtain ⟨q,t,x,y,ap,bc,hH,hY,hA⟩:=hP;by_cases he:y.Code=0
  ·rw [ms,if_pos he] at hA;rw [<- hY.code] at he;repeat' (first|refine Wy ?_|refine Wl (bc.cell (i:=0) (v := .int .i64 x.Code) rfl) ?_)
   refine CW.gB 2 3 (fun w2=>aR w2 b7 56 (ck x)) mixed (by kernel_rfl) fun w1 ah aI => ?_
   obtain ⟨hw,aq,aE,aL,ap,bc,bg,hH,hY⟩:=Mx ah hw aq aE aL ap bc bg hH hY;clear ah;refine Wt 0 [] [] aI rfl (aY rfl rfl ((fun _ _=>ap.cell))) ?_;refine Wi 1 [] aI rfl (aY rfl rfl ((fun _ _=>bc.cell))) (fun w2 hS=>aY rfl rfl ((fun _ _=>hS.cell))) ?_;refine SF.iA ?_;refine Wg aE (aU q) fun w8 df hg => ?_
   have hG:=aE.gr hg;have hw:=hw.own dQ hg;(obtain ⟨aL,bc,bg,hH,hY⟩:=fH hG aL bc bg hH hY);have hS:=bc;refine SW.nil (ae.sg hS ?_);refine SG.ff ?_;refine Wg aL (fE x) fun w9 fa hg => ?_
   have hG:=aL.gr hg;have hw:=hw.own jR hg;(obtain ⟨df,bg,hH,hY⟩:=dJ hG df bg hH hY);repeat' (first|refine Wy ?_|fail);exact ae.nG rfl rfl rfl df fa rfl rfl ⟨_,rfl,hw,_,hA,q,x,rfl,hH,hY⟩
  ·rw [ms,if_neg he] at hA;rw [<- hY.code] at he;repeat' (first|refine Wy ?_|refine Wl (bc.cell (i:=0) (v := .int .i64 x.Code) rfl) ?_)
   refine CW.gB 2 3 (fun w2=>aR w2 b7 56 (ck x)) mixed (by kernel_rfl) fun w1 ah aI => ?_
   obtain ⟨hw,aq,aE,aL,ap,bc,bg,hH,hY⟩:=Mx ah hw aq aE aL ap bc bg hH hY;clear ah;refine Wt 0 [] [] aI rfl (aY rfl rfl ((fun _ _=>aq.cell))) ?_;refine Wi 1 [] aI rfl (aY rfl rfl ((fun _ _=>bc.cell))) (fun w2 hS=>aY rfl rfl ((fun _ _=>hS.cell))) ?_;refine SF.iA ?_;refine Wg aE (aU r) fun w8 df hg => ?_
   have hG:=aE.gr hg;have hw:=hw.own dQ hg;(obtain ⟨aL,bc,bg,hH,hY⟩:=fH hG aL bc bg hH hY);have hS:=bc;refine SW.nil (ae.sg hS ?_);refine SG.ff ?_;refine Wg aL (fE x) fun w9 fa hg => ?_
   have hG:=aL.gr hg;have hw:=hw.own jR hg;(obtain ⟨df,bg,hH,hY⟩:=dJ hG df bg hH hY);repeat' (first|refine Wy ?_|fail);exact ae.nG rfl rfl rfl df fa rfl rfl ⟨_,rfl,hw,_,hA,r,x,rfl,bg,hY⟩
variable {w0 w1 w2:World}
structure j4 (w0 w:World) : Prop where
 hx:Ext w0 w
def j4.ext (h:j4 w0 w) (hx:Ext w w') : j4 w0 w':=⟨h.hx.trans hx⟩
inductive kX:World->World->Prop
 | refl (w:World) : kX w w
 | ext {w w1 w2:World} (h:kX w w1) (hx:Ext w1 w2) : kX w w2
 | ux {w w1 w2:World} (h:kX w w1) (hG:se w1 w2 50) : kX w w2
 | pF {w w1 w2:World} (h:kX w w1) (hG:se w1 w2 48) : kX w w2
def kX.since (h:kX w w1) (k:j4 w1 w2) : kX w w2 := .ext h k.hx
def kX.move {P:World->Prop} (hE:∀ w w',P w->Ext w w'->P w') (hT:∀ w w',P w->se w w' 50->P w') (hS:∀ w w',P w->se w w' 48->P w') (h:kX w w') : P w->P w':=by
 induction h with
 | refl=>exact fun h=>h
 | ext _ hx ih=>exact fun h=>hE _ _ (ih h) hx
 | ux _ hG ih=>exact fun h=>hT _ _ (ih h) hG
 | pF _ hG ih=>exact fun h=>hS _ _ (ih h) hG
def n7 (wb w:World) (lo b:Nat) (r:de) (p q:fY) (l:List bU) (v:Value) (w':World) : Prop:=v = .tuple #[] ∧ ∃ z:fY,Own w' lo 50 6 lG z.A z.n z.c l∧aR w' b 48 (oT r p q z)∧Ext wb w'∧kX w w'
set_option maxHeartbeats 8000000 in
def LL (wb:World) (lo b:Nat) (r:de) (p q z:fY) (a:cr) (x:qI) (i:Int) (l:List bU) (w:World) (hk:a.Kind=8) (hw:Ext wb w) (hb:aR w b 48 (oT r p q z)) (rC:wb.heap.size<=b) (hO:Own w lo 50 6 lG z.A z.n z.c l) (dt:wb.heap.size<=lo) (tB:lo<=w.heap.size) (hn:z.n<=100000) :
 iO prog 22 [.pointer (some ⟨b,0,none⟩),.agg (dZ a).toArray,.agg (ck x).toArray,.int .i64 i] w (n7 wb w lo b r p q (l++[⟨x.N,a.N,8,⟨#[]⟩,0,false⟩])):=by
 obtain ⟨k,cpu,n,m,At,fl,nm⟩:=a;simp only at hk ⊢;refine dc func22 rfl ntmps22 rfl ?_;have hs:j4 w w:=⟨Ext.refl w⟩
 have hA:=hO.sl.base;have mx:=hO.len;refine Ww fun b5 w2 bq gI aL => ?_;(obtain ⟨hw,hb,hO,hs⟩:=dJ bq hw hb hO hs);clear bq;refine SW.box rfl rfl fun b6 w2 bq dv ap => ?_
 (obtain ⟨hw,hb,aL,hO,hs⟩:=fH bq hw hb aL hO hs);clear bq;subst hk;repeat' (first|refine Wy ?_|refine Wl (aL.cell (i:=0) (v := .int .i64 8) rfl) ?_)
 refine CW.gB 13 16 (fun _=>True) mixed (by kernel_rfl) fun w1 ah aI => ?_
 obtain ⟨hw,hb,aL,ap,hO,hs⟩:=jh ah hw hb aL ap hO hs;clear ah;refine Wi 0 [] aI rfl (bi rfl) (fun w2 hS=>bi rfl) ?_;refine Wp 1 [4,3,2] [] aI rfl rfl ?_;refine Wt 2 [4,3] [] aI rfl (aF rfl) ?_;refine Wt 3 [4] [] aI rfl (az rfl) ?_;refine Wt 4 [] [] aI rfl (aP rfl (hb.cell (i:=9) (v := .slice z.A z.n z.c) rfl)) ?_;refine Wt 5 [12,11,6] [] aI rfl (az rfl) ?_;refine Wt 6 [12,11] [] aI rfl (aP rfl (ap.cell (i:=1) (v := .int .i64 x.N) rfl)) ?_;refine Wt 7 [12,11,8] [] aI rfl (az rfl) ?_;refine Wt 8 [12,11] [] aI rfl (aP rfl (aL.cell (i:=2) (v := .int .i64 n) rfl)) ?_;refine Wt 9 [12,11,10] [] aI rfl (az rfl) ?_;refine Wt 10 [12,11] [] aI rfl (aP rfl (aL.cell (i:=0) (v := .int .i64 8) rfl)) ?_;refine Wt 11 [12] [] aI rfl (jb rfl rfl) ?_;refine SF.bZ 12 ?_;refine SW.dR rfl rfl rfl rfl rfl fun Rh w9 ar ye pd => ?_
 (obtain ⟨hw,hb,aL,ap,hO,hs⟩:=jh ar hw hb aL ap hO hs);refine SW.nil (ae.sf ar ?_);refine SF.iA ?_;refine SW.append hO (aR.wv (enc:=lG) (x:=⟨x.N,n,8,⟨#[]⟩,0,false⟩) pd) (aev tB hs.hx.size) rfl rfl rfl (by omega) (by omega) fun Y f oP lO hg => ?_
 have hG:=hO.gr hg;have hw:=aD hw hg dt hO.aW;(have hb:=hb.aJ hG rfl);have hS:=True.intro;refine SW.nil (ae.sg hS ?_);refine SG.bZ 14 ?_;repeat ((show SW _ _ _ _ (⟨_,Op.nilCheck _,_,_,_,none⟩::_) _ _;refine SW.st (aF rfl) rfl ?_))
 refine SW.nil (ae.sg hS ?_);refine SG.bZ 15 ?_;repeat ((show SW _ _ _ _ (⟨_,Op.fieldAddr _ _ _,_,_,_,none⟩::_) _ _;refine SW.st (az rfl) rfl ?_))
 refine SW.nil (ae.sg hS ?_);refine SG.ff ?_;refine Wb (i:=9) hb fun iZ iL dB => ?_
 have eE:=hb.gr dB;have hw:=hw.own rC dB;have bg:=lO.aJ eE rfl;repeat' (first|refine Wy ?_|fail);exact ae.qi rfl ⟨_,rfl,rfl,⟨Y,z.n+1,f⟩,bg,iL,hw,.pF (.ux (.ext (.refl w) hs.hx) hG) eE⟩
set_option maxHeartbeats 8000000 in
def LM (wb:World) (lo b:Nat) (r:de) (p q z:fY) (a:cr) (x:qI) (i:Int) (l:List bU) (w:World) (hk:a.Kind=1) (hN:(0<=x.N∧x.N<=100000)∧0<=a.N∧a.N<=4) (hw:Ext wb w) (hb:aR w b 48 (oT r p q z)) (rC:wb.heap.size<=b) (hO:Own w lo 50 6 lG z.A z.n z.c l) (dt:wb.heap.size<=lo) (tB:lo<=w.heap.size) (hn:z.n<=100000) :
 iO prog 22 [.pointer (some ⟨b,0,none⟩),.agg (dZ a).toArray,.agg (ck x).toArray,.int .i64 i] w (n7 wb w lo b r p q (l++[⟨x.N*16,16*pw a.N,1,⟨#[]⟩,0,false⟩])):=by
 obtain ⟨k,cpu,n,m,At,fl,nm⟩:=a;simp only at hk hN ⊢;refine dc func22 rfl ntmps22 rfl ?_;have hs:j4 w w:=⟨Ext.refl w⟩
 have hA:=hO.sl.base;have mx:=hO.len;refine Ww fun b5 w2 bq gI aL => ?_;(obtain ⟨hw,hb,hO,hs⟩:=dJ bq hw hb hO hs);clear bq;refine SW.box rfl rfl fun b6 w2 bq dv ap => ?_
 (obtain ⟨hw,hb,aL,hO,hs⟩:=fH bq hw hb aL hO hs);clear bq;subst hk;repeat' (first|refine Wy ?_|refine Wl (aL.cell (i:=0) (v := .int .i64 1) rfl) ?_)
 refine CW.gB 15 18 (fun _=>True) mixed (by kernel_rfl) fun w1 ah aI => ?_
 obtain ⟨hw,hb,aL,ap,hO,hs⟩:=jh ah hw hb aL ap hO hs;clear ah;refine Wi 0 [] aI rfl (bi rfl) (fun w2 hS=>bi rfl) ?_;refine Wp 1 [4,3,2] [] aI rfl rfl ?_;refine Wt 2 [4,3] [] aI rfl (aF rfl) ?_;refine Wt 3 [4] [] aI rfl (az rfl) ?_;refine Wt 4 [] [] aI rfl (aP rfl (hb.cell (i:=9) (v := .slice z.A z.n z.c) rfl)) ?_;refine Wt 5 [14,13,7,6] [] aI rfl (az rfl) ?_;refine Wt 6 [14,13,7] [] aI rfl (aP rfl (ap.cell (i:=1) (v := .int .i64 x.N) rfl)) ?_;refine Wt 7 [14,13] [] aI rfl (pG rfl rfl (by omega) (by omega)) ?_;refine Wt 8 [14,13,10,9] [] aI rfl (az rfl) ?_;refine Wt 9 [14,13,10] [] aI rfl (aP rfl (aL.cell (i:=2) (v := .int .i64 n) rfl)) ?_;refine Wt 10 [14,13] [] aI rfl (fO (r:=16*pw n) rfl rfl (by omega) (by omega) (by simp [pw]) (by have:=cM hN.2.1 hN.2.2;omega) (by have:=cM hN.2.1 hN.2.2;omega)) ?_;refine Wt 11 [14,13,12] [] aI rfl (az rfl) ?_;refine Wt 12 [14,13] [] aI rfl (aP rfl (aL.cell (i:=0) (v := .int .i64 1) rfl)) ?_;refine Wt 13 [14] [] aI rfl (jb rfl rfl) ?_;refine SF.bZ 14 ?_;refine SW.dR rfl rfl rfl rfl rfl fun Rh w9 ar ye pd => ?_
 (obtain ⟨hw,hb,aL,ap,hO,hs⟩:=jh ar hw hb aL ap hO hs);refine SW.nil (ae.sf ar ?_);refine SF.iA ?_;refine SW.append hO (aR.wv (enc:=lG) (x:=⟨x.N*16,16*pw n,1,⟨#[]⟩,0,false⟩) pd) (aev tB hs.hx.size) rfl rfl rfl (by omega) (by omega) fun Y f oP lO hg => ?_
 have hG:=hO.gr hg;have hw:=aD hw hg dt hO.aW;(have hb:=hb.aJ hG rfl);have hS:=True.intro;refine SW.nil (ae.sg hS ?_);refine SG.bZ 16 ?_;repeat ((show SW _ _ _ _ (⟨_,Op.nilCheck _,_,_,_,none⟩::_) _ _;refine SW.st (aF rfl) rfl ?_))
 refine SW.nil (ae.sg hS ?_);refine SG.bZ 17 ?_;repeat ((show SW _ _ _ _ (⟨_,Op.fieldAddr _ _ _,_,_,_,none⟩::_) _ _;refine SW.st (az rfl) rfl ?_))
 refine SW.nil (ae.sg hS ?_);refine SG.ff ?_;refine Wb (i:=9) hb fun iZ iL dB => ?_
 have eE:=hb.gr dB;have hw:=hw.own rC dB;have bg:=lO.aJ eE rfl;repeat' (first|refine Wy ?_|fail);exact ae.qi rfl ⟨_,rfl,rfl,⟨Y,z.n+1,f⟩,bg,iL,hw,.pF (.ux (.ext (.refl w) hs.hx) hG) eE⟩
set_option maxHeartbeats 8000000 in
def LN (wb:World) (lo b:Nat) (r:de) (p q z:fY) (a:cr) (x:qI) (i:Int) (l:List bU) (w:World) (hk:a.Kind=9∨a.Kind=2∨a.Kind=6) (j:Nat) (hi:i=(j:Int)) (hj:j<z.n) (hw:Ext wb w) (hb:aR w b 48 (oT r p q z)) (rC:wb.heap.size<=b) (hO:Own w lo 50 6 lG z.A z.n z.c l) (dt:wb.heap.size<=lo) (tB:lo<=w.heap.size) (hn:z.n<=100000) :
 iO prog 22 [.pointer (some ⟨b,0,none⟩),.agg (dZ a).toArray,.agg (ck x).toArray,.int .i64 i] w (n7 wb w lo b r p q (l.eraseIdx j)):=by
 obtain ⟨k,cpu,n,m,At,fl,nm⟩:=a;simp only at hk ⊢;refine dc func22 rfl ntmps22 rfl ?_;have hs:j4 w w:=⟨Ext.refl w⟩
 have hA:=hO.sl.base;have mx:=hO.len;refine Ww fun b5 w2 bq gI aL => ?_;(obtain ⟨hw,hb,hO,hs⟩:=dJ bq hw hb hO hs);clear bq;refine SW.box rfl rfl fun b6 w2 bq dv ap => ?_
 (obtain ⟨hw,hb,aL,hO,hs⟩:=fH bq hw hb aL hO hs);clear bq;subst hi;rcases hk with rfl|rfl|rfl
 all_goals repeat' (first|refine Wy ?_|refine Wl (hb.cell (i:=9) (v := .slice z.A z.n z.c) rfl) ?_|refine Wl (aL.cell (i:=0) (v := .int .i64 9) rfl) ?_|refine Wl (aL.cell (i:=0) (v := .int .i64 2) rfl) ?_|refine Wl (aL.cell (i:=0) (v := .int .i64 6) rfl) ?_)
 all_goals
  refine SW.dK rfl rfl (yE z.A z.n z.c lo l _ hO j hj (by omega) (aev tB hs.hx.size)) fun v w6 hv => ?_
  obtain ⟨rfl,lO,hg⟩:=hv;have hG:=hO.gr hg;have hw:=aD hw hg dt hO.aW;(have hb:=hb.aJ hG rfl);repeat' (first|refine Wy ?_|fail);refine Wb (i:=9) hb fun iZ iL dB => ?_
  have eE:=hb.gr dB;have hw:=hw.own rC dB;have bg:=lO.aJ eE rfl;repeat' (first|refine Wy ?_|fail);exact ae.qi rfl ⟨_,rfl,rfl,⟨z.A,z.n-1,z.c⟩,bg,iL,hw,.pF (.ux (.ext (.refl w) hs.hx) hG) eE⟩
set_option maxHeartbeats 8000000 in
def LO (wb:World) (lo b:Nat) (r:de) (p q z:fY) (a:cr) (x:qI) (i:Int) (l:List bU) (w:World) (hk:a.Kind=3∨a.Kind=7∨a.Kind=12∨a.Kind=14) (hw:Ext wb w) (hb:aR w b 48 (oT r p q z)) (rC:wb.heap.size<=b) (hO:Own w lo 50 6 lG z.A z.n z.c l) (dt:wb.heap.size<=lo) (tB:lo<=w.heap.size) (hn:z.n<=100000) :
 iO prog 22 [.pointer (some ⟨b,0,none⟩),.agg (dZ a).toArray,.agg (ck x).toArray,.int .i64 i] w (n7 wb w lo b r p q (l)):=by
 obtain ⟨k,cpu,n,m,At,fl,nm⟩:=a;simp only at hk ⊢;refine dc func22 rfl ntmps22 rfl ?_;have hs:j4 w w:=⟨Ext.refl w⟩
 have hA:=hO.sl.base;have mx:=hO.len;refine Ww fun b5 w2 bq gI aL => ?_;(obtain ⟨hw,hb,hO,hs⟩:=dJ bq hw hb hO hs);clear bq;refine SW.box rfl rfl fun b6 w2 bq dv ap => ?_
 (obtain ⟨hw,hb,aL,hO,hs⟩:=fH bq hw hb aL hO hs);clear bq;rcases hk with rfl|rfl|rfl|rfl
 all_goals repeat' (first|refine Wy ?_|refine Wl (aL.cell (i:=0) (v := .int .i64 3) rfl) ?_|refine Wl (aL.cell (i:=0) (v := .int .i64 7) rfl) ?_|refine Wl (aL.cell (i:=0) (v := .int .i64 12) rfl) ?_|refine Wl (aL.cell (i:=0) (v := .int .i64 14) rfl) ?_)
 all_goals exact ae.qi rfl ⟨_,rfl,rfl,z,hO,hb,hw,.ext (.refl w) hs.hx⟩
variable {o' o'':Oper}
section
variable {P:Program} {n:Nat} {ops:Array Oper} {Q:Exit->Act->World->Prop} {fin eB f:Nat} {S2:World->Prop} {listed:Array Bool} {L:Env} {w:World}
def SG.two (i k:Nat) {o:Oper} (hi:ops[i]?=some o) (hk:ops[k]?=some o') (hr:Region.ready .any ops listed=[i,k]) (hw:(!Nat.beq i eB && !Nat.beq i fin)=true) (nl:(!Nat.beq k eB && !Nat.beq k fin)=true)
 (h:SW P n ops (.gd (Mw P n ops Q fin eB S2 f (listed.setIfInBounds i true))) [o] L w) (h':SW P n ops (.gd (Mw P n ops Q fin eB S2 f (listed.setIfInBounds k true))) [o'] L w) : SG P n ops Q fin eB S2 (f+1) listed L w :=
 ⟨fun a ha inv=>⟨by rw [hr];simp,fun j hj=>by
  have nr:=hj;rw [hr] at nr;simp only [List.mem_cons,List.not_mem_nil,or_false] at nr;rcases nr with rfl|rfl
  ·obtain ⟨n1,n2⟩:=L8 hw;have cx:j<ops.size:=(aeJ.1 hi).1
   exact ⟨cx,rQ (Q1:=Mw P n ops Q fin eB S2 f (listed.setIfInBounds j true)) hi (fun e a w ne h=>by cases e<;>first|exact h|exact absurd rfl ne) (fun h=>h) (fun a' w' hh=>⟨fun e=>absurd e n1,fun _ e=>absurd e n2,fun _ _=>⟨hh.1,hh.2 (inv.set hj cx)⟩⟩) (h.out a ha)⟩
  ·obtain ⟨n1,n2⟩:=L8 nl;have cx:j<ops.size:=(aeJ.1 hk).1
   exact ⟨cx,rQ (Q1:=Mw P n ops Q fin eB S2 f (listed.setIfInBounds j true)) hk (fun e a w ne h=>by cases e<;>first|exact h|exact absurd rfl ne) (fun h=>h) (fun a' w' hh=>⟨fun e=>absurd e n1,fun _ e=>absurd e n2,fun _ _=>⟨hh.1,hh.2 (inv.set hj cx)⟩⟩) (h'.out a ha)⟩⟩⟩
def SF.three (i k m:Nat) {o:Oper} (hi:ops[i]?=some o) (hk:ops[k]?=some o') (hm:ops[m]?=some o'') (hr:Region.ready .any ops listed=[i,k,m]) (hw:(!Nat.beq i eB && !Nat.beq i fin)=true) (nl:(!Nat.beq k eB && !Nat.beq k fin)=true) (YU:(!Nat.beq m eB && !Nat.beq m fin)=true)
 (h:SW P n ops (.gd (I6 P n ops Q fin eB S2 f (listed.setIfInBounds i true) w)) [o] L w) (h':SW P n ops (.gd (I6 P n ops Q fin eB S2 f (listed.setIfInBounds k true) w)) [o'] L w) (G8:SW P n ops (.gd (I6 P n ops Q fin eB S2 f (listed.setIfInBounds m true) w)) [o''] L w) : SF P n ops Q fin eB S2 (f+1) listed L w :=
 ⟨fun a ha inv=>⟨by rw [hr];simp,fun j hj=>by
  have nr:=hj;rw [hr] at nr;simp only [List.mem_cons,List.not_mem_nil,or_false] at nr;rcases nr with rfl|rfl|rfl
  ·obtain ⟨n1,n2⟩:=L8 hw;have cx:j<ops.size:=(aeJ.1 hi).1
   exact ⟨cx,rQ (Q1:=I6 P n ops Q fin eB S2 f (listed.setIfInBounds j true) w) hi (fun e a w ne h=>by cases e<;>first|exact h|exact absurd rfl ne) (fun h=>h) (fun a' w' hh=>⟨fun e=>absurd e n1,fun _ e=>absurd e n2,fun _ _=>⟨hh.1,mA f (fun OM G8=>Ext.trans hh.1 G8) _ _ _ (hh.2 (inv.set hj cx))⟩⟩) (h.out a ha)⟩
  ·obtain ⟨n1,n2⟩:=L8 nl;have cx:j<ops.size:=(aeJ.1 hk).1
   exact ⟨cx,rQ (Q1:=I6 P n ops Q fin eB S2 f (listed.setIfInBounds j true) w) hk (fun e a w ne h=>by cases e<;>first|exact h|exact absurd rfl ne) (fun h=>h) (fun a' w' hh=>⟨fun e=>absurd e n1,fun _ e=>absurd e n2,fun _ _=>⟨hh.1,mA f (fun OM G8=>Ext.trans hh.1 G8) _ _ _ (hh.2 (inv.set hj cx))⟩⟩) (h'.out a ha)⟩
  ·obtain ⟨n1,n2⟩:=L8 YU;have cx:j<ops.size:=(aeJ.1 hm).1
   exact ⟨cx,rQ (Q1:=I6 P n ops Q fin eB S2 f (listed.setIfInBounds j true) w) hm (fun e a w ne h=>by cases e<;>first|exact h|exact absurd rfl ne) (fun h=>h) (fun a' w' hh=>⟨fun e=>absurd e n1,fun _ e=>absurd e n2,fun _ _=>⟨hh.1,mA f (fun OM G8=>Ext.trans hh.1 G8) _ _ _ (hh.2 (inv.set hj cx))⟩⟩) (G8.out a ha)⟩⟩⟩
end
open Go.RowKit Go.Maps
variable {D:DataW Unit} {kl:Lit} {d:Nat} {y:Operand} {g:Option (Nat×Bool)} {e t:TypeId}
structure IS (w:World) (P:Program) (k e:TypeId) (b n:Nat) (D:DataW Unit) : Prop where
 own:w.ownsMap (H:=Unit) P k (plainElem P e) b n D
def IS.ext {k:TypeId} {n:Nat} (h:IS w P k e b n D) (hx:Ext w w') : IS w' P k e b n D:=⟨h.own.kept (row:=none) ⟨hx.os,hx.tape,hx.output,hx.size,fun i hi _=>hx.block i hi⟩ (by simp)⟩
section
variable {P:Program} {n:Nat} {ops:Array Oper} {Q:Exit->Act->World->Prop} {rest:List Oper} {L:Env} {w:World} {T:TypeId} {pos:String} {af:Array Edge}
def SW.OA (k e:TypeId) (hn:Nat.blt d n=true) (h:∀ b w',Ext w w'->w.heap.size<=b->IS w' P k e b 0 (.map [])->SW P n ops (.gd Q) rest ((d,.map (some b))::L) w') :
 SW P n ops (.gd Q) (⟨some d,.makeMap t none,T,pos,af,none⟩::rest) L w :=
 ⟨fun a ha=>by
  simp only [swp,wpList,Region.wanted,if_true];refine .inl ?_;unfold Oper.wp
  have:(execOp a.eval ⟨some d,.makeMap t none,T,pos,af,none⟩).run P w = .ok (.value (.map (some w.heap.size))) (w.alloc (.map #[] 0)):=by
   simp [execOp,run_makeMap]
  rw [this,Oper.upon_value];exact (h _ _ (Ext.alloc w _) (aew _) ⟨World.ownsMap_made w P k _⟩).out _ (ha.put hn _)⟩
def SW.zh {k:TypeId} {i:Int} {x z:Operand} {key:Value} (hB:IS w P k e b m D) (K:Keyed P k) (ht:P.underlying t=some (.map k e)) (he:P.underlying e=some (.int .i64)) (kM:m<maxLen) (hi:(Lit.int .i64 i).wf=true)
 (hm:cy L z=some (.map (some b))) (hx:cy L x=some key) (hy:cy L y=some (.int .i64 i)) (rq:Go.keyOf P k key=some kl)
 (h:∀ w',IS w' P k e b (m+1) (D.put kl (.lit (.int .i64 i)))->w.grownBy w' (some b)->SW P n ops (.gd Q) rest L w') : SW P n ops (.gd Q) (⟨none,.insert t z x y,T,pos,af,none⟩::rest) L w :=
 ⟨fun a ha=>by
  obtain ⟨w',sL,r1,r2⟩:=hB.own.update K ht kM rq (plainElem_int he hi);simp only [swp,wpList,Region.wanted,if_true];refine .inl ?_;unfold Oper.wp
  have:(execOp a.eval ⟨none,.insert t z x y,T,pos,af,none⟩).run P w = .ok .skip w':=by
   simp [execOp,ha.eval hm,ha.eval hx,ha.eval hy,sL]
  rw [this,Oper.upon_skip];exact (h w' ⟨r1⟩ r2).out _ ha⟩
def By {d:Option Nat} {k:TypeId} {c:Int} {z x:Operand} {key:Value} (hB:IS w P k e b m D) (K:Keyed P k) (ht:P.underlying t=some (.map k e)) (he:P.underlying e=some (.int .i64)) (hz:∀ w,(zeroValue e).run P w = .ok (.int .i64 0) w)
 (hm:cy L z=some (.map (some b))) (hx:cy L x=some key) (rq:Go.keyOf P k key=some kl) (hc:D.atKey kl (.lit (.int .i64 0)) = .lit (.int .i64 c)) : St P ⟨d,.lookup t z x false,T,pos,af,g⟩ L w (.int .i64 c) :=
 ⟨fun n a ha w' Xn=>by
  have wA:=hB.ext Xn;obtain ⟨c',sL,hv,_⟩:=wA.own.lookup_int K ht he (hz w') rq;rw [hc] at hv;injection hv with hv
  injection hv with _ hv
  subst hv;simp [execOp,ha.eval hm,ha.eval hx,sL]⟩
end
def TP:Lit:=nQ nt
def Du:Lit:=nQ dN
def OB:TP≠Du:=fun e=>by
 injection (show Lit.string [111,98]=Lit.string [112,97,105,114] from e) with e
 exact absurd e (by decide)
def EC (n:ByteArray) (hn:n=nt∨n=dN) : (((DataW.map [] : DataW Unit).put TP (.lit (.int .i64 5))).put Du (.lit (.int .i64 2))).atKey (nQ n) (.lit (.int .i64 0)) = .lit (.int .i64 (oR n))∧(((DataW.map [] : DataW Unit).put Du (.lit (.int .i64 2))).put TP (.lit (.int .i64 5))).atKey (nQ n) (.lit (.int .i64 0)) = .lit (.int .i64 (oR n)):=by
 have h1:WideAt.IsKeyLit TP:=trivial
 have h2:WideAt.IsKeyLit Du:=trivial
 rcases hn with rfl|rfl
 ·have e:oR nt=5:=by decide +kernel
  rw [e];exact ⟨by rw [show nQ nt=TP from rfl,atKey_put_other OB,atKey_put_same isMap_empty h1],by rw [show nQ nt=TP from rfl,atKey_put_same (isMap_empty.put _ _) h1]⟩
 ·have e:oR dN=2:=by decide +kernel
  rw [e];exact ⟨by rw [show nQ dN=Du from rfl,atKey_put_same (isMap_empty.put _ _) h2],by rw [show nQ dN=Du from rfl,atKey_put_other OB.symm,atKey_put_same isMap_empty h2]⟩
set_option maxHeartbeats 8000000 in
def IT (wb:World) (lo b:Nat) (r:de) (p q z:fY) (a:cr) (x:qI) (i:Int) (l:List bU) (w:World) (hk:a.Kind=11) (j:Nat) (hi:i=(j:Int)) (hj:j<l.length) (hw:Ext wb w) (hb:aR w b 48 (oT r p q z)) (rC:wb.heap.size<=b) (hO:Own w lo 50 6 lG z.A z.n z.c l) (dt:wb.heap.size<=lo) (tB:lo<=w.heap.size) (hn:z.n<=100000) :
 iO prog 22 [.pointer (some ⟨b,0,none⟩),.agg (dZ a).toArray,.agg (ck x).toArray,.int .i64 i] w (n7 wb w lo b r p q (l.set j ⟨x.N,a.N,l[j].Kind,l[j].Name,l[j].Word,l[j].uu⟩)):=by
 obtain ⟨k,cpu,n,m,At,fl,nm⟩:=a;simp only at hk ⊢;refine dc func22 rfl ntmps22 rfl ?_;have hs:j4 w w:=⟨Ext.refl w⟩
 have hA:=hO.sl.base;have mx:=hO.len;refine Ww fun b5 w2 bq gI aL => ?_;(obtain ⟨hw,hb,hO,hs⟩:=dJ bq hw hb hO hs);clear bq;refine SW.box rfl rfl fun b6 w2 bq dv ap => ?_
 (obtain ⟨hw,hb,aL,hO,hs⟩:=fH bq hw hb aL hO hs);clear bq;subst hi hk;have VF:j<z.n:=by omega
 obtain ⟨t,ht⟩ : ∃ t,l[j]=t:=⟨_,rfl⟩;simp only [ht];repeat' (first|refine Wy ?_|refine Wl (aL.cell (i:=0) (v := .int .i64 11) rfl) ?_)
 refine CW.gB 9 9 (fun _=>True) mixed (by kernel_rfl) fun w1 ah aI => ?_
 obtain ⟨hw,hb,aL,ap,hO,hs⟩:=jh ah hw hb aL ap hO hs;clear ah;refine Wp 0 [] [] aI rfl rfl ?_;refine Wt 1 [] [] aI rfl (aF rfl) ?_;refine Wt 2 [] [] aI rfl (az rfl) ?_;refine Wt 3 [] [] aI rfl (aP rfl (hb.cell (i:=9) (v := .slice z.A z.n z.c) rfl)) ?_;refine Wp 4 [] [] aI rfl rfl ?_;refine Wt 5 [] [] aI rfl (az rfl) ?_;refine Wt 6 [] [] aI rfl (aP rfl (ap.cell (i:=1) (v := .int .i64 x.N) rfl)) ?_;refine Wt 7 [8] [8] aI rfl (cf rfl rfl (by assumption) (by omega)) ?_;refine Wt 8 [] [] aI rfl (az rfl) ?_;refine SF.ff ?_;refine SW.gH j 0 ⟨x.N,t.ay,t.Kind,t.Name,t.Word,t.uu⟩ hO rfl rfl rfl VF (by decide) rfl (by rw [ht];rfl) fun oP lO hg => ?_
 have hG:=hO.gr hg;have hw:=aD hw hg dt hO.aW;(obtain ⟨hb,aL,ap⟩:=cd hG hb aL ap);have hK:=kX.ux (kX.ext (.refl w) hs.hx) hG;have ij:j4 oP oP:=⟨Ext.refl _⟩
 have pr:=lO.sl.base;repeat' (first|refine Wy ?_|fail);refine CW.gB 9 9 (fun _=>True) mixed (by kernel_rfl) fun w1 ah aI => ?_
 obtain ⟨hw,hb,aL,ap,lO,ij⟩:=jh ah hw hb aL ap lO ij;clear ah;refine Wp 0 [] [] aI rfl rfl ?_;refine Wt 1 [] [] aI rfl (aF rfl) ?_;refine Wt 2 [] [] aI rfl (az rfl) ?_;refine Wt 3 [] [] aI rfl (aP rfl (hb.cell (i:=9) (v := .slice z.A z.n z.c) rfl)) ?_;refine Wp 4 [] [] aI rfl rfl ?_;refine Wt 5 [] [] aI rfl (az rfl) ?_;refine Wt 6 [] [] aI rfl (aP rfl (aL.cell (i:=2) (v := .int .i64 n) rfl)) ?_;refine Wt 7 [8] [8] aI rfl (cf rfl rfl (by assumption) (by omega)) ?_;refine Wt 8 [] [] aI rfl (az rfl) ?_;refine SF.ff ?_;refine SW.gH j 1 ⟨x.N,n,t.Kind,t.Name,t.Word,t.uu⟩ lO rfl rfl rfl VF (by decide) rfl (by simp only [List.getElem_set_self];rfl) fun iZ bg dB => ?_
 have eE:=lO.gr dB;have hw:=aD hw dB dt lO.aW;(have hb:=hb.aJ eE rfl);rw [afY] at bg;repeat' (first|refine Wy ?_|fail);exact ae.qi rfl ⟨_,rfl,rfl,z,bg,hb,hw,.ux (hK.since ij) eE⟩
set_option maxHeartbeats 8000000 in
def IU (wb:World) (lo b:Nat) (r:de) (p q z:fY) (a:cr) (x:qI) (i:Int) (l:List bU) (w:World) (hk:a.Kind=13) (j:Nat) (hi:i=(j:Int)) (hj:j<l.length) (hw:Ext wb w) (hb:aR w b 48 (oT r p q z)) (rC:wb.heap.size<=b) (hO:Own w lo 50 6 lG z.A z.n z.c l) (dt:wb.heap.size<=lo) (tB:lo<=w.heap.size) (hn:z.n<=100000) :
 iO prog 22 [.pointer (some ⟨b,0,none⟩),.agg (dZ a).toArray,.agg (ck x).toArray,.int .i64 i] w (n7 wb w lo b r p q (l.set j ⟨l[j].At,l[j].ay,l[j].Kind,l[j].Name,a.M,true⟩)):=by
 obtain ⟨k,cpu,n,m,At,fl,nm⟩:=a;simp only at hk ⊢;refine dc func22 rfl ntmps22 rfl ?_;have hs:j4 w w:=⟨Ext.refl w⟩
 have hA:=hO.sl.base;have mx:=hO.len;refine Ww fun b5 w2 bq gI aL => ?_;(obtain ⟨hw,hb,hO,hs⟩:=dJ bq hw hb hO hs);clear bq;refine SW.box rfl rfl fun b6 w2 bq dv ap => ?_
 (obtain ⟨hw,hb,aL,hO,hs⟩:=fH bq hw hb aL hO hs);clear bq;subst hi hk;have VF:j<z.n:=by omega
 obtain ⟨t,ht⟩ : ∃ t,l[j]=t:=⟨_,rfl⟩;simp only [ht];repeat' (first|refine Wy ?_|refine Wl (aL.cell (i:=0) (v := .int .i64 13) rfl) ?_)
 refine CW.gB 9 9 (fun _=>True) mixed (by kernel_rfl) fun w1 ah aI => ?_
 obtain ⟨hw,hb,aL,ap,hO,hs⟩:=jh ah hw hb aL ap hO hs;clear ah;refine Wp 0 [] [] aI rfl rfl ?_;refine Wt 1 [] [] aI rfl (aF rfl) ?_;refine Wt 2 [] [] aI rfl (az rfl) ?_;refine Wt 3 [] [] aI rfl (aP rfl (hb.cell (i:=9) (v := .slice z.A z.n z.c) rfl)) ?_;refine Wp 4 [] [] aI rfl rfl ?_;refine Wt 5 [] [] aI rfl (az rfl) ?_;refine Wt 6 [] [] aI rfl (aP rfl (aL.cell (i:=3) (v := .int .i64 m) rfl)) ?_;refine Wt 7 [8] [8] aI rfl (cf rfl rfl (by assumption) (by omega)) ?_;refine Wt 8 [] [] aI rfl (az rfl) ?_;refine SF.ff ?_;refine SW.gH j 4 ⟨t.At,t.ay,t.Kind,t.Name,m,t.uu⟩ hO rfl rfl rfl VF (by decide) rfl (by rw [ht];rfl) fun oP lO hg => ?_
 have hG:=hO.gr hg;have hw:=aD hw hg dt hO.aW;(obtain ⟨hb,aL,ap⟩:=cd hG hb aL ap);have hK:=kX.ux (kX.ext (.refl w) hs.hx) hG;have ij:j4 oP oP:=⟨Ext.refl _⟩
 have pr:=lO.sl.base;repeat' (first|refine Wy ?_|refine Wl (hb.cell (i:=9) (v := .slice z.A z.n z.c) rfl) ?_)
 refine SW.gH j 5 ⟨t.At,t.ay,t.Kind,t.Name,m,true⟩ lO rfl rfl rfl VF (by decide) rfl (by simp only [List.getElem_set_self];rfl) fun iZ bg dB => ?_
 have eE:=lO.gr dB;have hw:=aD hw dB dt lO.aW;(have hb:=hb.aJ eE rfl);rw [afY] at bg;repeat' (first|refine Wy ?_|fail);exact ae.qi rfl ⟨_,rfl,rfl,z,bg,hb,hw,.ux (hK.since ij) eE⟩
set_option maxHeartbeats 8000000 in
def IV (wb:World) (lo b:Nat) (r:de) (p q z:fY) (a:cr) (x:qI) (i:Int) (l:List bU) (w:World) (hk:a.Kind=15) (ps:List Int) (hL:Own w lo 3 1 bt x.L.A x.L.n x.L.c ps) (P3:x.L.n<=1000) (hw:Ext wb w) (hb:aR w b 48 (oT r p q z)) (rC:wb.heap.size<=b) (hO:Own w lo 50 6 lG z.A z.n z.c l) (dt:wb.heap.size<=lo) (tB:lo<=w.heap.size) (hn:z.n<=100000) :
 iO prog 22 [.pointer (some ⟨b,0,none⟩),.agg (dZ a).toArray,.agg (ck x).toArray,.int .i64 i] w (n7 wb w lo b r p q (l++ps.map fun p=>⟨p,5,5,a.Name,0,false⟩)):=by
 obtain ⟨k,cpu,n,m,At,fl,nm⟩:=a;simp only at hk ⊢;refine dc func22 rfl ntmps22 rfl ?_;have hs:j4 w w:=⟨Ext.refl w⟩
 have hA:=hO.sl.base;have mx:=hO.len;refine Ww fun b5 w2 bq gI aL => ?_;(obtain ⟨hw,hb,hO,hs,hL⟩:=fH bq hw hb hO hs hL);clear bq;refine SW.box rfl rfl fun b6 w2 bq dv ap => ?_
 (obtain ⟨hw,hb,aL,hO,hs,hL⟩:=jh bq hw hb aL hO hs hL);clear bq;subst hk;have Ee:=hL.len;have hK:=kX.ext (.refl w) hs.hx;repeat' (first|refine Wy ?_|refine Wl (aL.cell (i:=0) (v := .int .i64 15) rfl) ?_|refine Wl (ap.cell (i:=2) (v := .slice x.L.A x.L.n x.L.c) rfl) ?_)
 refine CW.loop (fun s:Nat×fY=>[(0,.pointer (some ⟨b,0,none⟩)),(5,.pointer (some ⟨b5,0,none⟩)),(6,.pointer (some ⟨b6,0,none⟩)),(76,.slice x.L.A x.L.n x.L.c),(77,.int .i64 (x.L.n:Int)),(78,.int .i64 (s.1:Int))])
  (fun s w'=>s.1<=x.L.n∧s.2.n=z.n+s.1∧Ext wb w'∧kX w w'∧w.heap.size<=w'.heap.size∧aR w' b 48 (oT r p q s.2)∧aR w' b5 35 (dZ ⟨15,cpu,n,m,At,fl,nm⟩)∧aR w' b6 56 (ck x)∧Own w' lo 50 6 lG s.2.A s.2.n s.2.c (l++(ps.take s.1).map fun p=>⟨p,5,5,nm,0,false⟩)∧Own w' lo 3 1 bt x.L.A x.L.n x.L.c ps) (fun s=>x.L.n-s.1) (0,z)
  ⟨rfl,rfl,rfl,rfl,rfl,rfl,trivial⟩ ⟨afc _,rfl,hw,hK,hs.hx.size,hb,aL,ap,by rw [List.take_zero,List.map_nil,afU];exact hO,hL⟩ ?_
 clear hw hK hb aL ap hO hL hs hA;rintro ⟨j,y⟩ w' ⟨hj,TD,hw,hK,nq,hb,aL,ap,hO,hL⟩
 simp only at hj TD hb hO ⊢;have hA:=hO.sl.base;have hLA:=hL.sl.base;by_cases my:j<x.L.n
 ·have V2:j<ps.length:=by omega
  have hs:j4 w' w':=⟨Ext.refl _⟩
  have Qs:=fun w2 (h:Own w2 lo 3 1 bt x.L.A x.L.n x.L.c ps)=>h.sl.one my (congrArg bt (rfl:ps[j]=ps[j]))
  repeat' (first|refine Wy ?_|refine Wl (Qs _ hL) ?_)
  refine CW.gB 10 13 (fun _=>True) mixed (by kernel_rfl) fun w1 ah aI => ?_
  obtain ⟨hw,hb,aL,ap,hO,hL,hs⟩:=ue ah hw hb aL ap hO hL hs;clear ah;refine Wi 0 [] aI rfl (bi rfl) (fun w2 hS=>bi rfl) ?_;refine Wp 1 [4,3,2] [] aI rfl rfl ?_;refine Wt 2 [4,3] [] aI rfl (aF rfl) ?_;refine Wt 3 [4] [] aI rfl (az rfl) ?_;refine Wt 4 [] [] aI rfl (aP rfl (hb.cell (i:=9) (v := .slice y.A y.n y.c) rfl)) ?_;refine Wp 5 [9,8] [] aI rfl rfl ?_;refine Wt 6 [9,8,7] [] aI rfl (az rfl) ?_;refine Wt 7 [9,8] [] aI rfl (aP rfl (aL.cell (i:=6) (v := .string nm) rfl)) ?_;refine Wt 8 [9] [] aI rfl (jb rfl rfl) ?_;refine SF.bZ 9 ?_;refine SW.dR rfl rfl rfl rfl rfl fun Rh w9 ar ye pd => ?_
  (obtain ⟨hw,hb,aL,ap,hO,hL,hs⟩:=ue ar hw hb aL ap hO hL hs);refine SW.nil (ae.sf ar ?_);refine SF.iA ?_;refine SW.append hO (aR.wv (enc:=lG) (x:=⟨ps[j],5,5,nm,0,false⟩) pd) (aev tB (aev nq hs.hx.size)) rfl rfl rfl (by omega) (by omega) fun Y f oP lO hg => ?_
  have hG:=hO.gr hg;have hw:=aD hw hg dt hO.aW;(obtain ⟨hb,aL,ap,hL⟩:=dJ hG hb aL ap hL);have hS:=True.intro;refine SW.nil (ae.sg hS ?_);refine SG.bZ 11 ?_;repeat ((show SW _ _ _ _ (⟨_,Op.nilCheck _,_,_,_,none⟩::_) _ _;refine SW.st (aF rfl) rfl ?_))
  refine SW.nil (ae.sg hS ?_);refine SG.bZ 12 ?_;repeat ((show SW _ _ _ _ (⟨_,Op.fieldAddr _ _ _,_,_,_,none⟩::_) _ _;refine SW.st (az rfl) rfl ?_))
  refine SW.nil (ae.sg hS ?_);refine SG.ff ?_;refine Wb (i:=9) hb fun iZ iL dB => ?_
  have eE:=hb.gr dB;have hw:=hw.own rC dB;have bg:=lO.aJ eE rfl;(obtain ⟨aL,ap,hL⟩:=cd eE aL ap hL);have S9:=kX.pF (kX.ux (hK.since hs) hG) eE;have YV:w.heap.size<=iZ.heap.size:=aev nq (aev hs.hx.size (aev hg.size dB.size))
  rw [aey] at bg;have e:((ps.take j).map fun p=>(⟨p,5,5,nm,0,false⟩ : bU))++[⟨ps[j],5,5,nm,0,false⟩]=(ps.take (j+1)).map fun p=>⟨p,5,5,nm,0,false⟩:=by rw [aeA V2,aeV];rfl
  rw [e] at bg;repeat' (first|refine Wy ?_|fail);exact ae.again (j+1,⟨Y,y.n+1,f⟩) ⟨rfl,rfl,rfl,rfl,rfl,rfl,trivial⟩ (by simp only;omega) ⟨by simp only;omega,by simp only;omega,hw,S9,YV,iL,aL,ap,bg,hL⟩
 ·obtain rfl:j=x.L.n:=by omega
  rw [aeF (by omega)] at hO;repeat' (first|refine Wy ?_|fail);exact ae.qi rfl ⟨_,rfl,rfl,y,hO,hb,hw,hK⟩
def oq:prog.underlying 133=some (.map 9 3):=by kernel_rfl
def GK (w:World) : (zeroValue 3).run prog w = .ok (.int .i64 0) w:=by
 obtain ⟨inf,hi,hz,hs,yL⟩:=eM prog 3 (z := .int .i64 0) (sz:=1) (bytes:=8);simp [zeroValue,typeInfo,hi,hz]
set_option maxHeartbeats 8000000 in
def LP (wb:World) (lo b:Nat) (r:de) (p q z:fY) (a:cr) (x:qI) (i:Int) (l:List bU) (w:World) (hk:a.Kind=5) (hN:a.Name=nt∨a.Name=dN) (hw:Ext wb w) (hb:aR w b 48 (oT r p q z)) (rC:wb.heap.size<=b) (hO:Own w lo 50 6 lG z.A z.n z.c l) (dt:wb.heap.size<=lo) (tB:lo<=w.heap.size) (hn:z.n<=100000) :
 iO prog 22 [.pointer (some ⟨b,0,none⟩),.agg (dZ a).toArray,.agg (ck x).toArray,.int .i64 i] w (n7 wb w lo b r p q (l++[⟨x.N,oR a.Name,5,a.Name,0,false⟩])):=by
 obtain ⟨k,cpu,n,m,At,fl,nm⟩:=a;simp only at hk hN ⊢;refine dc func22 rfl ntmps22 rfl ?_;have hs:j4 w w:=⟨Ext.refl w⟩
 have hA:=hO.sl.base;have mx:=hO.len;refine Ww fun b5 w2 bq gI aL => ?_;(obtain ⟨hw,hb,hO,hs⟩:=dJ bq hw hb hO hs);clear bq;refine SW.box rfl rfl fun b6 w2 bq dv ap => ?_
 (obtain ⟨hw,hb,aL,hO,hs⟩:=fH bq hw hb aL hO hs);clear bq;subst hk;have pu:nm.size<=140737488351232:=by rcases hN with h|h<;>(rw [h];decide)
 repeat' (first|refine Wy ?_|refine Wl (aL.cell (i:=0) (v := .int .i64 5) rfl) ?_)
 focus
  refine CW.gB 7 23 (fun w2=>aR w2 b 48 (oT r p q z)∧aR w2 b5 35 (dZ ⟨5,cpu,n,m,At,fl,nm⟩)∧aR w2 b6 56 (ck x)) mixed (by kernel_rfl) fun w1 ah aI => ?_
  obtain ⟨hw,hb,aL,ap,hO,hs⟩:=jh ah hw hb aL ap hO hs;clear ah;refine Wi 0 [] aI rfl (bi rfl) (fun w2 hS=>bi rfl) ?_;refine SF.jl 1 [] aI rfl (by kernel_rfl) (by kernel_rfl) (by kernel_rfl) (bi rfl) (fun w2 hS=>bi rfl) rfl ?_;refine Wi 2 [] aI rfl (aF rfl) (fun w2 hS=>aF rfl) ?_;refine SF.jl 3 [] aI rfl (by kernel_rfl) (by kernel_rfl) (by kernel_rfl) (az rfl) (fun w2 hS=>az rfl) rfl ?_;refine Wi 4 [] aI rfl (aP rfl (hb.cell (i:=9) (v := .slice z.A z.n z.c) rfl)) (fun w2 hS=>aP rfl (hS.1.cell (i:=9) (v := .slice z.A z.n z.c) rfl)) ?_;refine Wi 5 [] aI rfl (az rfl) (fun w2 hS=>az rfl) ?_;refine SF.jl 6 [] aI rfl (by kernel_rfl) (by kernel_rfl) (by kernel_rfl) (aP rfl (ap.cell (i:=1) (v := .int .i64 x.N) rfl)) (fun w2 hS=>aP rfl (hS.2.2.cell (i:=1) (v := .int .i64 x.N) rfl)) rfl ?_;refine Wi 11 [] aI rfl (az rfl) (fun w2 hS=>az rfl) ?_;refine SF.jl 12 [] aI rfl (by kernel_rfl) (by kernel_rfl) (by kernel_rfl) (aP rfl (aL.cell (i:=6) (v := .string nm) rfl)) (fun w2 hS=>aP rfl (hS.2.1.cell (i:=6) (v := .string nm) rfl)) rfl ?_;refine Wi 14 [] aI rfl (az rfl) (fun w2 hS=>az rfl) ?_;refine SF.jl 15 [] aI rfl (by kernel_rfl) (by kernel_rfl) (by kernel_rfl) (aP rfl (aL.cell (i:=0) (v := .int .i64 5) rfl)) (fun w2 hS=>aP rfl (hS.2.1.cell (i:=0) (v := .int .i64 5) rfl)) rfl ?_;refine Wi 16 [] aI rfl (az rfl) (fun w2 hS=>az rfl) ?_;refine SF.jl 17 [] aI rfl (by kernel_rfl) (by kernel_rfl) (by kernel_rfl) (aP rfl (aL.cell (i:=6) (v := .string nm) rfl)) (fun w2 hS=>aP rfl (hS.2.1.cell (i:=6) (v := .string nm) rfl)) rfl ?_;refine SF.iA ?_;refine SW.OA 9 3 rfl fun VG w9 ar Rm hM => ?_
  have n1:b≠VG:=by have:=hb.lt;omega
  have n2:b5≠VG:=by have:=aL.lt;omega
  have n3:b6≠VG:=by have:=ap.lt;omega
  have n4:∀ k,aG z.A z.c=some k->k≠VG:=fun k e=>by have:=hO.lt_size k e;omega
  have JZ:=hw.up Rm
  have J0:w.heap.size<=VG:=aev hs.hx.size Rm
  (obtain ⟨hw,hb,aL,ap,hO,hs⟩:=jh ar hw hb aL ap hO hs);have hS:=And.intro hb (And.intro aL ap);refine SW.nil (ae.sg hS ?_);refine SG.two 8 9 rfl rfl (by kernel_rfl) rfl rfl ?_ ?_
  focus
   refine SW.zh (i:=5) hM (string_keyed nS) oq nT (by unfold maxLen;omega) rfl rfl rfl rfl (kq nt (by decide)) fun oP G0 hg => ?_
   have hb:=hb.grown hg (by simpa using n1);have aL:=aL.grown hg (by simpa using n2);have ap:=ap.grown hg (by simpa using n3);have hO:=hO.grown hg (.inr fun e=>n4 _ e rfl);have hw:=hw.own JZ hg;have hs:j4 w _:=⟨hs.hx.own J0 hg⟩;have hM:=G0;clear G0 hg;have hS:=And.intro hb (And.intro aL ap);refine SW.nil (ae.sg hS ?_);refine SG.bZ 9 ?_;refine SW.zh (i:=2) hM (string_keyed nS) oq nT (by unfold maxLen;omega) rfl rfl rfl rfl (kq dN (by decide)) fun oP G0 hg => ?_
   have hb:=hb.grown hg (by simpa using n1);have aL:=aL.grown hg (by simpa using n2);have ap:=ap.grown hg (by simpa using n3);have hO:=hO.grown hg (.inr fun e=>n4 _ e rfl);have hw:=hw.own JZ hg;have hs:j4 w _:=⟨hs.hx.own J0 hg⟩;have hM:=G0;clear G0 hg;have hS:=And.intro hb (And.intro aL ap);refine SW.nil (ae.sg hS ?_);refine SG.bZ 10 ?_;repeat (refine SW.pure rfl rfl ?_)
   refine SW.nil (ae.sg hS ?_);refine SG.bZ 13 ?_;refine SW.st (By hM (string_keyed nS) oq nT GK rfl rfl (kq nm pu) (by first|exact (EC nm hN).1|exact (EC nm hN).2)) rfl ?_;refine SW.nil (ae.sg hS ?_);refine SG.bZ 18 ?_;repeat ((show SW _ _ _ _ (⟨_,Op.build _ _,_,_,_,none⟩::_) _ _;refine SW.st (jb rfl rfl) rfl ?_))
   refine SW.nil (ae.sg hS ?_);refine SG.bZ 19 ?_;refine SW.dR rfl rfl rfl rfl rfl fun Rh w9 ar ye pd => ?_
   (obtain ⟨hw,hb,aL,ap,hO,hs⟩:=jh ar hw hb aL ap hO hs);have hS:=And.intro hb (And.intro aL ap);refine SW.nil (ae.sg hS ?_);refine SG.bZ 20 ?_;refine SW.append hO (aR.wv (enc:=lG) (x:=⟨x.N,oR nm,5,nm,0,false⟩) pd) (aev tB hs.hx.size) rfl rfl rfl (by omega) (by omega) fun Y f oP lO hg => ?_
   have hG:=hO.gr hg;have hw:=aD hw hg dt hO.aW;(obtain ⟨hb,aL,ap⟩:=cd hG hb aL ap);have hS:=And.intro hb (And.intro aL ap);refine SW.nil (ae.sg hS ?_);refine SG.bZ 21 ?_;repeat ((show SW _ _ _ _ (⟨_,Op.nilCheck _,_,_,_,none⟩::_) _ _;refine SW.st (aF rfl) rfl ?_))
   refine SW.nil (ae.sg hS ?_);refine SG.bZ 22 ?_;repeat ((show SW _ _ _ _ (⟨_,Op.fieldAddr _ _ _,_,_,_,none⟩::_) _ _;refine SW.st (az rfl) rfl ?_))
   refine SW.nil (ae.sg hS ?_)
  rotate_left
  focus
   refine SW.zh (i:=2) hM (string_keyed nS) oq nT (by unfold maxLen;omega) rfl rfl rfl rfl (kq dN (by decide)) fun oP G0 hg => ?_
   have hb:=hb.grown hg (by simpa using n1);have aL:=aL.grown hg (by simpa using n2);have ap:=ap.grown hg (by simpa using n3);have hO:=hO.grown hg (.inr fun e=>n4 _ e rfl);have hw:=hw.own JZ hg;have hs:j4 w _:=⟨hs.hx.own J0 hg⟩;have hM:=G0;clear G0 hg;have hS:=And.intro hb (And.intro aL ap);refine SW.nil (ae.sg hS ?_);refine SG.bZ 8 ?_;refine SW.zh (i:=5) hM (string_keyed nS) oq nT (by unfold maxLen;omega) rfl rfl rfl rfl (kq nt (by decide)) fun oP G0 hg => ?_
   have hb:=hb.grown hg (by simpa using n1);have aL:=aL.grown hg (by simpa using n2);have ap:=ap.grown hg (by simpa using n3);have hO:=hO.grown hg (.inr fun e=>n4 _ e rfl);have hw:=hw.own JZ hg;have hs:j4 w _:=⟨hs.hx.own J0 hg⟩;have hM:=G0;clear G0 hg;have hS:=And.intro hb (And.intro aL ap);refine SW.nil (ae.sg hS ?_);refine SG.bZ 10 ?_;repeat (refine SW.pure rfl rfl ?_)
   refine SW.nil (ae.sg hS ?_);refine SG.bZ 13 ?_;refine SW.st (By hM (string_keyed nS) oq nT GK rfl rfl (kq nm pu) (by first|exact (EC nm hN).1|exact (EC nm hN).2)) rfl ?_;refine SW.nil (ae.sg hS ?_);refine SG.bZ 18 ?_;repeat ((show SW _ _ _ _ (⟨_,Op.build _ _,_,_,_,none⟩::_) _ _;refine SW.st (jb rfl rfl) rfl ?_))
   refine SW.nil (ae.sg hS ?_);refine SG.bZ 19 ?_;refine SW.dR rfl rfl rfl rfl rfl fun Rh w9 ar ye pd => ?_
   (obtain ⟨hw,hb,aL,ap,hO,hs⟩:=jh ar hw hb aL ap hO hs);have hS:=And.intro hb (And.intro aL ap);refine SW.nil (ae.sg hS ?_);refine SG.bZ 20 ?_;refine SW.append hO (aR.wv (enc:=lG) (x:=⟨x.N,oR nm,5,nm,0,false⟩) pd) (aev tB hs.hx.size) rfl rfl rfl (by omega) (by omega) fun Y f oP lO hg => ?_
   have hG:=hO.gr hg;have hw:=aD hw hg dt hO.aW;(obtain ⟨hb,aL,ap⟩:=cd hG hb aL ap);have hS:=And.intro hb (And.intro aL ap);refine SW.nil (ae.sg hS ?_);refine SG.bZ 21 ?_;repeat ((show SW _ _ _ _ (⟨_,Op.nilCheck _,_,_,_,none⟩::_) _ _;refine SW.st (aF rfl) rfl ?_))
   refine SW.nil (ae.sg hS ?_);refine SG.bZ 22 ?_;repeat ((show SW _ _ _ _ (⟨_,Op.fieldAddr _ _ _,_,_,_,none⟩::_) _ _;refine SW.st (az rfl) rfl ?_))
   refine SW.nil (ae.sg hS ?_)
  rotate_left
  all_goals
   refine SG.ff ?_;refine Wb (i:=9) hb fun iZ iL dB => ?_
   have eE:=hb.gr dB;have hw:=hw.own rC dB;have bg:=lO.aJ eE rfl;repeat' (first|refine Wy ?_|fail);exact ae.qi rfl ⟨_,rfl,rfl,⟨Y,z.n+1,f⟩,bg,iL,hw,.pF (.ux (.ext (.refl w) hs.hx) hG) eE⟩
variable {s0:ag} {j:Nat}
def qM {l:List bU} {a:cr} {i:Int} (h:pX s0 j s l a i) (r:de) (lo:Nat) (w:World) (hO:jj w lo r s) (dt:lo<=w.heap.size) (hI:dy s) (hS:iQ w) (fh:m9 w) :
 bI prog 21 [.agg (aK r).toArray,.agg (dZ a).toArray] w fun v w' => ∃ u,cu s a u∧P7 lo u v w':=by
 have hD:IR s a:=⟨h.nX,h.word,h.room⟩
 have h1:=h.at_;have h2:=h.name;rcases h.kinds with hk|hk
 ·exact Oz a hk (by omega) (by omega) r s lo w hO dt hI hD hS fh
 ·exact LK a hk r s lo w hO dt hI hD
def LQ {a:cr} {y:j8} {i:Int} {l l':List bU} (h:qL a y i l l') (wb:World) (lo b:Nat) (r:de) (p q z:fY) (x:qI) (w:World) (hx:kH w lo x y) (hw:Ext wb w) (hb:aR w b 48 (oT r p q z)) (rC:wb.heap.size<=b)
 (hO:Own w lo 50 6 lG z.A z.n z.c l) (dt:wb.heap.size<=lo) (tB:lo<=w.heap.size) (hn:z.n<=100000) :
 iO prog 22 [.pointer (some ⟨b,0,none⟩),.agg (dZ a).toArray,.agg (ck x).toArray,.int .i64 i] w (n7 wb w lo b r p q l'):=by
 have hl:=hO.len;have e:=hx.n;cases h with
 | k8 hk=>rw [<- e];exact LL wb lo b r p q z a x i l w hk hw hb rC hO dt tB hn
 | k1 hk hN=>rw [<- e] at hN ⊢;exact LM wb lo b r p q z a x i l w hk hN hw hb rC hO dt tB hn
 | k5 hk hN=>rw [<- e];exact LP wb lo b r p q z a x i l w hk hN hw hb rC hO dt tB hn
 | Yx hk hN=>exact IV wb lo b r p q z a x i l w hk y.L hx.list (by rw [<- hx.list.len];exact hN) hw hb rC hO dt tB hn
 | back hk hi hj=>exact LN wb lo b r p q z a x i l w hk _ hi (by omega) hw hb rC hO dt tB hn
 | move hk hi hj=>rw [<- e];exact IT wb lo b r p q z a x i l w hk _ hi hj hw hb rC hO dt tB hn
 | write hk hi hj=>exact IU wb lo b r p q z a x i l w hk _ hi hj hw hb rC hO dt tB hn
 | none hk=>exact LO wb lo b r p q z a x i l w hk hw hb rC hO dt tB hn
structure Qm (a:cr) : Prop where
 kinds:a.Kind∈kJ∨a.Kind=13∨a.Kind=14
 at_ : -100000<=a.At∧a.At<=100000
 name:a.Name.size<=8
structure nD (w:World) (lo b:Nat) (r:de) (p q z:fY) (rs:List qI) (s0:ag) (cX:List cr) (xs:List j8) (l:List bU) (s:ag) (j:Nat) : Prop where
 low:lo<=b
 pF:aR w b 48 (oT r p q z)
 wm:Own w lo 35 7 dZ p.A p.n p.c cX
 ED:jf w lo q.A q.n q.c rs xs
 o9:Own w lo 50 6 lG z.A z.n z.c l
 run:jN s0 cX xs s
 phase:Ph s0 j s l
 D0:∀ a∈cX,Qm a
 len:cX.length<=j
 many:z.n<=1000*j
structure Tg where
 j:Nat
 r:de
 p:fY
 q:fY
 z:fY
 rs:List qI
 cX:List cr
 xs:List j8
 l:List bU
 s:ag
def VH {t:Nat} {r:de} {p q z:fY} (h:aR w b t (oT r p q z)) : ∀ j v,(aK r)[j]?=some v->w.cell? ((((⟨b,0,none⟩ : Addr)).add 0).add j)=some v:=fun j v hv=>by
 rw [QK]
 exact h.cell (by
  have hj:j<(aK r).length:=(aeQ.1 hv).1
  have:oT r p q z=aK r++[.slice p.A p.n p.c,.slice q.A q.n q.c,.slice z.A z.n z.c]:=rfl
  rw [this,ae8 hj];exact hv)
def Dv {t:Nat} {x:uU} (h:aR w b t (sc x)) : ∀ j v,(dZ x.act)[j]?=some v->w.cell? ((((⟨b,0,none⟩ : Addr)).add 0).add j)=some v:=fun j v hv=>by
 rw [QK]
 exact h.cell (by
  have hj:j<(dZ x.act).length:=(aeQ.1 hv).1
  have:sc x=dZ x.act++[.int .i64 x.Of]:=rfl
  rw [this,ae8 hj];exact hv)
def Qn (lo:Nat) (R:ag->Prop) (j:Nat) (v:Value) (w:World) : Prop := ∃ b r p q z rs s0 cX xs l s,R s0∧v = .tuple #[.pointer (some ⟨b,0,none⟩),.bool true]∧nD w lo b r p q z rs s0 cX xs l s j
set_option maxHeartbeats 16000000 in
def OC (cpus:Int) (A:Option Addr) (n c:Nat) (B:Option Addr) (m d:Nat) (x y:List Region) (split least cp:Int) (X:Option Addr) (k e:Nat) (l':List uU) (w:World) (hx:Sl w 2 iB A n x) (hy:Sl w 2 iB B m y) (hn:n<=9223372036854775807) (hm:m<=9223372036854775807) (Me : -9223372036854775808<=split∧split<=9223372036854775807) (hS:iQ w) (fh:m9 w)
 (hl:Sl w 8 sc X k ([oU,jE]++l')) (hk:k<=42) (hR:∀ x∈l',rM cpus x) (hI:∀ u,ja (jD 256 x y) split least cp u->u.2=0∧Start u.1) :
 bI prog 10 [.agg (fj A n c B m d split least cp).toArray,.slice X k e] w fun v w'=>Qn w.heap.size (fun s=>ja (jD 256 x y) split least cp (s,0)) k v w':=by
 refine Wj func10 ntmps10 ?_;refine Ww fun b2 w1 hw eW aq => ?_;have mx:=hl.len;have hlA:=hl.base;repeat' (first|refine Wy ?_|refine Wm ((fun _ _=>aq.cell)) ?_)
 refine Wk (Bu A n c B m d x y split least cp _ (hx.ext hw) (hy.ext hw) hn hm Me (hS.ext hw)) fun v w5 oX hv => ?_
 obtain ⟨u,hu,r1,rfl,hs⟩:=hv;replace hs:=hs.low hw.size;replace hw:=Ext.trans hw oX;clear oX aq eW;obtain ⟨he,h0⟩:=hI _ hu;obtain ⟨s0,u2⟩:=u;simp only at hs h0 he ⊢;subst he;repeat' (first|refine Wy ?_|fail);refine SW.alloc rfl fun b6 w1 ah dv ap => ?_
 skip;refine Wg ap (aU r1) fun w2 bQ hg => ?_
 have ar:=ah.own dv hg;have cQ:w.heap.size<=b6:=aev hw.size dv
 replace hw:=Ext.trans hw ar;replace hs:=hs.ext ar;replace ap:=bQ;clear bQ ah hg ar;repeat' (first|refine Wy ?_|refine Wm ((fun _ _=>ap.cell)) ?_)
 refine SW.box rfl rfl fun b8 w2 bq nV bf => ?_
 replace bf:aR _ b8 48 (oT r1 ⟨none,0,0⟩ ⟨none,0,0⟩ ⟨none,0,0⟩):=bf;have gq:w.heap.size<=b8:=aev hw.size nV
 (replace hw:=Ext.trans hw bq;replace hs:=hs.ext bq);clear bq ap dv cQ;repeat' (first|refine Wy ?_|fail)
 refine CW.loop (fun s:Tg=>[(8,.pointer (some ⟨b8,0,none⟩)),(25,.slice X k e),(26,.int .i64 (k:Int)),(27,.int .i64 (s.j:Int))])
  (fun t w'=>t.j<=k∧Ext w w'∧jj w' w.heap.size t.r t.s∧t.z.n<=1000*t.j∧nD w' w.heap.size b8 t.r t.p t.q t.z t.rs s0 t.cX t.xs t.l t.s t.j) (fun s=>k-s.j) ⟨0,r1,⟨none,0,0⟩,⟨none,0,0⟩,⟨none,0,0⟩,[],[],[],[],s0⟩
  ⟨rfl,rfl,rfl,rfl,trivial⟩ ⟨afc _,hw,hs,afc _,gq,bf,Own.fC _ _ _ _ _ _,jf.fC _ _ _,Own.fC _ _ _ _ _ _,.nil _,.p0,(fun a ha=>by cases ha),afc _,afc _⟩ ?_
 clear hw hs bf;rintro ⟨j,r,p,q,z,rs,cX,xs,l,s⟩ w' ⟨hj,hw,hs,hz,_,bf,hA,hT,hZ,sL,TQ,sN,hlen,_⟩
 simp only at hj hs hz bf hA hT hZ sL TQ sN hlen ⊢;have VI:=TQ.sys h0;by_cases my:j<k
 ·have pZ:j<([oU,jE]++l').length:=by omega
  obtain ⟨x,ex⟩ : ∃ x,([oU,jE]++l')[j]=x:=⟨_,rfl⟩;have LR:=asked TQ h0 hR pZ ex;have fc:=hl.all my;rw [ex] at fc;repeat' (first|refine Wy ?_|refine Wo hw fc ?_)
  refine SW.alloc rfl fun oF w1 ah nb aC => ?_
  skip;refine Wg aC (Vu x) fun w2 bA hg => ?_
  have ar:=ah.own nb hg;have il:w.heap.size<=oF:=aev hw.size nb
  replace hw:=Ext.trans hw ar;replace bf:=bf.ext ar;replace hs:=hs.ext ar;replace hA:=hA.ext ar;replace hT:=hT.ext ar;replace hZ:=hZ.ext ar;replace aC:=bA;clear bA ah hg ar;repeat' (first|refine Wy ?_|fail);refine Wl (aC.cell (i:=7) (v := .int .i64 x.Of) rfl) ?_;refine SW.pure rfl rfl (SW.nil (ae.seq ?_))
  obtain ⟨KK,BR⟩ : ∃ KK:Env->World->Prop,KK=fun L' w2 => ∃ a i,iM L' [(8,.pointer (some ⟨b8,0,none⟩)),(10,.pointer (some ⟨oF,0,none⟩)),(11,.int .i64 i),(25,.slice X k e),(26,.int .i64 (k:Int)),(27,.int .i64 (j:Int))]∧Ext w w2∧aR w2 b8 48 (oT r p q z)∧aR w2 oF 81 (sc ⟨a,x.Of⟩) ∧
   jj w2 w.heap.size r s∧Own w2 w.heap.size 35 7 dZ p.A p.n p.c cX∧jf w2 w.heap.size q.A q.n q.c rs xs∧Own w2 w.heap.size 50 6 lG z.A z.n z.c l∧pX s0 j s l a i:=⟨_,rfl⟩
  have Hv:=hZ.len;have hzA:=hZ.sl.base;refine CW.RD KK ?_ ?_
  ·by_cases h0 : 0<x.Of
   ·repeat' (first|refine Wy ?_|refine Wm ((fun _ _=>aC.cell)) ?_)
    refine Wk (Oi b8 r p q z x l _ bf hZ.sl (by omega) ⟨h0,by have:=LR.top;omega⟩) fun v w5 oX hv => ?_
    obtain ⟨i,rfl,hi⟩:=hv;(replace hw:=Ext.trans hw oX;replace bf:=bf.ext oX;replace aC:=aC.ext oX;replace hs:=hs.ext oX;replace hA:=hA.ext oX;replace hT:=hT.ext oX;replace hZ:=hZ.ext oX);clear oX;rcases hi with rfl|⟨i0,YW,rfl,hp⟩
    ·repeat' (first|refine Wy ?_|fail);refine ae.Mz ?_;repeat' (first|refine Wy ?_|fail);exact ae.again ⟨j+1,r,p,q,z,rs,cX,xs,l,s⟩ ⟨rfl,rfl,rfl,rfl,trivial⟩ (by simp only;omega) ⟨by simp only;omega,hw,hs,by simp only;omega,gq,bf,hA,hT,hZ,sL,LR.pass h0,sN,by simp only;omega,by simp only;omega⟩
    ·have GL:=LR.pick h0 i0 YW hp;have kZ:=LR.at_ i0 YW;obtain ⟨t,et⟩ : ∃ t,l[i0]=t:=⟨_,rfl⟩;have fat:=fun w2 (h:Own w2 w.heap.size 50 6 lG z.A z.n z.c l)=>h.sl.cell i0 YW 0 (.int .i64 t.At) (by rw [et];rfl)
     rw [et] at GL kZ hp;have acN:i0<z.n:=by omega
     repeat' (first|refine Wy ?_|refine Wl (bf.cell (i:=9) (v := .slice z.A z.n z.c) rfl) ?_|refine Wl (fat _ hZ) ?_)
     refine Wb (i:=4) aC fun iZ bA dB => ?_
     have eE:=aC.gr dB;replace hw:=hw.own il dB;(replace bf:=bf.aJ eE rfl;replace hs:=hs.aJ eE rfl;replace hA:=hA.aJ eE rfl;replace hT:=hT.aJ eE rfl;replace hZ:=hZ.aJ eE rfl);replace aC:aR _ oF 81 (sc ⟨dA x.act t.At,x.Of⟩):=bA;clear bA eE dB;by_cases h2:x.act.Kind=2
     ·repeat' (first|refine Wy ?_|refine Wl (Dv aC 0 (.int .i64 x.act.Kind) rfl) ?_|refine Wl (Dv aC 4 (.int .i64 t.At) rfl) ?_)
      refine Wb (i:=4) aC fun iZ bA dB => ?_
      have eE:=aC.gr dB;replace hw:=hw.own il dB;(replace bf:=bf.aJ eE rfl;replace hs:=hs.aJ eE rfl;replace hA:=hA.aJ eE rfl;replace hT:=hT.aJ eE rfl;replace hZ:=hZ.aJ eE rfl);have ea:tg x.act t=t.At / 16:=if_pos h2
      replace aC:aR _ oF 81 (sc ⟨dA x.act (t.At / 16),x.Of⟩):=bA;clear bA eE dB;rw [ea] at GL;repeat' (first|refine Wy ?_|fail);exact ae.mD (K:=KK) (by rw [BR];exact ⟨_,_,⟨rfl,rfl,rfl,rfl,rfl,rfl,trivial⟩,hw,bf,aC,hs,hA,hT,hZ,GL⟩)
     ·repeat' (first|refine Wy ?_|refine Wl (Dv aC 0 (.int .i64 x.act.Kind) rfl) ?_)
      have ea:tg x.act t=t.At:=if_neg h2
      rw [ea] at GL;exact ae.mD (K:=KK) (by rw [BR];exact ⟨_,_,⟨rfl,rfl,rfl,rfl,rfl,rfl,trivial⟩,hw,bf,aC,hs,hA,hT,hZ,GL⟩)
   ·repeat' (first|refine Wy ?_|fail);exact ae.mD (K:=KK) (by rw [BR];exact ⟨x.act,-1,⟨rfl,rfl,rfl,rfl,rfl,rfl,trivial⟩,hw,bf,aC,hs,hA,hT,hZ,LR.free h0⟩)
  ·clear hw bf aC hs hA hT hZ LR;subst BR;rintro L' w' ⟨a,i,jc,hw,bf,aC,hs,hA,hT,hZ,GL⟩
   refine ae.sub jc ?_;have j6:j4 w' w':=⟨Ext.refl _⟩
   have l7:=hT.row.lt_size;have acO:=GL;have Hv:=hZ.len;repeat' (first|refine Wy ?_|fail)
   obtain ⟨K2,S9⟩ : ∃ K2:Env->World->Prop,K2=fun L' w2 => ∃ vV tZ r2 x2 u,iM L' [(8,.pointer (some ⟨b8,0,none⟩)),(10,.pointer (some ⟨oF,0,none⟩)),(11,.int .i64 i),(12,.pointer (some ⟨vV,0,none⟩)),(13,.pointer (some ⟨tZ,0,none⟩)),(25,.slice X k e),(26,.int .i64 (k:Int)),(27,.int .i64 (j:Int))]∧Ext w w2∧aR w2 b8 48 (oT r p q z)∧aR w2 oF 81 (sc ⟨a,x.Of⟩) ∧
    aR w2 vV 44 (aK r2)∧aR w2 tZ 56 (ck x2)∧cu s a u∧jj w2 w.heap.size r2 u.1∧kH w2 w.heap.size x2 u.2∧Own w2 w.heap.size 35 7 dZ p.A p.n p.c cX∧jf w2 w.heap.size q.A q.n q.c rs xs∧Own w2 w.heap.size 50 6 lG z.A z.n z.c l ∧ ∀ k,aG q.A q.c=some k->k≠tZ:=⟨_,rfl⟩
   refine CW.RD K2 ?_ ?_
   focus
    refine CW.gB 12 13 (fun _=>True) mixed (by kernel_rfl) fun w1 ah aI => ?_
    replace hw:=Ext.trans hw ah;replace bf:=bf.ext ah;replace aC:=aC.ext ah;replace hs:=hs.ext ah;replace hA:=hA.ext ah;replace hT:=hT.ext ah;replace hZ:=hZ.ext ah;replace j6:=j6.ext ah;clear ah;refine Wp 0 [] [] aI rfl rfl ?_;refine Wt 1 [] [] aI rfl (aF rfl) ?_;refine Wt 2 [] [] aI rfl (az rfl) ?_;refine Wt 3 [] [] aI rfl (aY rfl rfl (VH bf)) ?_;refine Wt 4 [] [] aI rfl (az rfl) ?_;refine Wt 5 [] [] aI rfl (aY rfl rfl (Dv aC)) ?_;refine SF.three 6 10 11 rfl rfl rfl (by kernel_rfl) rfl rfl rfl ?_ ?_ ?_
    focus
     refine Wk (qM GL r w.heap.size _ hs hw.size VI (hS.ext hw) (fh.ext hw)) fun v w5 ar hv => ?_
     obtain ⟨u,hu,r2,x2,rfl,ij,ox⟩:=hv;(try replace cb:=cb.ext ar);(try replace cw:=cw.ext ar);(replace hw:=Ext.trans hw ar;replace bf:=bf.ext ar;replace aC:=aC.ext ar;replace hs:=hs.ext ar;replace hA:=hA.ext ar;replace hT:=hT.ext ar;replace hZ:=hZ.ext ar;replace j6:=j6.ext ar);refine SW.nil (ae.sf ar ?_);refine Wp 7 [] [] aI rfl rfl ?_;refine Wp 8 [] [] aI rfl rfl ?_;refine Wi 9 [] aI rfl (bi rfl) (fun w2 hS=>bi rfl) ?_;refine SF.two 10 11 rfl rfl (by kernel_rfl) rfl rfl ?_ ?_
     focus
      refine SW.alloc rfl fun vV w9 ar lZ cb => ?_
      have nf:w.heap.size<=vV:=aev hw.size lZ
      (try replace ij:=ij.ext ar);(try replace ox:=ox.ext ar);(try replace cw:=cw.ext ar);(replace hw:=Ext.trans hw ar;replace bf:=bf.ext ar;replace aC:=aC.ext ar;replace hs:=hs.ext ar;replace hA:=hA.ext ar;replace hT:=hT.ext ar;replace hZ:=hZ.ext ar;replace j6:=j6.ext ar);refine SW.nil (ae.sf ar ?_);refine SF.bZ 11 ?_;refine SW.alloc rfl fun tZ w9 ar mj cw => ?_
      have uw:w.heap.size<=tZ:=aev hw.size mj
      have GM:∀ k,aG q.A q.c=some k->k≠tZ:=fun k e=>by have:=l7 k e;have:=j6.hx.size;omega
      (try replace ij:=ij.ext ar);(try replace ox:=ox.ext ar);(try replace cb:=cb.ext ar);(replace hw:=Ext.trans hw ar;replace bf:=bf.ext ar;replace aC:=aC.ext ar;replace hs:=hs.ext ar;replace hA:=hA.ext ar;replace hT:=hT.ext ar;replace hZ:=hZ.ext ar;replace j6:=j6.ext ar);refine SW.nil (ae.sf ar ?_);refine SF.iA ?_;refine Wg cb (aU r2) fun w8 lB hg => ?_
      have hG:=cb.gr hg;replace hw:=hw.own nf hg;(replace bf:=bf.aJ hG rfl;replace aC:=aC.aJ hG rfl;replace hA:=hA.aJ hG rfl;replace hT:=hT.aJ hG rfl;replace hZ:=hZ.aJ hG rfl;replace ij:=ij.aJ hG rfl;replace ox:=ox.aJ hG rfl;replace cw:=cw.aJ hG rfl);have hS:=True.intro;refine SW.nil (ae.sg hS ?_)
     rotate_left
     focus
      refine SW.alloc rfl fun tZ w9 ar mj cw => ?_
      have uw:w.heap.size<=tZ:=aev hw.size mj
      have GM:∀ k,aG q.A q.c=some k->k≠tZ:=fun k e=>by have:=l7 k e;have:=j6.hx.size;omega
      (try replace ij:=ij.ext ar);(try replace ox:=ox.ext ar);(try replace cb:=cb.ext ar);(replace hw:=Ext.trans hw ar;replace bf:=bf.ext ar;replace aC:=aC.ext ar;replace hs:=hs.ext ar;replace hA:=hA.ext ar;replace hT:=hT.ext ar;replace hZ:=hZ.ext ar;replace j6:=j6.ext ar);refine SW.nil (ae.sf ar ?_);refine SF.bZ 10 ?_;refine SW.alloc rfl fun vV w9 ar lZ cb => ?_
      have nf:w.heap.size<=vV:=aev hw.size lZ
      (try replace ij:=ij.ext ar);(try replace ox:=ox.ext ar);(try replace cw:=cw.ext ar);(replace hw:=Ext.trans hw ar;replace bf:=bf.ext ar;replace aC:=aC.ext ar;replace hs:=hs.ext ar;replace hA:=hA.ext ar;replace hT:=hT.ext ar;replace hZ:=hZ.ext ar;replace j6:=j6.ext ar);refine SW.nil (ae.sf ar ?_);refine SF.iA ?_;refine Wg cb (aU r2) fun w8 lB hg => ?_
      have hG:=cb.gr hg;replace hw:=hw.own nf hg;(replace bf:=bf.aJ hG rfl;replace aC:=aC.aJ hG rfl;replace hA:=hA.aJ hG rfl;replace hT:=hT.aJ hG rfl;replace hZ:=hZ.aJ hG rfl;replace ij:=ij.aJ hG rfl;replace ox:=ox.aJ hG rfl;replace cw:=cw.aJ hG rfl);have hS:=True.intro;refine SW.nil (ae.sg hS ?_)
     rotate_left
    rotate_left 2
    focus
     refine SW.alloc rfl fun vV w9 ar lZ cb => ?_
     have nf:w.heap.size<=vV:=aev hw.size lZ
     (try replace ij:=ij.ext ar);(try replace ox:=ox.ext ar);(try replace cw:=cw.ext ar);(replace hw:=Ext.trans hw ar;replace bf:=bf.ext ar;replace aC:=aC.ext ar;replace hs:=hs.ext ar;replace hA:=hA.ext ar;replace hT:=hT.ext ar;replace hZ:=hZ.ext ar;replace j6:=j6.ext ar);refine SW.nil (ae.sf ar ?_);refine SF.two 6 11 rfl rfl (by kernel_rfl) rfl rfl ?_ ?_
     focus
      refine Wk (qM GL r w.heap.size _ hs hw.size VI (hS.ext hw) (fh.ext hw)) fun v w5 ar hv => ?_
      obtain ⟨u,hu,r2,x2,rfl,ij,ox⟩:=hv;(try replace cb:=cb.ext ar);(try replace cw:=cw.ext ar);(replace hw:=Ext.trans hw ar;replace bf:=bf.ext ar;replace aC:=aC.ext ar;replace hs:=hs.ext ar;replace hA:=hA.ext ar;replace hT:=hT.ext ar;replace hZ:=hZ.ext ar;replace j6:=j6.ext ar);refine SW.nil (ae.sf ar ?_);refine Wp 7 [] [] aI rfl rfl ?_;refine Wp 8 [] [] aI rfl rfl ?_;refine Wi 9 [] aI rfl (bi rfl) (fun w2 hS=>bi rfl) ?_;refine SF.bZ 11 ?_;refine SW.alloc rfl fun tZ w9 ar mj cw => ?_
      have uw:w.heap.size<=tZ:=aev hw.size mj
      have GM:∀ k,aG q.A q.c=some k->k≠tZ:=fun k e=>by have:=l7 k e;have:=j6.hx.size;omega
      (try replace ij:=ij.ext ar);(try replace ox:=ox.ext ar);(try replace cb:=cb.ext ar);(replace hw:=Ext.trans hw ar;replace bf:=bf.ext ar;replace aC:=aC.ext ar;replace hs:=hs.ext ar;replace hA:=hA.ext ar;replace hT:=hT.ext ar;replace hZ:=hZ.ext ar;replace j6:=j6.ext ar);refine SW.nil (ae.sf ar ?_);refine SF.iA ?_;refine Wg cb (aU r2) fun w8 lB hg => ?_
      have hG:=cb.gr hg;replace hw:=hw.own nf hg;(replace bf:=bf.aJ hG rfl;replace aC:=aC.aJ hG rfl;replace hA:=hA.aJ hG rfl;replace hT:=hT.aJ hG rfl;replace hZ:=hZ.aJ hG rfl;replace ij:=ij.aJ hG rfl;replace ox:=ox.aJ hG rfl;replace cw:=cw.aJ hG rfl);have hS:=True.intro;refine SW.nil (ae.sg hS ?_)
     rotate_left
     focus
      refine SW.alloc rfl fun tZ w9 ar mj cw => ?_
      have uw:w.heap.size<=tZ:=aev hw.size mj
      have GM:∀ k,aG q.A q.c=some k->k≠tZ:=fun k e=>by have:=l7 k e;have:=j6.hx.size;omega
      (try replace ij:=ij.ext ar);(try replace ox:=ox.ext ar);(try replace cb:=cb.ext ar);(replace hw:=Ext.trans hw ar;replace bf:=bf.ext ar;replace aC:=aC.ext ar;replace hs:=hs.ext ar;replace hA:=hA.ext ar;replace hT:=hT.ext ar;replace hZ:=hZ.ext ar;replace j6:=j6.ext ar);refine SW.nil (ae.sf ar ?_);refine SF.bZ 6 ?_;refine Wk (qM GL r w.heap.size _ hs hw.size VI (hS.ext hw) (fh.ext hw)) fun v w5 ar hv => ?_
      obtain ⟨u,hu,r2,x2,rfl,ij,ox⟩:=hv;(try replace cb:=cb.ext ar);(try replace cw:=cw.ext ar);(replace hw:=Ext.trans hw ar;replace bf:=bf.ext ar;replace aC:=aC.ext ar;replace hs:=hs.ext ar;replace hA:=hA.ext ar;replace hT:=hT.ext ar;replace hZ:=hZ.ext ar;replace j6:=j6.ext ar);refine SW.nil (ae.sf ar ?_);refine Wp 7 [] [] aI rfl rfl ?_;refine Wp 8 [] [] aI rfl rfl ?_;refine Wi 9 [] aI rfl (bi rfl) (fun w2 hS=>bi rfl) ?_;refine SF.iA ?_;refine Wg cb (aU r2) fun w8 lB hg => ?_
      have hG:=cb.gr hg;replace hw:=hw.own nf hg;(replace bf:=bf.aJ hG rfl;replace aC:=aC.aJ hG rfl;replace hA:=hA.aJ hG rfl;replace hT:=hT.aJ hG rfl;replace hZ:=hZ.aJ hG rfl;replace ij:=ij.aJ hG rfl;replace ox:=ox.aJ hG rfl;replace cw:=cw.aJ hG rfl);have hS:=True.intro;refine SW.nil (ae.sg hS ?_)
     rotate_left
    rotate_left 2
    focus
     refine SW.alloc rfl fun tZ w9 ar mj cw => ?_
     have uw:w.heap.size<=tZ:=aev hw.size mj
     have GM:∀ k,aG q.A q.c=some k->k≠tZ:=fun k e=>by have:=l7 k e;have:=j6.hx.size;omega
     (try replace ij:=ij.ext ar);(try replace ox:=ox.ext ar);(try replace cb:=cb.ext ar);(replace hw:=Ext.trans hw ar;replace bf:=bf.ext ar;replace aC:=aC.ext ar;replace hs:=hs.ext ar;replace hA:=hA.ext ar;replace hT:=hT.ext ar;replace hZ:=hZ.ext ar;replace j6:=j6.ext ar);refine SW.nil (ae.sf ar ?_);refine SF.two 6 10 rfl rfl (by kernel_rfl) rfl rfl ?_ ?_
     focus
      refine Wk (qM GL r w.heap.size _ hs hw.size VI (hS.ext hw) (fh.ext hw)) fun v w5 ar hv => ?_
      obtain ⟨u,hu,r2,x2,rfl,ij,ox⟩:=hv;(try replace cb:=cb.ext ar);(try replace cw:=cw.ext ar);(replace hw:=Ext.trans hw ar;replace bf:=bf.ext ar;replace aC:=aC.ext ar;replace hs:=hs.ext ar;replace hA:=hA.ext ar;replace hT:=hT.ext ar;replace hZ:=hZ.ext ar;replace j6:=j6.ext ar);refine SW.nil (ae.sf ar ?_);refine Wp 7 [] [] aI rfl rfl ?_;refine Wp 8 [] [] aI rfl rfl ?_;refine Wi 9 [] aI rfl (bi rfl) (fun w2 hS=>bi rfl) ?_;refine SF.bZ 10 ?_;refine SW.alloc rfl fun vV w9 ar lZ cb => ?_
      have nf:w.heap.size<=vV:=aev hw.size lZ
      (try replace ij:=ij.ext ar);(try replace ox:=ox.ext ar);(try replace cw:=cw.ext ar);(replace hw:=Ext.trans hw ar;replace bf:=bf.ext ar;replace aC:=aC.ext ar;replace hs:=hs.ext ar;replace hA:=hA.ext ar;replace hT:=hT.ext ar;replace hZ:=hZ.ext ar;replace j6:=j6.ext ar);refine SW.nil (ae.sf ar ?_);refine SF.iA ?_;refine Wg cb (aU r2) fun w8 lB hg => ?_
      have hG:=cb.gr hg;replace hw:=hw.own nf hg;(replace bf:=bf.aJ hG rfl;replace aC:=aC.aJ hG rfl;replace hA:=hA.aJ hG rfl;replace hT:=hT.aJ hG rfl;replace hZ:=hZ.aJ hG rfl;replace ij:=ij.aJ hG rfl;replace ox:=ox.aJ hG rfl;replace cw:=cw.aJ hG rfl);have hS:=True.intro;refine SW.nil (ae.sg hS ?_)
     rotate_left
     focus
      refine SW.alloc rfl fun vV w9 ar lZ cb => ?_
      have nf:w.heap.size<=vV:=aev hw.size lZ
      (try replace ij:=ij.ext ar);(try replace ox:=ox.ext ar);(try replace cw:=cw.ext ar);(replace hw:=Ext.trans hw ar;replace bf:=bf.ext ar;replace aC:=aC.ext ar;replace hs:=hs.ext ar;replace hA:=hA.ext ar;replace hT:=hT.ext ar;replace hZ:=hZ.ext ar;replace j6:=j6.ext ar);refine SW.nil (ae.sf ar ?_);refine SF.bZ 6 ?_;refine Wk (qM GL r w.heap.size _ hs hw.size VI (hS.ext hw) (fh.ext hw)) fun v w5 ar hv => ?_
      obtain ⟨u,hu,r2,x2,rfl,ij,ox⟩:=hv;(try replace cb:=cb.ext ar);(try replace cw:=cw.ext ar);(replace hw:=Ext.trans hw ar;replace bf:=bf.ext ar;replace aC:=aC.ext ar;replace hs:=hs.ext ar;replace hA:=hA.ext ar;replace hT:=hT.ext ar;replace hZ:=hZ.ext ar;replace j6:=j6.ext ar);refine SW.nil (ae.sf ar ?_);refine Wp 7 [] [] aI rfl rfl ?_;refine Wp 8 [] [] aI rfl rfl ?_;refine Wi 9 [] aI rfl (bi rfl) (fun w2 hS=>bi rfl) ?_;refine SF.iA ?_;refine Wg cb (aU r2) fun w8 lB hg => ?_
      have hG:=cb.gr hg;replace hw:=hw.own nf hg;(replace bf:=bf.aJ hG rfl;replace aC:=aC.aJ hG rfl;replace hA:=hA.aJ hG rfl;replace hT:=hT.aJ hG rfl;replace hZ:=hZ.aJ hG rfl;replace ij:=ij.aJ hG rfl;replace ox:=ox.aJ hG rfl;replace cw:=cw.aJ hG rfl);have hS:=True.intro;refine SW.nil (ae.sg hS ?_)
     rotate_left
    rotate_left 2
    all_goals
     refine SG.ff ?_;refine Wg cw (fE x2) fun w8 ml hg => ?_
     have hG:=cw.gr hg;have VJ:jf w8 w.heap.size q.A q.n q.c rs xs:=⟨hT.row.grown hg (.inr fun e=>GM _ e rfl),hT.each.mono fun _ _ h=>h.aJ hG rfl⟩
     replace hw:=hw.own uw hg;(replace bf:=bf.aJ hG rfl;replace aC:=aC.aJ hG rfl;replace hA:=hA.aJ hG rfl;replace hZ:=hZ.aJ hG rfl;replace ij:=ij.aJ hG rfl;replace ox:=ox.aJ hG rfl;replace lB:=lB.aJ hG rfl);have cb:=lB;have cw:=ml;repeat' (first|refine Wy ?_|fail);exact ae.mD (K:=K2) (by rw [S9];exact ⟨vV,tZ,r2,x2,u,⟨rfl,rfl,rfl,rfl,rfl,rfl,rfl,rfl,trivial⟩,hw,bf,aC,cb,cw,hu,ij,ox,hA,VJ,hZ,GM⟩)
   clear hw bf aC hs hA hT hZ j6 l7;subst S9;rintro L2 w2 ⟨vV,tZ,r2,x2,u,VK,hw,bf,aC,cb,cw,hu,hs,hx,hA,hT,hZ,GM⟩
   refine ae.sub VK ?_;have Hv:=hZ.len;have Ee:=hA.len;have Uw:=hT.len;have QG:=sL.len;repeat' (first|refine Wy ?_|refine Wm ((fun _ _=>cb.cell)) ?_)
   refine SW.gE 0 bf rfl rfl rfl (ae2 rfl) (aU r2) (oT r2 p q z) rfl fun qH rD hg => ?_
   have hG:=bf.gr hg;replace hw:=hw.own gq hg;(replace aC:=aC.aJ hG rfl;replace cb:=cb.aJ hG rfl;replace cw:=cw.aJ hG rfl;replace hs:=hs.aJ hG rfl;replace hx:=hx.aJ hG rfl;replace hA:=hA.aJ hG rfl;replace hT:=hT.aJ hG rfl;replace hZ:=hZ.aJ hG rfl);have bf:=rD;clear rD hG hg;repeat' (first|refine Wy ?_|fail);refine CW.gB 8 11 (fun _=>True) mixed (by kernel_rfl) fun w1 ah aI => ?_
   replace hw:=Ext.trans hw ah;replace bf:=bf.ext ah;replace aC:=aC.ext ah;replace cw:=cw.ext ah;replace hs:=hs.ext ah;replace hx:=hx.ext ah;replace hA:=hA.ext ah;replace hT:=hT.ext ah;replace hZ:=hZ.ext ah;clear ah;refine Wi 0 [] aI rfl (bi rfl) (fun w2 hS=>bi rfl) ?_;refine Wp 1 [4,3,2] [] aI rfl rfl ?_;refine Wt 2 [4,3] [] aI rfl (aF rfl) ?_;refine Wt 3 [4] [] aI rfl (az rfl) ?_;refine Wt 4 [] [] aI rfl (aP rfl (bf.cell (i:=7) (v := .slice p.A p.n p.c) rfl)) ?_;refine Wt 5 [7,6] [] aI rfl (az rfl) ?_;refine Wt 6 [7] [] aI rfl (aY rfl rfl (Dv aC)) ?_;refine SF.bZ 7 ?_;refine SW.dR rfl rfl rfl rfl rfl fun b80 w9 ar aax YX => ?_
   (replace hw:=Ext.trans hw ar;replace bf:=bf.ext ar;replace aC:=aC.ext ar;replace cw:=cw.ext ar;replace hs:=hs.ext ar;replace hx:=hx.ext ar;replace hA:=hA.ext ar;replace hT:=hT.ext ar;replace hZ:=hZ.ext ar);refine SW.nil (ae.sf ar ?_);refine SF.iA ?_;refine SW.append hA (aR.wv (enc:=dZ) (x:=a) YX) hw.size rfl rfl rfl (by omega) (by omega) fun Y f oP pr hg => ?_
   have hG:=hA.gr hg;replace hw:=aD hw hg (aew _) hA.aW;(replace bf:=bf.aJ hG rfl;replace aC:=aC.aJ hG rfl;replace cw:=cw.aJ hG rfl;replace hs:=hs.aJ hG rfl;replace hx:=hx.aJ hG rfl;replace hT:=hT.aJ hG rfl;replace hZ:=hZ.aJ hG rfl);have hS:=True.intro;refine SW.nil (ae.sg hS ?_);refine SG.bZ 9 ?_;repeat ((show SW _ _ _ _ (⟨_,Op.nilCheck _,_,_,_,none⟩::_) _ _;refine SW.st (aF rfl) rfl ?_))
   refine SW.nil (ae.sg hS ?_);refine SG.bZ 10 ?_;repeat ((show SW _ _ _ _ (⟨_,Op.fieldAddr _ _ _,_,_,_,none⟩::_) _ _;refine SW.st (az rfl) rfl ?_))
   refine SW.nil (ae.sg hS ?_);refine SG.ff ?_;refine Wb (i:=7) bf fun iZ iL dB => ?_
   have eE:=bf.gr dB;replace hw:=hw.own gq dB;replace pr:=pr.aJ eE rfl;(replace aC:=aC.aJ eE rfl;replace cw:=cw.aJ eE rfl;replace hs:=hs.aJ eE rfl;replace hx:=hx.aJ eE rfl;replace hT:=hT.aJ eE rfl;replace hZ:=hZ.aJ eE rfl);replace bf:aR _ b8 48 (oT r2 ⟨Y,p.n+1,f⟩ q z):=iL;clear iL eE dB;repeat' (first|refine Wy ?_|fail);refine CW.gB 7 10 (fun _=>True) mixed (by kernel_rfl) fun w1 ah aI => ?_
   replace hw:=Ext.trans hw ah;replace bf:=bf.ext ah;replace aC:=aC.ext ah;replace cw:=cw.ext ah;replace hs:=hs.ext ah;replace hx:=hx.ext ah;replace pr:=pr.ext ah;replace hT:=hT.ext ah;replace hZ:=hZ.ext ah;clear ah;refine Wi 0 [] aI rfl (bi rfl) (fun w2 hS=>bi rfl) ?_;refine Wp 1 [4,3,2] [] aI rfl rfl ?_;refine Wt 2 [4,3] [] aI rfl (aF rfl) ?_;refine Wt 3 [4] [] aI rfl (az rfl) ?_;refine Wt 4 [] [] aI rfl (aP rfl (bf.cell (i:=8) (v := .slice q.A q.n q.c) rfl)) ?_;refine Wt 5 [6] [] aI rfl (aY rfl rfl ((fun _ _=>cw.cell))) ?_;refine SF.bZ 6 ?_;refine SW.dR rfl rfl rfl rfl rfl fun b90 w9 ar aay YY => ?_
   (replace hw:=Ext.trans hw ar;replace bf:=bf.ext ar;replace aC:=aC.ext ar;replace cw:=cw.ext ar;replace hs:=hs.ext ar;replace hx:=hx.ext ar;replace pr:=pr.ext ar;replace hT:=hT.ext ar;replace hZ:=hZ.ext ar);refine SW.nil (ae.sf ar ?_);refine SF.iA ?_;refine SW.append hT.row (aR.wv (enc:=ck) (x:=x2) YY) hw.size rfl rfl rfl (by omega) (by omega) fun Y2 f2 oP hT1 hg => ?_
   have hG:=hT.row.gr hg;replace hw:=aD hw hg (aew _) hT.row.aW;have hTe:=hT.each.mono fun _ _ h=>h.aJ (t:=56) hG rfl
   replace cw:=cw.grown hg (fun e=>GM _ e.symm rfl);(replace bf:=bf.aJ hG rfl;replace aC:=aC.aJ hG rfl;replace hs:=hs.aJ hG rfl;replace hx:=hx.aJ hG rfl;replace pr:=pr.aJ hG rfl;replace hZ:=hZ.aJ hG rfl);have hS:=True.intro;refine SW.nil (ae.sg hS ?_);refine SG.bZ 8 ?_;repeat ((show SW _ _ _ _ (⟨_,Op.nilCheck _,_,_,_,none⟩::_) _ _;refine SW.st (aF rfl) rfl ?_))
   refine SW.nil (ae.sg hS ?_);refine SG.bZ 9 ?_;repeat ((show SW _ _ _ _ (⟨_,Op.fieldAddr _ _ _,_,_,_,none⟩::_) _ _;refine SW.st (az rfl) rfl ?_))
   refine SW.nil (ae.sg hS ?_);refine SG.ff ?_;refine Wb (i:=8) bf fun iZ iL dB => ?_
   have eE:=bf.gr dB;replace hw:=hw.own gq dB;have VJ:jf iZ w.heap.size Y2 (q.n+1) f2 (rs++[x2]) (xs++[u.2]):=jf.aJ ⟨hT1,hTe.snoc hx⟩ eE rfl
   (replace aC:=aC.aJ eE rfl;replace cw:=cw.aJ eE rfl;replace hs:=hs.aJ eE rfl;replace hx:=hx.aJ eE rfl;replace pr:=pr.aJ eE rfl;replace hZ:=hZ.aJ eE rfl);replace bf:aR _ b8 48 (oT r2 ⟨Y,p.n+1,f⟩ ⟨Y2,q.n+1,f2⟩ z):=iL;clear iL eE dB
   have hPA:∀ y∈cX++[a],Qm y:=fun y hy=>by
    rcases aeC.1 hy with h|h
    ·exact sN y h
    ·simp only [List.mem_singleton] at h;rw [h];exact ⟨GL.kinds,GL.at_,GL.name⟩
   have VL:=jN.snoc sL hu;by_cases h0:x2.Code=0
   ·obtain ⟨l2,hN,hPh⟩:=GL.out u hu (by rw [<- hx.code];exact h0);have JG:=hN.len;repeat' (first|refine Wy ?_|refine Wl (cw.cell (i:=0) (v := .int .i64 x2.Code) rfl) ?_|refine Wm (Dv aC) ?_|refine Wm ((fun _ _=>cw.cell)) ?_)
    refine SW.dK rfl rfl (LQ hN w w.heap.size b8 r2 ⟨Y,p.n+1,f⟩ ⟨Y2,q.n+1,f2⟩ z x2 _ hx hw bf gq hZ (aew _) hw.size (by omega)) fun v w6 hv => ?_
    obtain ⟨rfl,z2,hZ2,rD,bq,hK⟩:=hv
    have hM:=hK.move (P:=fun v=>jj v w.heap.size r2 u.1∧Own v w.heap.size 35 7 dZ Y (p.n+1) f (cX++[a])∧jf v w.heap.size Y2 (q.n+1) f2 (rs++[x2]) (xs++[u.2])) (fun _ _ h hx=>⟨h.1.ext hx,h.2.1.ext hx,h.2.2.ext hx⟩)
     (fun _ _ h hG=>⟨h.1.aJ hG rfl,h.2.1.aJ hG rfl,h.2.2.aJ hG rfl⟩) (fun _ _ h hG=>⟨h.1.aJ hG rfl,h.2.1.aJ hG rfl,h.2.2.aJ hG rfl⟩) ⟨hs,pr,VJ⟩
    obtain ⟨ij,GZ,hT3⟩:=hM;have acT:=hZ2.len;clear hw bf aC cw hs hx pr VJ hZ hK;have hw:=bq;repeat' (first|refine Wy ?_|fail);exact ae.again ⟨j+1,r2,⟨Y,p.n+1,f⟩,⟨Y2,q.n+1,f2⟩,z2,rs++[x2],cX++[a],xs++[u.2],l2,u.1⟩ ⟨rfl,rfl,rfl,rfl,trivial⟩ (by simp only;omega) ⟨by simp only;omega,hw,ij,by simp only;omega,gq,rD,GZ,hT3,hZ2,VL,hPh,hPA,by simp;omega,by simp only;omega⟩
   ·repeat' (first|refine Wy ?_|refine Wl (cw.cell (i:=0) (v := .int .i64 x2.Code) rfl) ?_)
    exact ae.again ⟨j+1,r2,⟨Y,p.n+1,f⟩,⟨Y2,q.n+1,f2⟩,z,rs++[x2],cX++[a],xs++[u.2],l,u.1⟩ ⟨rfl,rfl,rfl,rfl,trivial⟩ (by simp only;omega) ⟨by simp only;omega,hw,hs,by simp only;omega,gq,bf,pr,VJ,hZ,VL,GL.fail u hu (by rw [<- hx.code];exact h0),hPA,by simp;omega,by simp only;omega⟩
 ·obtain rfl:j=k:=by omega
  repeat' (first|refine Wy ?_|fail);exact ae.dl rfl rfl rfl ⟨_,rfl,hw,b8,r,p,q,z,rs,s0,cX,xs,l,s,hu,rfl,gq,bf,hA,hT,hZ,sL,TQ,sN,hlen,hz⟩
set_option maxHeartbeats 4000000 in
def GN (a:cr) (hk:a.Kind=9) (Ch : -9223372036854775808<=a.At∧a.At<=9223372036854775807) : fM dy a:=by
 intro r s lo w hO dt hI hS fh;obtain ⟨k,cpu,n,m,At,fl,nm⟩:=a;simp only at hk Ch;subst hk;have hf:=hI.cS;have hs:=hf.small;have hM:=hI.may;refine uA func12 rfl ntmps12 rfl ?_;refine CW.seq (CW.region (SW.box rfl rfl fun b2 w1 hw eW aq => ?_));have l2:=aq.lt;refine SW.box rfl rfl fun b3 w2 bq cg ao => ?_
 have gm:=hw.up cg
 (obtain ⟨hw,aq⟩:=cT bq hw aq);clear bq;have l3:=ao.lt;refine SW.alloc rfl fun b4 w2 bq fw aE => ?_
 have dQ:=hw.up fw
 (obtain ⟨hw,aq,ao⟩:=cd bq hw aq ao);clear bq;have l4:=aE.lt;refine SW.alloc rfl fun b5 w2 bq gI aL => ?_
 have jR:=hw.up gI
 (obtain ⟨hw,aq,ao,aE⟩:=dJ bq hw aq ao aE);clear bq;have l5:=aL.lt;repeat' (first|refine Wy ?_|refine Wm ((fun _ _=>aq.cell)) ?_)
 refine SW.alloc rfl fun b6 w1 ah dv ap => ?_
 skip;refine SW.bw ap rfl rfl rfl rfl (aU r) fun w2 bQ hg => ?_
 have ar:=ah.own dv hg;have cQ:=hw.up dv
 obtain ⟨hw,aq,ao,aE,aL⟩:=fH ar hw aq ao aE aL;have ap:=bQ;clear bQ ah hg ar;have l6:=ap.lt;repeat' (first|refine Wy ?_|fail);refine SW.alloc rfl fun b7 w1 ah iT bc => ?_
 skip;refine SW.bw bc rfl rfl rfl rfl (fE ⟨0,0,.nil⟩) fun w2 bp hg => ?_
 have ar:=ah.own iT hg;have gn:=hw.up iT
 obtain ⟨hw,aq,ao,aE,aL,ap⟩:=jh ar hw aq ao aE aL ap;have bc:=bp;clear bp ah hg ar;have yb:b2≠b6:=by omega
 have yd:b4≠b6:=by omega
 have Oo:b2≠b4:=by omega
 have rN:b5≠b7:=by omega
 clear l2 l3 l4 l5 l6;repeat' (first|refine Wy ?_|refine Wm ((fun _ _=>aq.cell)) ?_|refine Wl (ao.cell (i:=1) (v := .int .i64 cpu) rfl) ?_|refine Wl (ao.cell (i:=4) (v := .int .i64 At) rfl) ?_|refine Wl (ao.cell (i:=0) (v := .int .i64 9) rfl) ?_)
 refine Wk (xB r s cpu At _ (hO.rd.ext hw) hf Ch (hS.ext hw)) fun v w7 iV hv => ?_
 obtain ⟨u,hu,q,rfl,hH⟩:=hv;have hH:=hH.low (aev dt hw.size);(obtain ⟨hw,aq,ao,aE,aL,ap,bc⟩:=ue iV hw aq ao aE aL ap bc);clear iV;have bg:=hO.ext hw;have hA:=cu.kW (s:=s) (a:=⟨9,cpu,n,m,At,fl,nm⟩) rfl hu;obtain ⟨u1,e⟩:=u;simp only at hA hH ⊢;by_cases he:e=0
 ·rw [ms,if_pos he,he] at hA;rw [he];repeat' (first|refine Wy ?_|fail);refine SW.bw ap rfl rfl rfl rfl (aU q) fun qH bQ hg => ?_
  have hG:=ap.gr hg;have aq:=aq.grown hg (by simpa using yb);have aE:=aE.grown hg (by simpa using yd);have hw:=hw.own cQ hg;(obtain ⟨ao,aL,bc,bg,hH⟩:=fH hG ao aL bc bg hH);have ap:=bQ;clear bQ hG hg;repeat' (first|refine Wy ?_|fail);refine Wb (i:=0) bc fun iZ bp hg => ?_
  have hG:=bc.gr hg;have aL:=aL.grown hg (by simpa using rN);have hw:=hw.own gn hg;(obtain ⟨aq,ao,aE,ap,bg,hH⟩:=jh hG aq ao aE ap bg hH);have bc:aR _ b7 56 (ck ⟨0,0,.nil⟩):=bp;clear bp hG hg;repeat' (first|refine Wy ?_|refine Wl (bc.cell (i:=0) (v := .int .i64 0) rfl) ?_)
  refine CW.gB 2 3 (fun w2=>aR w2 b7 56 (ck ⟨0,0,.nil⟩)) mixed (by kernel_rfl) fun w1 ah aI => ?_
  obtain ⟨hw,aq,aE,aL,ap,bc,bg,hH⟩:=DH ah hw aq aE aL ap bc bg hH;clear ah;refine Wt 0 [] [] aI rfl (aY rfl rfl ((fun _ _=>ap.cell))) ?_;refine SF.jl 1 [] aI rfl (by kernel_rfl) (by kernel_rfl) (by kernel_rfl) (aY rfl rfl ((fun _ _=>bc.cell))) (fun w2 hS=>aY rfl rfl ((fun _ _=>hS.cell))) rfl ?_;refine SF.turn rfl (by kernel_rfl) rfl ?_;refine SW.bw aE rfl rfl rfl rfl (aU q) fun w8 df hg => ?_
  have hG:=aE.gr hg;have hw:=hw.own dQ hg;(obtain ⟨aL,bc,bg,hH⟩:=dJ hG aL bc bg hH);have hS:=bc;refine SW.nil (ae.sg hS ?_);refine SG.last rfl (by kernel_rfl) (by kernel_rfl) ?_;refine SW.bw aL rfl rfl rfl rfl (fE ⟨0,0,.nil⟩) fun w9 fa hg => ?_
  have hG:=aL.gr hg;have hw:=hw.own jR hg;(obtain ⟨df,bg,hH⟩:=cd hG df bg hH);repeat' (first|refine Wy ?_|fail);exact ae.nG rfl rfl rfl df fa rfl rfl ⟨_,rfl,hw,_,hA,q,⟨0,0,.nil⟩,rfl,hH,kH.plain _ _ _ _⟩
 ·rw [ms,if_neg he] at hA;repeat' (first|refine Wy ?_|fail);refine SW.bw ap rfl rfl rfl rfl (aU q) fun qH bQ hg => ?_
  have hG:=ap.gr hg;have aq:=aq.grown hg (by simpa using yb);have aE:=aE.grown hg (by simpa using yd);have hw:=hw.own cQ hg;(obtain ⟨ao,aL,bc,bg,hH⟩:=fH hG ao aL bc bg hH);have ap:=bQ;clear bQ hG hg;repeat' (first|refine Wy ?_|fail);refine Wb (i:=0) bc fun iZ bp hg => ?_
  have hG:=bc.gr hg;have aL:=aL.grown hg (by simpa using rN);have hw:=hw.own gn hg;(obtain ⟨aq,ao,aE,ap,bg,hH⟩:=jh hG aq ao aE ap bg hH);have bc:aR _ b7 56 (ck ⟨e,0,.nil⟩):=bp;clear bp hG hg;repeat' (first|refine Wy ?_|refine Wl (bc.cell (i:=0) (v := .int .i64 e) rfl) ?_)
  refine CW.gB 2 3 (fun w2=>aR w2 b7 56 (ck ⟨e,0,.nil⟩)) mixed (by kernel_rfl) fun w1 ah aI => ?_
  obtain ⟨hw,aq,aE,aL,ap,bc,bg,hH⟩:=DH ah hw aq aE aL ap bc bg hH;clear ah;refine Wt 0 [] [] aI rfl (aY rfl rfl ((fun _ _=>aq.cell))) ?_;refine SF.jl 1 [] aI rfl (by kernel_rfl) (by kernel_rfl) (by kernel_rfl) (aY rfl rfl ((fun _ _=>bc.cell))) (fun w2 hS=>aY rfl rfl ((fun _ _=>hS.cell))) rfl ?_;refine SF.turn rfl (by kernel_rfl) rfl ?_;refine SW.bw aE rfl rfl rfl rfl (aU r) fun w8 df hg => ?_
  have hG:=aE.gr hg;have hw:=hw.own dQ hg;(obtain ⟨aL,bc,bg,hH⟩:=dJ hG aL bc bg hH);have hS:=bc;refine SW.nil (ae.sg hS ?_);refine SG.last rfl (by kernel_rfl) (by kernel_rfl) ?_;refine SW.bw aL rfl rfl rfl rfl (fE ⟨e,0,.nil⟩) fun w9 fa hg => ?_
  have hG:=aL.gr hg;have hw:=hw.own jR hg;(obtain ⟨df,bg,hH⟩:=cd hG df bg hH);repeat' (first|refine Wy ?_|fail);exact ae.nG rfl rfl rfl df fa rfl rfl ⟨_,rfl,hw,_,hA,r,⟨e,0,.nil⟩,rfl,bg,kH.plain _ _ _ _⟩
end Go.Proofs.YtenhkiaaebnggaaGreatDoor
