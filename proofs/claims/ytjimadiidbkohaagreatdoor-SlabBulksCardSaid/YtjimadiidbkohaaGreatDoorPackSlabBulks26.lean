/-
  Texts of the claim SlabBulks, part 26: what its theorem leans on.
-/
import Derived.Test.YtjimadiidbkohaaGreatDoorPackSlabBulks17
import Derived.Test.YtjimadiidbkohaaGreatDoorPackSlabBulks22
import Derived.Test.YtjimadiidbkohaaGreatDoorPackSlabBulks9
import Derived.Test.YtjimadiidbkohaaGreatDoorPackSlabBulks2
import Derived.Test.YtjimadiidbkohaaGreatDoorPackSlabBulks25
set_option linter.unusedVariables false
set_option linter.unusedSimpArgs false
namespace Go.Proofs.YtjimadiidbkohaaGreatDoor
open Go.RowKit
theorem VS.qI {s:aq×aq} (h:VS s) : ∀ z∈[s.1,s.2],mq z:=fun z hz=>by
 obtain ⟨a1,a2,a3,_⟩:=h.m8.ok;obtain ⟨b1,b2,b3,_⟩:=h.l8.ok;simp only [List.mem_cons,List.not_mem_nil,or_false] at hz;unfold mq;rcases hz with rfl|rfl<;>omega
theorem fV.align {z:aq} {o t:Int} {u:aq×Int×Int} (h:fV z o t u) (h0:u.2.2=0) : u.2.1 % pw o=0:=by
 cases h with
 | bad|range|kind|room=>simp at h0
 | @ok k st hq ho ht hk hp =>
   have hz:=dw.1 hq;obtain ⟨_,p1,p2⟩:=hp.ord;obtain ⟨⟨f1,f2,f3,f4,f5⟩,_⟩:=hz.cV k hk;simp only;rcases dZ ho.1 ho.2 with ⟨e1,e2⟩|⟨e1,e2⟩|⟨e1,e2⟩|⟨e1,e2⟩|⟨e1,e2⟩<;>rcases dZ f1 f2 with ⟨g1,g2⟩|⟨g1,g2⟩|⟨g1,g2⟩|⟨g1,g2⟩|⟨g1,g2⟩<;>rw [g2] at f5<;>rw [e2]<;>omega
theorem g7.align {m0 m1 cpu zi o t f:Int} {s:aq×aq} {L:List aA} {r:(aq×aq)×List aA×Int} (h:g7 m0 m1 cpu zi o t f s L (some r)) : r.2.2 % pw o=0:=by
 cases h with
 | list ho hk hp =>
   rw [ho,js];exact Int.emod_one _
 | qI ho he ht hu=>exact ht.align hu
 | fill ho hk he ht hu hr=>exact ht.align hu
theorem g9.align {m0 m1 cpu o t f:Int} {s:aq×aq} {L:List aA} {r:(aq×aq)×List aA×Int} (h:g9 m0 m1 cpu o t f s L (some r)) : r.2.2 % pw o=0:=by
 cases h with
 | uh _ h=>exact h.align
 | low _ h=>exact h.align
theorem j1 {h:Heap} {a o t:Int} {y:Block}:y∈gp h a o t↔y=⟨a,o,t⟩∨y∈h.Live:=gV
structure Jx (h:Heap) (o:Int) (u:Heap×Int×Int) : Prop where
 at_ : 0≤u.2.1∧u.2.1<256
 al:u.2.1 % pw o=0
 ne:∀ b∈h.Live,b.At≠u.2.1
 Aq:∀ b∈h.Live,b∈u.1.Live
 new:∃ b∈u.1.Live,b.At=u.2.1
 qI:∀ z∈u.1.aN,mq z
theorem dJ.new {h:Heap} {cpu o f:Int} {u:Heap×Int×Int} (a:dJ h cpu o f u) (he:u.2.2=0) : Jx h o u:=by
 have o7:=a.at_ he;cases a with
 | bad|range|form|room=>simp at he
 | once hb hr ht hz ha =>
   obtain ⟨z0,z1,F⟩:=jE (fP.1 hb);rw [F.d.cx] at hz;simp only [List.cons.injEq,and_true] at hz;obtain ⟨rfl,rfl⟩:=hz;have hf:=ha.found F.d.start.vs;obtain ⟨i,e,h1,hc⟩:=lK F hf.2;exact ⟨o7,ha.align,F.rO e hc,fun b hb=>j1.2 (.inr hb),⟨_,j1.2 (.inl rfl),rfl⟩,hf.1.qI⟩
 | mu hb hr ht hz ha h2 =>
   obtain ⟨z0,z1,F⟩:=jE (fP.1 hb);rw [F.d.cx] at hz;simp only [List.cons.injEq,and_true] at hz;obtain ⟨rfl,rfl⟩:=hz;have hf:=h2.found (fu F.d).vs;obtain ⟨i,e,h1,hc⟩:=ks F hf.2;exact ⟨o7,h2.align,F.rO e hc,fun b hb=>j1.2 (.inr hb),⟨_,j1.2 (.inl rfl),rfl⟩,hf.1.qI⟩
theorem BV {size o fk a t:Int} (hl:dF size=(o,fk,0)) (ha:a % pw o=0) (ht:t % pw o=0) (cG:t≠a) {k:Int} (hk:k8 size fk t k=true) (j:Nat) (hj:(j:Int)<fk) : k≠16*a+j*size:=by
 obtain ⟨l1,l2,l3⟩:=gm hl;unfold k8 at hk;simp only [Bool.and_eq_true,decide_eq_true_eq] at hk
 have h1:(j:Int)*size+size≤fk*size:=by
  have:=Int.mul_le_mul_of_nonneg_right (show (j:Int)+1≤fk by omega) (show 0≤size by omega)
  rwa [Int.add_mul,Int.one_mul] at this
 have h2 : 0≤(j:Int)*size:=Int.mul_nonneg (by omega) (by omega)
 obtain ⟨q,hq⟩ : ∃ q,(j:Int)*size=q:=⟨_,rfl⟩;obtain ⟨m,hm⟩ : ∃ m,fk*size=m:=⟨_,rfl⟩;have hp:=wh hl;rw [hq] at h1 h2 ⊢;rw [hm] at h1 hk hp;rcases hp with ⟨rfl,hp⟩|⟨rfl,hp⟩|⟨rfl,hp⟩
 ·omega
 ·rw [show pw 1=2 from rfl] at ha ht;omega
 ·rw [show pw 2=4 from rfl] at ha ht;omega
theorem tE {ws:List Int} {size o fk a:Int} (hl:dF size=(o,fk,0)) (hc:fD ws.length (16*a) size fk) : ∀ (j m:Nat),(m:Int)+j=fk→gq (ez ws (16*a) size fk) size fk a (16*a+m*size) j
 | 0,m,_ => .zero _
 | j+1,m,h=>by
   obtain ⟨c1,c2,c3,c4,c5,c6⟩:=hc
   have h1:(m:Int)*size+size≤fk*size:=by
    have:=Int.mul_le_mul_of_nonneg_right (show (m:Int)+1≤fk by omega) (show 0≤size by omega)
    rwa [Int.add_mul,Int.one_mul] at this
   have h2 : 0≤(m:Int)*size:=Int.mul_nonneg (by omega) (by omega)
   rw [Int.mul_comm size fk] at c6
   have e1 : 16*a+(m:Int)*size=(((16*a).toNat+m*size.toNat:Nat) : Int):=by
    rw [Int.natCast_add,Int.natCast_mul,Int.toNat_of_nonneg (by omega),Int.toNat_of_nonneg (by omega)]
   have c8:(16*a).toNat+m*size.toNat<ws.length:=by omega
   have Is:(ez ws (16*a) size fk).length=ws.length:=by unfold ez;exact iu _ _ _ _ _
   have o7:=vd (16*a).toNat size.toNat fk.toNat (by omega) ws m c8 fk.toNat (by omega);rw [e1];refine .succ (by omega) ?_ ?_
   ·rw [← e1];exact xH c1 (by omega) rfl
   ·have e2:(ez ws (16*a) size fk)[(16*a).toNat+m*size.toNat]'(by omega)=if m+1<fk.toNat then (((16*a).toNat:Nat) : Int)+((m:Int)+1)*(size.toNat:Nat) else -1:=by
     have:=List.getElem?_eq_getElem (l:=ez ws (16*a) size fk) (i:=(16*a).toNat+m*size.toNat) (by omega)
     unfold ez at this;rw [o7] at this;exact (Option.some.inj this).symm
    rw [e2];split
    ·have:=tE hl ⟨c1,c2,c3,c4,c5,by rw [Int.mul_comm size fk];exact c6⟩ j (m+1) (by omega)
     rw [Int.toNat_of_nonneg (show 0≤16*a by omega),Int.toNat_of_nonneg (show 0≤size by omega)];exact this
    ·obtain rfl:j=0:=by omega
     exact .zero _
theorem mi.grow {s:aE} {c:bg} (hM:mi s c) {u:Heap×Int×Int} (hn:Jx s.Heap c.Order u) (hc:fD s.Words.length (16*u.2.1) c.bh c.cj) {cs:List bg} (gU:cs.length=s.aa.length) : mi ⟨ez s.Words (16*u.2.1) c.bh c.cj,u.1,cs⟩ (ed c u.2.1):=by
 have hl:=gm hM.lay;have Is:(ez s.Words (16*u.2.1) c.bh c.cj).length=s.Words.length:=by unfold ez;exact iu _ _ _ _ _
 have rI:=kQ c u.2.1
 have cG:∀ x∈c.ah,x.At≠u.2.1:=fun x hx=>by
  obtain ⟨b,hb,e⟩:=(hM.rp x hx).live;rw [← e];exact hn.ne b hb
 have fe:∀ x∈c.ah,x∈(ed c u.2.1).ah:=fun x hx=>by
  simp only [ed];exact gV.2 (.inr hx)
 have zj:=hM.next;have Jy:=zj;rw [List.pairwise_iff_getElem] at Jy;refine ⟨by simp only;rw [Is];exact hM.words,by simp only;rw [gU];exact hM.most,hM.lay,fun k h => ?_,?_,fun x hx => ?_⟩
 ·rcases hM.xJ k h with g|g
  ·exact .inl g
  ·right;rw [List.any_eq_true] at g ⊢;obtain ⟨y,hy,g⟩:=g;exact ⟨y,fe y hy,g⟩
 ·have e:c.ah=c.ah.take (iD c u.2.1)++c.ah.drop (iD c u.2.1):=(List.take_append_drop _ _).symm
  have h0:=zj;rw [e,List.pairwise_append] at h0;obtain ⟨h1,h2,h3⟩:=h0
  have hA:∀ x∈c.ah.take (iD c u.2.1),x.At<u.2.1:=fun x hx=>by
   obtain ⟨j,hj,rfl⟩:=List.getElem_of_mem hx;simp only [List.length_take] at hj;rw [List.getElem_take];exact As (by omega) (by omega)
  have hB:∀ x∈c.ah.drop (iD c u.2.1),u.2.1<x.At:=fun x hx=>by
   obtain ⟨j,hj,rfl⟩:=List.getElem_of_mem hx;have O9:j<c.ah.length-iD c u.2.1:=by rw [← List.length_drop];exact hj
   rw [List.getElem_drop];have KM:iD c u.2.1<c.ah.length:=by omega
   have h5:=Dr (p:=fun x:Slab=>decide (x.At<u.2.1)) c.ah c.ah[iD c u.2.1] (List.getElem?_eq_getElem KM);have h6:=of_decide_eq_false h5;have h7:=cG _ (List.getElem_mem (show iD c u.2.1+j<c.ah.length by omega));rcases Nat.eq_zero_or_pos j with rfl|uJ
   ·simp only [Nat.add_zero] at h7 ⊢;omega
   ·have:=Jy (iD c u.2.1) (iD c u.2.1+j) (by omega) (by omega) (by omega)
    omega
  simp only [ed];unfold aU;rw [List.append_assoc,List.pairwise_append];refine ⟨h1,?_,fun a ha b hb => ?_⟩
  ·rw [List.singleton_append,List.pairwise_cons];exact ⟨hB,h2⟩
  ·rw [List.singleton_append,List.mem_cons] at hb;rcases hb with rfl|hb
   ·exact hA a ha
   ·exact h3 a ha b hb
 ·simp only [ed] at hx ⊢;have tR:=gV.1 hx;have o7:=hn.at_;rcases tR with rfl|tR
  ·refine ⟨by simp only;omega,hn.al,hn.new,by simp only;omega,?_⟩;have:=tE hM.lay hc c.cj.toNat 0 (by omega)
   simpa using this
  ·have hs:=hM.rp x tR;obtain ⟨b,hb,e⟩:=hs.live;refine ⟨hs.at_,hs.al,⟨b,hn.Aq b hb,e⟩,hs.free,hs.walk.vC Is fun k hk ho => ?_⟩
   have h1:(gQ (16*u.2.1).toNat c.bh.toNat c.cj.toNat s.Words c.cj.toNat)[k]?=s.Words[k]?:=pD _ _ _ _ _ _ fun j hj e2=>by
    have h2:=BV hM.lay hn.al hs.al (cG x tR) ho j (by omega);apply h2;rw [e2,Int.natCast_add,Int.natCast_mul,Int.toNat_of_nonneg (by omega),Int.toNat_of_nonneg (by omega)]
   rw [List.getElem?_eq_getElem hk,List.getElem?_eq_getElem (by rw [iu];exact hk)] at h1;exact Option.some.inj h1
theorem mi.take {s:aE} {c:bg} (hM:mi s c) {cpu k:Nat} (hk:k<c.ah.length) (hf : 0<c.ah[k].ag) {cs:List bg} (gU:cs.length=s.aa.length) : mi ⟨s.Words,s.Heap,cs⟩ (fv c cpu k (s.Words.getD (c7 c k).dg.toNat 0)):=by
 have hm:=List.getElem_mem hk;have hs:=hM.rp _ hm;have hw:=(hM.first hm hf).2;have hD:=fK hk
 have dO:∀ t,c.ah.any (xI t)=true→(c.ah.set k ⟨c.ah[k].At,c.ah[k].ag-1,s.Words.getD c.ah[k].dg.toNat 0⟩).any (xI t)=true:=fun t g=>by
  rw [List.any_eq_true] at g ⊢;obtain ⟨y,hy,g⟩:=g;obtain ⟨j,hj,rfl⟩:=List.getElem_of_mem hy;by_cases e:k=j
  ·subst e;exact ⟨_,List.mem_set hk _,g⟩
  ·refine ⟨_,List.getElem_mem (show j<_ by rw [List.length_set];exact hj),?_⟩;rwa [List.getElem_set_ne e]
 unfold fv;rw [hD];refine ⟨hM.words,by simp only;rw [gU];exact hM.most,hM.lay,fun j h => ?_,?_,fun x hx => ?_⟩
 ·simp only at h ⊢;rw [List.length_set] at h;rw [List.getElem_set];split
  ·right;refine dO _ ?_;rw [List.any_eq_true];exact ⟨_,hm,by unfold xI;exact decide_eq_true rfl⟩
  ·rcases hM.xJ j h with g|g
   ·exact .inl g
   ·exact .inr (dO _ g)
 ·have zj:=hM.next;have e:∀ l:List Slab,(l.Pairwise fun x y=>x.At<y.At)↔(l.map fun x=>x.At).Pairwise (· < ·):=fun l=>by rw [List.pairwise_map]
  rw [e] at zj;simp only;rw [e,List.map_set]
  have e3:(c.ah.map fun x=>x.At).set k c.ah[k].At=c.ah.map fun x=>x.At:=by
   have Hr:k<(c.ah.map fun x=>x.At).length:=by rw [List.length_map];exact hk
   have e4:(c.ah.map fun x=>x.At)[k]=c.ah[k].At:=List.getElem_map ..
   rw [← e4];exact List.set_getElem_self Hr
  rw [e3];exact zj
 ·simp only at hx;rcases List.mem_or_eq_of_mem_set hx with hx|rfl
  ·have h:=hM.rp x hx;exact ⟨h.at_,h.al,h.live,h.free,h.walk⟩
  ·have:=hs.free
   exact ⟨hs.at_,hs.al,hs.live,by simp only;omega,hw⟩
structure Bk (s:aE) (i cpu:Nat) : Prop where
 gL:s.gL
 hi:i<s.aa.length
 inv:mi s s.aa[i]
 oG:cpu<s.aa[i].au.length
def nS (s:aE) (i cpu:Nat) (M:By) : aE:=bQ (fL s M.ws) i (M.h,fv M.c cpu M.k (M.ws.getD (c7 M.c M.k).dg.toNat 0))
theorem Bk.BW {s:aE} {i cpu:Nat} (h:Bk s i cpu) {M:By} (x:jZ s (s.aa[i]'h.hi) cpu (some M,0)) : Bk (nS s i cpu M) i cpu:=by
 have hi:=h.hi;have iT:=x.Fp h.inv M rfl;have Dc:=qt h.inv;have EI:=xX hi x h.gL (by omega);have hlen:(s.aa.set i (fv M.c cpu M.k (M.ws.getD (c7 M.c M.k).dg.toNat 0))).length=s.aa.length:=List.length_set ..
 have hinv:mi ⟨M.ws,M.h,s.aa⟩ M.c∧(∀ z∈M.h.aN,mq z)∧M.c.Names=s.aa[i].Names∧M.c.au.length=s.aa[i].au.length:=by
  cases x with
  | Aq hp=>exact ⟨h.inv,h.gL.cx,rfl,rfl⟩
  | new hp ha he hc =>
    have hn:=ha.new he;exact ⟨h.inv.grow hn hc rfl,hn.qI,rfl,rfl⟩
 obtain ⟨hb,hz,r6,MT⟩:=hinv;have fH:=iT.free;have MU:=hb.take (cpu:=cpu) iT.hk (by omega) hlen
 have EA:i<(nS s i cpu M).aa.length:=by
  simp only [nS,bQ,fL];rw [hlen];exact hi
 have o7:(nS s i cpu M).aa[i]=fv M.c cpu M.k (M.ws.getD (c7 M.c M.k).dg.toNat 0):=by simp only [nS,bQ,fL,List.getElem_set_self]
 refine ⟨⟨EI,hz,fun c' iV x' tR => ?_,fun c' iV n hn => ?_⟩,EA,?_,?_⟩
 ·simp only [nS,bQ,fL] at iV;rcases List.mem_or_eq_of_mem_set iV with iV|rfl
  ·exact h.gL.aR c' iV x' tR
  ·have:=(MU.rp x' tR).at_
   omega
 ·simp only [nS,bQ,fL] at iV;rcases List.mem_or_eq_of_mem_set iV with iV|rfl
  ·exact h.gL.names c' iV n hn
  ·simp only [fv] at hn;rw [r6] at hn;exact h.gL.names _ (List.getElem_mem hi) n hn
 ·rw [o7];exact MU
 ·rw [o7];simp only [fv,List.length_set];rw [MT];exact h.oG
inductive ga (i cpu:Nat) : Nat→aE→List Int→aE×List Int×Int→Prop where
 | done {s:aE} {l:List Int}:ga i cpu 0 s l (s,l,0)
 | bad {k:Nat} {s:aE} {l:List Int} {m:Option By×Int} (hi:i<s.aa.length) (hm:jZ s s.aa[i] cpu m) (h:m.1=none) : ga i cpu (k+1) s l (.zero,[],m.2)
 | more {k:Nat} {s:aE} {l:List Int} {M:By} {u:aE×List Int×Int} (hi:i<s.aa.length) (hm:jZ s s.aa[i] cpu (some M,0)) (h:ga i cpu k (nS s i cpu M) (l++[(c7 M.c M.k).dg]) u) : ga i cpu (k+1) s l u
theorem ga.jK {i cpu k:Nat} {s:aE} {l:List Int} {u v:aE×List Int×Int} (x:ga i cpu k s l u) : ga i cpu k s l v→u=v:=by
 induction x with
 | done=>intro y;cases y;rfl
 | bad hi hm h=>intro y;cases y with
   | bad ol D4 h'=>rw [hm.jK D4]
   | more ol D4 _=>rw [hm.jK D4] at h;cases h
 | more hi hm h ih=>intro y;cases y with
   | bad ol D4 h'=>rw [← hm.jK D4] at h';cases h'
   | more ol D4 h' =>
     have e:=hm.jK D4;simp only [Prod.mk.injEq,Option.some.injEq,and_true] at e;subst e;exact ih h'
theorem ga.small {i cpu k:Nat} {s:aE} {l:List Int} {u:aE×List Int×Int} (x:ga i cpu k s l u) : Bk s i cpu→u.1.small∧u.2.1.length≤l.length+k:=by
 induction x with
 | done=>exact fun h=>⟨h.gL.small,Nat.le_refl _⟩
 | bad=>exact fun _=>⟨aE.kq,Nat.zero_le _⟩
 | more hi hm h ih =>
   intro hB;have:=ih (hB.BW hm)
   rw [List.length_append,List.length_singleton] at this;exact ⟨this.1,by omega⟩
inductive jd (s:aE) (n:ByteArray) (cpu many:Int) : aE×List Int×Int→Prop where
 | ask (h:k9 s n cpu≠0) : jd s n cpu many (.zero,[],k9 s n cpu)
 | range (h:k9 s n cpu=0) (hm : ¬ (1≤many∧many≤256)) : jd s n cpu many (.zero,[],1)
 | BW {i:Nat} {u:aE×List Int×Int} (h:k9 s n cpu=0) (hm : 1≤many∧many≤256) (e:idxOf (iX n) s.aa=i) (hr:ga i cpu.toNat many.toNat s [] u) : jd s n cpu many u
theorem jd.jK {s:aE} {n:ByteArray} {cpu many:Int} {u v:aE×List Int×Int} (x:jd s n cpu many u) (y:jd s n cpu many v) : u=v:=by
 cases x with
 | ask h=>cases y with
   | ask=>rfl
   | range h'|BW h'=>exact absurd h' h
 | range h hm=>cases y with
   | ask h'=>exact absurd h h'
   | range=>rfl
   | BW _ D4=>exact absurd D4 hm
 | @BW i _ h hm e hr=>cases y with
   | ask h'=>exact absurd h h'
   | range _ D4=>exact absurd hm D4
   | @BW j _ _ _ e' lQ =>
     obtain rfl:i=j:=by omega
     exact hr.jK lQ
theorem wF {s:aE} {n:ByteArray} {cpu:Int} (h:k9 s n cpu=0) (hf:s.gL) : ∃ i c:Nat,idxOf (iX n) s.aa=i∧cpu=(c:Int)∧jm s∧Bk s i c:=by
 obtain ⟨hq,ht,OB,tN⟩:=ES h;obtain ⟨i,hi,_,_,rE⟩:=mg ht;have hM:=xK.1 hq;obtain ⟨c,rfl⟩:=Int.eq_ofNat_of_zero_le OB;have MT:=(hM.each i hi).may.ba;exact ⟨i,c,rE,rfl,hM,hf,hi,.of hM hi,by omega⟩
theorem jd.small {s:aE} {n:ByteArray} {cpu many:Int} {u:aE×List Int×Int} (x:jd s n cpu many u) (hf:s.gL) : u.1.small∧u.2.1.length≤256:=by
 cases x with
 | ask|range=>exact ⟨aE.kq,Nat.zero_le _⟩
 | BW h hm e hr =>
   obtain ⟨i,c,rE,rfl,_,hB⟩:=wF h hf;obtain rfl:i=_:=by exact Int.ofNat.inj (rE.symm.trans e)
   have:=hr.small hB
   simp only [List.length_nil] at this;exact ⟨this.1,by omega⟩
open Go.RowKit
theorem nD.aside {w w':World} {lo n c n2 c2:Nat} {r:dP} {s:aE} {cs:List de} {A A2:Option Addr} {l:List Int} (h:SX w lo r s cs) (hJ:SJ (fun g=>aQ A c=some g) w lo r s cs) (hO:Own w lo 3 1 bf A n c l) (hg:w.grownBy w' (aQ A c)) (wI:∀ g,aQ A2 c2=some g→aQ A c=some g∨w.heap.size≤g) :
 SX w' lo r s cs∧SJ (fun g=>aQ A2 c2=some g) w' lo r s cs:=by
 obtain ⟨m1,m0,h1,h0,h3⟩:=hJ.ints;have hG:=hO.gr hg;have BJ:=h.v9
 obtain ⟨m2,k1,k2,h2⟩ : ∃ m2,m2≤m0∧m2≤w.heap.size∧fi w m1 m2 r.Heap s.Heap:=by
  rcases Nat.le_total m0 w.heap.size with e|e
  ·exact ⟨m0,Nat.le_refl _,e,h0⟩
  ·exact ⟨w.heap.size,e,Nat.le_refl _,h0.own.kO⟩
 have hh:fi w' m1 m2 r.Heap s.Heap:=by
  cases e:aQ A c with
  | none=>rw [e] at hg;exact h2.ay (⟨none,hg,fun k hk=>by cases hk⟩ : nY w w' 30) rfl
  | some g =>
    rw [e] at hg;have:=(h3 g (.inr e)).1
    exact h2.Al hg hG (by omega)
 refine ⟨⟨h.words.apart hg fun g e e2=>(h3 g (.inr e2)).2 e,hh.own.low h1,h.row.ay hG rfl,⟨h.each.len,fun k a1 a2 => ?_⟩,h.pair⟩,⟨⟨m1,m2,h1,hh,fun g e => ?_⟩,fun u hu g e e2 => ?_⟩⟩
 ·have ho:=h.each.get k a1 a2;exact ⟨ho.size,ho.fk,ho.order,ho.names.ay hG rfl,ho.aR.ay hG rfl,ho.ba.apart hg fun g e e2=>hJ.sep _ (List.getElem_mem a1) g e2 e⟩
 ·rcases e with e|e
  ·have:=h3 g (.inl e)
   exact ⟨by omega,this.2⟩
  ·rcases wI g e with e2|e2
   ·have:=h3 g (.inr e2)
    exact ⟨by omega,this.2⟩
   ·exact ⟨.inr (by omega),fun e3=>by have:=h.words.lt_size g e3;omega⟩
 ·rcases wI g e with e3|e3
  ·exact hJ.sep u hu g e3 e2
  ·have:=BJ u hu g e2
   omega
theorem SJ.none {G:Nat→Prop} {w:World} {lo:Nat} {r:dP} {s:aE} {cs:List de} (h:SJ (fun _=>False) w lo r s cs) (hG:∀ g,¬ G g) : SJ G w lo r s cs:=by
 obtain ⟨m1,m2,h1,h2,h3⟩:=h.ints;exact ⟨⟨m1,m2,h1,h2,fun g e=>h3 g (e.imp id fun e=>hG g e)⟩,fun u hu g e=>(hG g e).elim⟩
theorem Own.same {w w':World} {lo n c:Nat} {A:Option Addr} {l:List Int} (h:Own w lo 3 1 bf A n c l) (hk:∀ j x,aQ A c=some j→aI w j 3 x→aI w' j 3 x) : Own w' lo 3 1 bf A n c l:=by
 refine ⟨h.len,?_⟩;rcases h.row with e|⟨hc,g,gb,rfl,fG,h1,h2⟩
 ·exact .inl e
 ·have e:aQ (some ⟨g,0,none⟩) c=some g:=by unfold aQ;rw [if_neg (by omega)];rfl
  have:=hk g gb.toList e (by unfold aI;simpa using h1)
  unfold aI at this;exact .inr ⟨hc,g,gb,rfl,fG,by simpa using this,h2⟩
set_option maxHeartbeats 8000000 in
theorem wG (r:dP) (s:aE) (n:ByteArray) (cpu many:Int) (w:World) (hr:rG w r s) (hf:s.gL) (JU:n.size≤140737488351232) (tx:pe w) :
 bt Tryz.prog 9 [.agg (aT r).toArray,.string n,.int .i64 cpu,.int .i64 many] w fun v w' => ∃ u,jd s n cpu many u ∧ ∃ q A c,v = .tuple #[.agg (aT q).toArray,.slice A u.2.1.length c,.int .i64 u.2.2]∧uf w' w.heap.size q u.1∧Own w' w.heap.size 3 1 bf A u.2.1.length c u.2.1:=by
 refine aM Tryz.func9 rfl Tryz.ntmps9 rfl ?_;refine CW.seq (CW.region (SW.box rfl rfl fun b3 w1 hw bM ar => ?_));refine SW.alloc rfl fun b6 w3 j2 fb ax => ?_
 have dr:w.heap.size≤b6:=Nat.le_trans hw.size fb
 have cG:b6≠b3:=by have:=ar.lt;omega
 have hz:∀ w',uf w' w.heap.size dP.zero aE.zero:=fun w'=>⟨Own.dS _ _ _ _ _ _,iU.zero w' _,⟨[],eR.nil _ _⟩⟩
 (replace hw:=Ext.trans hw j2;replace ar:=ar.ext j2);repeat' (first|refine Wz ?_|fail);refine SW.call rfl rfl (E9 r s n cpu _ (hr.ext hw) hf JU) fun v w4 aj hv => ?_
 have uB:=hw.size;(replace hw:=Ext.trans hw aj;replace ar:=ar.ext aj;replace ax:=ax.ext aj);rcases hv with ⟨he,rfl⟩|⟨he,q,cs,rfl,hO,hI⟩
 ·have hP:=jd.ask (many:=many) he;obtain ⟨e,hE⟩ : ∃ e,k9 s n cpu=e:=⟨_,rfl⟩;rw [hE] at he hP;rw [hE];repeat' (first|refine Wz ?_|fail);refine SW.ap ar rfl rfl rfl rfl (dH .zero) fun w5 cU hg => ?_
  replace ax:=ax.grown hg (by simpa using cG);replace hw:=hw.own bM hg;repeat' (first|refine Wz ?_|fail);all_goals try omega
  refine SW.ap ax rfl rfl rfl rfl (dH .zero) fun w6 bL hg => ?_
  replace hw:=hw.own dr hg;repeat' (first|refine Wz ?_|fail);exact ae.dB rfl rfl rfl rfl bL rfl ⟨_,rfl,hw,_,hP,.zero,none,0,rfl,hz _,Own.dS _ _ _ _ _ _⟩
 ·replace hO:=hO.low uB;replace hI:=hI.low uB;obtain ⟨i,c,rE,rfl,hM,hB⟩:=wF he hf;rw [rE];repeat' (first|refine Wz ?_|fail);refine SW.ap ar rfl rfl rfl rfl (dH q) fun w5 cU hg => ?_
  have hG:=ar.gr hg;replace ax:=ax.grown hg (by simpa using cG);replace hw:=hw.own bM hg;(replace hO:=hO.ay hG rfl;replace hI:=hI.ay hG rfl);replace ar:=cU;clear cU hG hg;by_cases hm : 1≤many∧many≤256
  ·obtain ⟨m,rfl⟩:=Int.eq_ofNat_of_zero_le (show 0≤many by omega);have hP:∀ u,ga i c m s [] u→jd s n c m u:=fun u hu=>jd.BW he hm rE hu
   have pB:m≤256:=by omega
   repeat' (first|refine Wz ?_|fail);all_goals try omega
   refine CW.loop (fun t:Nat×(Option Addr×Nat×List Int)×dP×aE×List de=>[(2,.int .i64 (c:Int)),(4,.pointer (some ⟨b3,0,none⟩)),(8,.pointer (some ⟨b6,0,none⟩)),(11,.int .i64 (i:Int)),(13,.slice t.2.1.1 t.1 t.2.1.2.1),(35,.int .i64 (m:Int)),(36,.int .i64 (t.1:Int))])
    (fun t w'=>t.1≤m∧Ext w w'∧aI w' b3 30 (aT t.2.2.1)∧aI w' b6 30 (aT .zero)∧SX w' w.heap.size t.2.2.1 t.2.2.2.1 t.2.2.2.2∧SJ (fun g=>aQ t.2.1.1 t.2.1.2.1=some g) w' w.heap.size t.2.2.1 t.2.2.2.1 t.2.2.2.2∧Own w' w.heap.size 3 1 bf t.2.1.1 t.1 t.2.1.2.1 t.2.1.2.2∧Bk t.2.2.2.1 i c ∧ ∀ u,ga i c (m-t.1) t.2.2.2.1 t.2.1.2.2 u→ga i c m s [] u)
    (fun t=>m-t.1) (0,(none,0,[]),q,s,cs) ⟨rfl,rfl,rfl,rfl,rfl,rfl,rfl,trivial⟩ ⟨Nat.zero_le _,hw,ar,ax,hO,hI.sj.none (fun g e=>by cases e),Own.dS _ _ _ _ _ _,hB,fun u hu=>hu⟩ ?_
   clear hw ar ax hO hI hB hM;rintro ⟨j,⟨A,ca,l⟩,q1,s1,Jz⟩ w6 ⟨hj,hw,ar,ax,hS,hJ,hO,hB,hR⟩
   simp only at hj ar hS hJ hO hB hR ⊢;by_cases LW:j<m
   ·have Dc:=qt hB.inv;repeat' (first|refine Wz ?_|fail);all_goals try omega
    refine SW.db rfl rfl (Fa (fun g=>aQ A ca=some g) w _ b3 q1 s1 Jz i c hB.gL hB.hi hB.inv (tx.ext hw) hw ar bM hS hJ (fun g e=>hO.lt_size g e) hB.oG (by omega)) fun v w7 hv => ?_
    obtain ⟨M,fE,LD,lL,nM,hv⟩:=hv;replace ax:=lL _ _ cG ax;replace hO:=hO.same nM;have kx:m-j=(m-(j+1))+1:=by omega
    rw [kx] at hR;clear hw hS hJ;have hw:=LD;rcases hv with ⟨hn,nV,rfl⟩|⟨M,rfl,rfl,X,H,OC,hb,hS,hJ⟩
    ·have hQ:=hP _ (hR _ (.bad hB.hi fE hn));obtain ⟨m1,e⟩:=M;simp only at hn nV hQ;repeat' (first|refine Wz ?_|fail);all_goals try omega
     refine SW.ap ax rfl rfl rfl rfl (dH .zero) fun w8 bL hg => ?_
     replace hw:=hw.own dr hg;repeat' (first|refine Wz ?_|fail);exact ae.dB rfl rfl rfl rfl bL rfl ⟨_,rfl,hw,_,hQ,.zero,none,0,rfl,hz _,Own.dS _ _ _ _ _ _⟩
    ·have pI:=hB.BW fE;have bL:∀ u,ga i c (m-(j+1)) (nS s1 i c M) (l++[(c7 M.c M.k).dg]) u→ga i c m s [] u:=fun u hu=>hR u (.more hB.hi fE hu)
     obtain ⟨a,ha⟩ : ∃ a,(c7 M.c M.k).dg=a:=⟨_,rfl⟩;obtain ⟨s2,ux⟩ : ∃ s2,nS s1 i c M=s2:=⟨_,rfl⟩;rw [show bQ (fL s1 M.ws) i (M.h,fv M.c c M.k (M.ws.getD (c7 M.c M.k).dg.toNat 0))=s2 from ux] at hS hJ;rw [ha,ux] at bL;rw [ux] at pI;rw [ha];repeat' (first|refine Wz ?_|fail);all_goals try omega
     refine SW.bD rfl rfl rfl rfl rfl fun bn w9 aj E8 wo => ?_
     (replace hw:=Ext.trans hw aj;replace hb:=hb.ext aj;replace ax:=ax.ext aj;replace hS:=hS.ext aj;replace hJ:=hJ.ext aj;replace hO:=hO.ext aj);refine SW.mb hO (aI.lj (enc:=bf) (x:=a) wo) hw.size (by omega) rfl rfl rfl (by omega) (by omega) fun A2 c2 lP gf hg wI => ?_
     obtain ⟨jk,iW⟩:=hS.aside (n2:=0) hJ hO hg wI;have hG:=hO.gr hg;replace hw:=aF hw hg (Nat.le_refl _) hO.aL;(replace hb:=hb.ay hG rfl;replace ax:=ax.ay hG rfl);repeat' (first|refine Wz ?_|fail);exact ae.again (j+1,(A2,c2,l++[a]),⟨X,H,q1.aa⟩,s2,OC) ⟨rfl,rfl,rfl,rfl,rfl,rfl,rfl,trivial⟩ (by simp only;omega) ⟨by simp only;omega,hw,hb,ax,jk,iW,gf,pI,bL⟩
   ·obtain rfl:j=m:=by omega
    have hQ:=hP _ (hR (s1,l,0) (by rw [Nat.sub_self];exact .done));have kB:=hO.len;repeat' (first|refine Wz ?_|fail);all_goals try omega
    refine SW.ap ax rfl rfl rfl rfl (dH q1) fun w7 bL hg => ?_
    have hG:=ax.gr hg;replace hw:=hw.own dr hg;(replace hS:=hS.ay hG rfl;replace hO:=hO.ay hG rfl);repeat' (first|refine Wz ?_|fail);exact ae.dB rfl rfl rfl rfl bL rfl ⟨_,rfl,hw,_,hQ,_,A,ca,by rw [kB],hS.GJ,by rw [kB];exact hO⟩
  ·have hP:=jd.range he hm;repeat' (first|refine Wz ?_|refine SW.bZ rfl rfl rfl (fun h => ?_) (fun h => ?_))
   all_goals try omega
   all_goals refine SW.ap ax rfl rfl rfl rfl (dH .zero) fun w7 bL hg => ?_
   all_goals replace hw:=hw.own dr hg
   repeat' (first|refine Wz ?_|fail);all_goals exact ae.dB rfl rfl rfl rfl bL rfl ⟨_,rfl,hw,_,hP,.zero,none,0,rfl,hz _,Own.dS _ _ _ _ _ _⟩
open Go.RowKit
set_option maxHeartbeats 8000000 in
theorem zN (r:dP) (s:aE) (n:ByteArray) (cpu many:Int) (w:World) (hr:rG w r s) (hf:s.gL) :
 bt Tryz.prog 10 [.agg (aT r).toArray,.string n,.int .i64 cpu,.int .i64 many] w fun v w' => ∃ u,jd s n cpu many u ∧ ∃ q A c,v = .tuple #[.agg (aT q).toArray,.slice A u.2.1.length c,.int .i64 u.2.2]∧uf w' w.heap.size q u.1∧Own w' w.heap.size 3 1 bf A u.2.1.length c u.2.1:=by
 refine aM Tryz.func10 rfl Tryz.ntmps10 rfl ?_;have hs:=hf.small;refine CW.seq (CW.region (SW.box rfl rfl fun b3 w1 hw bM ar => ?_));refine SW.alloc rfl fun b6 w3 j2 fb ax => ?_
 have dr:w.heap.size≤b6:=Nat.le_trans hw.size fb
 have cG:b6≠b3:=by have:=ar.lt;omega
 have hz:∀ w',uf w' w.heap.size dP.zero aE.zero:=fun w'=>⟨Own.dS _ _ _ _ _ _,iU.zero w' _,⟨[],eR.nil _ _⟩⟩
 (replace hw:=Ext.trans hw j2;replace ar:=ar.ext j2);obtain ⟨e,hE⟩ : ∃ e,k9 s n cpu=e:=⟨_,rfl⟩
 have cA:∀ w',Ext w w'→bt Tryz.prog 16 [.agg (aT r).toArray,.string n,.int .i64 cpu] w' fun v _=>v = .int .i64 e:=fun w' hx=>by
  have:=wv r s n cpu w' (hr.ext hx) hf
  rwa [hE] at this
 by_cases he:e=0
 ·subst he;obtain ⟨i,c,rE,rfl,hM,hB⟩:=wF hE hf;by_cases hm : 1≤many∧many≤256
  ·obtain ⟨m,rfl⟩:=Int.eq_ofNat_of_zero_le (show 0≤many by omega);have hP:∀ u,ga i c m s [] u→jd s n c m u:=fun u hu=>jd.BW hE hm rE hu
   have pB:m≤256:=by omega
   have Gg:=hm.1;repeat' (first|refine Wz ?_|((first|refine SW.call rfl rfl (cA _ hw) ?_|refine SW.call rfl rfl (bK _ _ _ _) ?_);intro v w1 ab hv;subst hv;replace hw:=Ext.trans hw ab;replace ar:=ar.ext ab;replace ax:=ax.ext ab;clear ab))
   all_goals try omega
   refine SW.call rfl rfl (mw r s _ (hr.ext hw) hs) fun v w6 aj hv => ?_
   obtain ⟨q,cs,rfl,hO,hI⟩:=hv;replace hO:=hO.low hw.size;replace hI:=hI.low hw.size;(replace hw:=Ext.trans hw aj;replace ar:=ar.ext aj;replace ax:=ax.ext aj);refine SW.alloc rfl fun nq w7 aj mv aX => ?_
   have eD:w.heap.size≤nq:=Nat.le_trans hw.size mv
   have Az:b6≠nq:=fun e=>absurd ax.lt (by omega)
   have ef:b3≠nq:=fun e=>absurd ar.lt (by omega)
   (replace hw:=Ext.trans hw aj;replace ar:=ar.ext aj;replace ax:=ax.ext aj;replace hO:=hO.ext aj;replace hI:=hI.ext aj);refine SW.ap aX rfl rfl rfl rfl (dH q) fun w8 dI hg => ?_
   have hG:=aX.gr hg;replace ax:=ax.grown hg (by simpa using Az);replace ar:=ar.grown hg (by simpa using ef);replace hw:=hw.own eD hg;(replace hO:=hO.ay hG rfl;replace hI:=hI.ay hG rfl);replace aX:=dI;clear dI hG hg;refine Wz ?_
   refine CW.loop (fun t:Nat×(Option Addr×Nat×List Int)×dP×aE×List de=>[(1,.string n),(2,.int .i64 (c:Int)),(3,.int .i64 (m:Int)),(4,.pointer (some ⟨b3,0,none⟩)),(8,.pointer (some ⟨b6,0,none⟩)),(12,.pointer (some ⟨nq,0,none⟩)),(13,.slice t.2.1.1 t.1 t.2.1.2.1),(14,.int .i64 (t.1:Int))])
    (fun t w'=>t.1≤m∧Ext w w'∧aI w' b3 30 (aT r)∧aI w' b6 30 (aT .zero)∧aI w' nq 30 (aT t.2.2.1)∧SX w' w.heap.size t.2.2.1 t.2.2.2.1 t.2.2.2.2∧SJ (fun g=>aQ t.2.1.1 t.2.1.2.1=some g) w' w.heap.size t.2.2.1 t.2.2.2.1 t.2.2.2.2∧Own w' w.heap.size 3 1 bf t.2.1.1 t.1 t.2.1.2.1 t.2.1.2.2∧Bk t.2.2.2.1 i c ∧ ∀ u,ga i c (m-t.1) t.2.2.2.1 t.2.1.2.2 u→ga i c m s [] u)
    (fun t=>m-t.1) (0,(none,0,[]),q,s,cs) ⟨rfl,rfl,rfl,rfl,rfl,rfl,rfl,rfl,trivial⟩ ⟨Nat.zero_le _,hw,ar,ax,aX,hO,hI.sj.none (fun g e=>by cases e),Own.dS _ _ _ _ _ _,hB,fun u hu=>hu⟩ ?_
   clear hw ar ax aX hO hI hB hM;rintro ⟨j,⟨A,ca,l⟩,q1,s1,Jz⟩ w9 ⟨hj,hw,ar,ax,aX,hX,hJ,hO,hB,hR⟩
   simp only at hj aX hX hJ hO hB hR ⊢
   have cC:∀ w',Ext w w'→bt Tryz.prog 18 [.agg (aT r).toArray,.string n] w' fun v _=>v = .int .i64 (i:Int):=fun w' hx=>by
    have:=qS r s n w' (hr.ext hx) hs
    rwa [rE] at this
   by_cases LW:j<m
   ·have kx:m-j=(m-(j+1))+1:=by omega
    rw [kx] at hR;refine Wz ?_;all_goals try omega
    refine CW.jf 5 13 (fun _=>True) mixed (by kernel_rfl) fun w1 ab aG => ?_
    replace hw:=Ext.trans hw ab;replace ar:=ar.ext ab;replace ax:=ax.ext ab;replace aX:=aX.ext ab;replace hX:=hX.ext ab;replace hJ:=hJ.ext ab;replace hO:=hO.ext ab;clear ab;refine Wf ?_;refine SF.two 3 10 rfl rfl (by kernel_rfl) rfl rfl ?_ ?_
    ·refine SW.call rfl rfl (cC _ hw) fun v lP aj hv => ?_
     subst hv;(replace hw:=Ext.trans hw aj;replace ar:=ar.ext aj;replace ax:=ax.ext aj;replace aX:=aX.ext aj;replace hX:=hX.ext aj;replace hJ:=hJ.ext aj;replace hO:=hO.ext aj);try replace cl:=cl.ext aj
     refine SW.nil (ae.sf aj ?_);refine SF.I5 10 rfl rfl (by kernel_rfl) rfl rfl ?_ ?_
     ·refine SW.db rfl rfl (wC (fun g=>aQ A ca=some g) w _ q1 s1 Jz i c hB.gL hB.hi hB.inv hw hX hJ (fun g e=>hO.lt_size g e) hB.oG) fun v vh hv => ?_
      obtain ⟨M,Q,a,e,rfl,fE,D5,lL,nM,dp⟩:=hv.form;replace ar:=lL _ _ ar;replace ax:=lL _ _ ax;replace aX:=lL _ _ aX;try replace cl:=lL _ _ cl
      replace hO:=hO.same nM;clear hw hX hJ;have hw:=D5;have hS:True:=trivial
      refine SW.nil (ae.sg hS ?_);refine SG.ln 6 aG rfl (by kernel_rfl) (by kernel_rfl) rfl hS (fun _=>bd rfl) rfl ?_;refine SG.ln 7 aG rfl (by kernel_rfl) (by kernel_rfl) rfl hS (fun _=>bd rfl) rfl ?_;refine SG.ln 8 aG rfl (by kernel_rfl) (by kernel_rfl) rfl hS (fun _=>bd rfl) rfl ?_;refine SG.ln 9 aG rfl (by kernel_rfl) (by kernel_rfl) rfl hS (fun _=>bd rfl) rfl ?_;refine SG.one 10 rfl (by kernel_rfl) rfl ?_;refine SW.alloc rfl fun pf lP aj qW cl => ?_
      have n6:b6≠pf:=fun e=>absurd ax.lt (by omega)
      have tF:nq≠pf:=fun e=>absurd aX.lt (by omega)
      have tG:b3≠pf:=fun e=>absurd ar.lt (by omega)
      have vk:w.heap.size≤pf:=Nat.le_trans hw.size qW
      replace ar:=ar.ext aj;replace ax:=ax.ext aj;replace aX:=aX.ext aj;replace hO:=hO.ext aj;try replace hX:=hX.ext aj
      try replace hJ:=hJ.ext aj
      try replace dp:=dp.ext aj
      replace hw:=Ext.trans hw aj;have hS:True:=trivial
      refine SW.nil (ae.sg hS ?_);refine SG.one 11 rfl (by kernel_rfl) rfl ?_;refine SW.ap cl rfl rfl rfl rfl (dH Q) fun DF jC hg => ?_
      have hG:=cl.gr hg;replace ax:=ax.grown hg (by simpa using n6);replace aX:=aX.grown hg (by simpa using tF);replace ar:=ar.grown hg (by simpa using tG);replace hw:=hw.own vk hg;replace dp:=dp.IE hG;replace hO:=hO.ay hG rfl;replace cl:=jC;clear jC hg hG;have hS:True:=trivial
      refine SW.nil (ae.sg hS ?_);refine SG.one 12 rfl (by kernel_rfl) rfl ?_;repeat (refine SW.pure rfl rfl ?_)
      refine SW.nil (ae.sg hS ?_);refine SG.last rfl (by kernel_rfl) (by kernel_rfl) ?_;rcases dp with ⟨hn,tS,rfl,rfl⟩|⟨M,cs',rfl,rfl,rfl,hX,hJ⟩
      ·have hQ:=hP _ (hR _ (.bad hB.hi fE hn));obtain ⟨m1,e⟩:=M;simp only at hn tS hQ;refine Wz ?_;all_goals try omega
       refine SW.ap ax rfl rfl rfl rfl (dH .zero) fun FW bL hg => ?_
       replace hw:=hw.own dr hg;refine Wz ?_;exact ae.dB rfl rfl rfl rfl bL rfl ⟨_,rfl,hw,_,hQ,.zero,none,0,rfl,hz _,Own.dS _ _ _ _ _ _⟩
      ·have pI:=hB.BW fE;have bL:∀ u,ga i c (m-(j+1)) (nS s1 i c M) (l++[(c7 M.c M.k).dg]) u→ga i c m s [] u:=fun u hu=>hR u (.more hB.hi fE hu)
       obtain ⟨a,ha⟩ : ∃ a,(c7 M.c M.k).dg=a:=⟨_,rfl⟩;obtain ⟨s2,ux⟩ : ∃ s2,nS s1 i c M=s2:=⟨_,rfl⟩;rw [show bQ (fL s1 M.ws) i (M.h,fv M.c c M.k (M.ws.getD (c7 M.c M.k).dg.toNat 0))=s2 from ux] at hX hJ;rw [ha,ux] at bL;rw [ux] at pI;rw [ha];refine Wz ?_;all_goals try omega
       refine SW.ap aX rfl rfl rfl rfl (dH Q) fun FW dI hg => ?_
       have hG:=aX.gr hg;replace ar:=ar.grown hg (by simpa using ef);replace ax:=ax.grown hg (by simpa using Az);replace hw:=hw.own eD hg;replace hO:=hO.ay hG rfl;replace hX:=hX.ay hG rfl;replace hJ:=hJ.ay hG rfl;replace aX:=dI;clear dI hG hg;refine Wz ?_;refine SW.bD rfl rfl rfl rfl rfl fun bn JY aj E8 wo => ?_
       (replace hw:=Ext.trans hw aj;replace ar:=ar.ext aj;replace ax:=ax.ext aj;replace aX:=aX.ext aj;replace hX:=hX.ext aj;replace hJ:=hJ.ext aj;replace hO:=hO.ext aj);refine SW.mb hO (aI.lj (enc:=bf) (x:=a) wo) hw.size (by omega) rfl rfl rfl (by omega) (by omega) fun A2 c2 JZ gf hg wI => ?_
       obtain ⟨zL,iW⟩:=hX.aside (n2:=0) hJ hO hg wI;have hG:=hO.gr hg;replace hw:=aF hw hg (Nat.le_refl _) hO.aL;(replace ar:=ar.ay hG rfl;replace ax:=ax.ay hG rfl;replace aX:=aX.ay hG rfl);refine Wz ?_;exact ae.again (j+1,(A2,c2,l++[a]),Q,s2,cs') ⟨rfl,rfl,rfl,rfl,rfl,rfl,rfl,rfl,trivial⟩ (by simp only;omega) ⟨by simp only;omega,hw,ar,ax,aX,zL,iW,gf,pI,bL⟩
     ·refine SW.alloc rfl fun pf lP aj qW cl => ?_
      have n6:b6≠pf:=fun e=>absurd ax.lt (by omega)
      have tF:nq≠pf:=fun e=>absurd aX.lt (by omega)
      have tG:b3≠pf:=fun e=>absurd ar.lt (by omega)
      have vk:w.heap.size≤pf:=Nat.le_trans hw.size qW
      replace ar:=ar.ext aj;replace ax:=ax.ext aj;replace aX:=aX.ext aj;replace hO:=hO.ext aj;try replace hX:=hX.ext aj
      try replace hJ:=hJ.ext aj
      try replace dp:=dp.ext aj
      replace hw:=Ext.trans hw aj;have hS:True:=trivial
      refine SW.nil (ae.sf aj ?_);refine SF.turn rfl (by kernel_rfl) rfl ?_;refine SW.db rfl rfl (wC (fun g=>aQ A ca=some g) w _ q1 s1 Jz i c hB.gL hB.hi hB.inv hw hX hJ (fun g e=>hO.lt_size g e) hB.oG) fun v vh hv => ?_
      obtain ⟨M,Q,a,e,rfl,fE,D5,lL,nM,dp⟩:=hv.form;replace ar:=lL _ _ ar;replace ax:=lL _ _ ax;replace aX:=lL _ _ aX;try replace cl:=lL _ _ cl
      replace hO:=hO.same nM;clear hw hX hJ;have hw:=D5;have hS:True:=trivial
      refine SW.nil (ae.sg hS ?_);refine SG.one 6 rfl (by kernel_rfl) rfl ?_;repeat (refine SW.pure rfl rfl ?_)
      refine SW.nil (ae.sg hS ?_);refine SG.ln 7 aG rfl (by kernel_rfl) (by kernel_rfl) rfl hS (fun _=>bd rfl) rfl ?_;refine SG.ln 8 aG rfl (by kernel_rfl) (by kernel_rfl) rfl hS (fun _=>bd rfl) rfl ?_;refine SG.ln 9 aG rfl (by kernel_rfl) (by kernel_rfl) rfl hS (fun _=>bd rfl) rfl ?_;refine SG.one 11 rfl (by kernel_rfl) rfl ?_;refine SW.ap cl rfl rfl rfl rfl (dH Q) fun DF jC hg => ?_
      have hG:=cl.gr hg;replace ax:=ax.grown hg (by simpa using n6);replace aX:=aX.grown hg (by simpa using tF);replace ar:=ar.grown hg (by simpa using tG);replace hw:=hw.own vk hg;replace dp:=dp.IE hG;replace hO:=hO.ay hG rfl;replace cl:=jC;clear jC hg hG;have hS:True:=trivial
      refine SW.nil (ae.sg hS ?_);refine SG.one 12 rfl (by kernel_rfl) rfl ?_;repeat (refine SW.pure rfl rfl ?_)
      refine SW.nil (ae.sg hS ?_);refine SG.last rfl (by kernel_rfl) (by kernel_rfl) ?_;rcases dp with ⟨hn,tS,rfl,rfl⟩|⟨M,cs',rfl,rfl,rfl,hX,hJ⟩
      ·have hQ:=hP _ (hR _ (.bad hB.hi fE hn));obtain ⟨m1,e⟩:=M;simp only at hn tS hQ;refine Wz ?_;all_goals try omega
       refine SW.ap ax rfl rfl rfl rfl (dH .zero) fun FW bL hg => ?_
       replace hw:=hw.own dr hg;refine Wz ?_;exact ae.dB rfl rfl rfl rfl bL rfl ⟨_,rfl,hw,_,hQ,.zero,none,0,rfl,hz _,Own.dS _ _ _ _ _ _⟩
      ·have pI:=hB.BW fE;have bL:∀ u,ga i c (m-(j+1)) (nS s1 i c M) (l++[(c7 M.c M.k).dg]) u→ga i c m s [] u:=fun u hu=>hR u (.more hB.hi fE hu)
       obtain ⟨a,ha⟩ : ∃ a,(c7 M.c M.k).dg=a:=⟨_,rfl⟩;obtain ⟨s2,ux⟩ : ∃ s2,nS s1 i c M=s2:=⟨_,rfl⟩;rw [show bQ (fL s1 M.ws) i (M.h,fv M.c c M.k (M.ws.getD (c7 M.c M.k).dg.toNat 0))=s2 from ux] at hX hJ;rw [ha,ux] at bL;rw [ux] at pI;rw [ha];refine Wz ?_;all_goals try omega
       refine SW.ap aX rfl rfl rfl rfl (dH Q) fun FW dI hg => ?_
       have hG:=aX.gr hg;replace ar:=ar.grown hg (by simpa using ef);replace ax:=ax.grown hg (by simpa using Az);replace hw:=hw.own eD hg;replace hO:=hO.ay hG rfl;replace hX:=hX.ay hG rfl;replace hJ:=hJ.ay hG rfl;replace aX:=dI;clear dI hG hg;refine Wz ?_;refine SW.bD rfl rfl rfl rfl rfl fun bn JY aj E8 wo => ?_
       (replace hw:=Ext.trans hw aj;replace ar:=ar.ext aj;replace ax:=ax.ext aj;replace aX:=aX.ext aj;replace hX:=hX.ext aj;replace hJ:=hJ.ext aj;replace hO:=hO.ext aj);refine SW.mb hO (aI.lj (enc:=bf) (x:=a) wo) hw.size (by omega) rfl rfl rfl (by omega) (by omega) fun A2 c2 JZ gf hg wI => ?_
       obtain ⟨zL,iW⟩:=hX.aside (n2:=0) hJ hO hg wI;have hG:=hO.gr hg;replace hw:=aF hw hg (Nat.le_refl _) hO.aL;(replace ar:=ar.ay hG rfl;replace ax:=ax.ay hG rfl;replace aX:=aX.ay hG rfl);refine Wz ?_;exact ae.again (j+1,(A2,c2,l++[a]),Q,s2,cs') ⟨rfl,rfl,rfl,rfl,rfl,rfl,rfl,rfl,trivial⟩ (by simp only;omega) ⟨by simp only;omega,hw,ar,ax,aX,zL,iW,gf,pI,bL⟩
    ·refine SW.alloc rfl fun pf lP aj qW cl => ?_
     have n6:b6≠pf:=fun e=>absurd ax.lt (by omega)
     have tF:nq≠pf:=fun e=>absurd aX.lt (by omega)
     have tG:b3≠pf:=fun e=>absurd ar.lt (by omega)
     have vk:w.heap.size≤pf:=Nat.le_trans hw.size qW
     replace ar:=ar.ext aj;replace ax:=ax.ext aj;replace aX:=aX.ext aj;replace hO:=hO.ext aj;try replace hX:=hX.ext aj
     try replace hJ:=hJ.ext aj
     try replace dp:=dp.ext aj
     replace hw:=Ext.trans hw aj;have hS:True:=trivial
     refine SW.nil (ae.sf aj ?_);refine SF.one 3 rfl (by kernel_rfl) rfl ?_;refine SW.call rfl rfl (cC _ hw) fun v lP aj hv => ?_
     subst hv;(replace hw:=Ext.trans hw aj;replace ar:=ar.ext aj;replace ax:=ax.ext aj;replace aX:=aX.ext aj;replace hX:=hX.ext aj;replace hJ:=hJ.ext aj;replace hO:=hO.ext aj);try replace cl:=cl.ext aj
     refine SW.nil (ae.sf aj ?_);refine SF.turn rfl (by kernel_rfl) rfl ?_;refine SW.db rfl rfl (wC (fun g=>aQ A ca=some g) w _ q1 s1 Jz i c hB.gL hB.hi hB.inv hw hX hJ (fun g e=>hO.lt_size g e) hB.oG) fun v vh hv => ?_
     obtain ⟨M,Q,a,e,rfl,fE,D5,lL,nM,dp⟩:=hv.form;replace ar:=lL _ _ ar;replace ax:=lL _ _ ax;replace aX:=lL _ _ aX;try replace cl:=lL _ _ cl
     replace hO:=hO.same nM;clear hw hX hJ;have hw:=D5;have hS:True:=trivial
     refine SW.nil (ae.sg hS ?_);refine SG.one 6 rfl (by kernel_rfl) rfl ?_;repeat (refine SW.pure rfl rfl ?_)
     refine SW.nil (ae.sg hS ?_);refine SG.ln 7 aG rfl (by kernel_rfl) (by kernel_rfl) rfl hS (fun _=>bd rfl) rfl ?_;refine SG.ln 8 aG rfl (by kernel_rfl) (by kernel_rfl) rfl hS (fun _=>bd rfl) rfl ?_;refine SG.ln 9 aG rfl (by kernel_rfl) (by kernel_rfl) rfl hS (fun _=>bd rfl) rfl ?_;refine SG.one 11 rfl (by kernel_rfl) rfl ?_;refine SW.ap cl rfl rfl rfl rfl (dH Q) fun DF jC hg => ?_
     have hG:=cl.gr hg;replace ax:=ax.grown hg (by simpa using n6);replace aX:=aX.grown hg (by simpa using tF);replace ar:=ar.grown hg (by simpa using tG);replace hw:=hw.own vk hg;replace dp:=dp.IE hG;replace hO:=hO.ay hG rfl;replace cl:=jC;clear jC hg hG;have hS:True:=trivial
     refine SW.nil (ae.sg hS ?_);refine SG.one 12 rfl (by kernel_rfl) rfl ?_;repeat (refine SW.pure rfl rfl ?_)
     refine SW.nil (ae.sg hS ?_);refine SG.last rfl (by kernel_rfl) (by kernel_rfl) ?_;rcases dp with ⟨hn,tS,rfl,rfl⟩|⟨M,cs',rfl,rfl,rfl,hX,hJ⟩
     ·have hQ:=hP _ (hR _ (.bad hB.hi fE hn));obtain ⟨m1,e⟩:=M;simp only at hn tS hQ;refine Wz ?_;all_goals try omega
      refine SW.ap ax rfl rfl rfl rfl (dH .zero) fun FW bL hg => ?_
      replace hw:=hw.own dr hg;refine Wz ?_;exact ae.dB rfl rfl rfl rfl bL rfl ⟨_,rfl,hw,_,hQ,.zero,none,0,rfl,hz _,Own.dS _ _ _ _ _ _⟩
     ·have pI:=hB.BW fE;have bL:∀ u,ga i c (m-(j+1)) (nS s1 i c M) (l++[(c7 M.c M.k).dg]) u→ga i c m s [] u:=fun u hu=>hR u (.more hB.hi fE hu)
      obtain ⟨a,ha⟩ : ∃ a,(c7 M.c M.k).dg=a:=⟨_,rfl⟩;obtain ⟨s2,ux⟩ : ∃ s2,nS s1 i c M=s2:=⟨_,rfl⟩;rw [show bQ (fL s1 M.ws) i (M.h,fv M.c c M.k (M.ws.getD (c7 M.c M.k).dg.toNat 0))=s2 from ux] at hX hJ;rw [ha,ux] at bL;rw [ux] at pI;rw [ha];refine Wz ?_;all_goals try omega
      refine SW.ap aX rfl rfl rfl rfl (dH Q) fun FW dI hg => ?_
      have hG:=aX.gr hg;replace ar:=ar.grown hg (by simpa using ef);replace ax:=ax.grown hg (by simpa using Az);replace hw:=hw.own eD hg;replace hO:=hO.ay hG rfl;replace hX:=hX.ay hG rfl;replace hJ:=hJ.ay hG rfl;replace aX:=dI;clear dI hG hg;refine Wz ?_;refine SW.bD rfl rfl rfl rfl rfl fun bn JY aj E8 wo => ?_
      (replace hw:=Ext.trans hw aj;replace ar:=ar.ext aj;replace ax:=ax.ext aj;replace aX:=aX.ext aj;replace hX:=hX.ext aj;replace hJ:=hJ.ext aj;replace hO:=hO.ext aj);refine SW.mb hO (aI.lj (enc:=bf) (x:=a) wo) hw.size (by omega) rfl rfl rfl (by omega) (by omega) fun A2 c2 JZ gf hg wI => ?_
      obtain ⟨zL,iW⟩:=hX.aside (n2:=0) hJ hO hg wI;have hG:=hO.gr hg;replace hw:=aF hw hg (Nat.le_refl _) hO.aL;(replace ar:=ar.ay hG rfl;replace ax:=ax.ay hG rfl;replace aX:=aX.ay hG rfl);refine Wz ?_;exact ae.again (j+1,(A2,c2,l++[a]),Q,s2,cs') ⟨rfl,rfl,rfl,rfl,rfl,rfl,rfl,rfl,trivial⟩ (by simp only;omega) ⟨by simp only;omega,hw,ar,ax,aX,zL,iW,gf,pI,bL⟩
   ·obtain rfl:j=m:=by omega
    have hQ:=hP _ (hR (s1,l,0) (by rw [Nat.sub_self];exact .done));have kB:=hO.len;refine Wz ?_;all_goals try omega
    refine SW.ap ax rfl rfl rfl rfl (dH q1) fun lP bL hg => ?_
    have hG:=ax.gr hg;replace hw:=hw.own dr hg;(replace hX:=hX.ay hG rfl;replace hO:=hO.ay hG rfl);refine Wz ?_;exact ae.dB rfl rfl rfl rfl bL rfl ⟨_,rfl,hw,_,hQ,_,A,ca,by rw [kB],hX.GJ,by rw [kB];exact hO⟩
  ·have hP:=jd.range hE hm;repeat' (first|refine Wz ?_|((first|refine SW.call rfl rfl (cA _ hw) ?_|refine SW.call rfl rfl (bK _ _ _ _) ?_);intro v w1 ab hv;subst hv;replace hw:=Ext.trans hw ab;replace ar:=ar.ext ab;replace ax:=ax.ext ab;clear ab))
   all_goals try omega
   refine SW.ap ax rfl rfl rfl rfl (dH .zero) fun w7 bL hg => ?_
   replace hw:=hw.own dr hg;refine Wz ?_;exact ae.dB rfl rfl rfl rfl bL rfl ⟨_,rfl,hw,_,hP,.zero,none,0,rfl,hz _,Own.dS _ _ _ _ _ _⟩
 ·have hP:=jd.ask (s:=s) (n:=n) (cpu:=cpu) (many:=many) (by rw [hE];exact he);rw [hE] at hP;repeat' (first|refine Wz ?_|(refine SW.call rfl rfl (cA _ hw) ?_;intro v w1 ab hv;subst hv;replace hw:=Ext.trans hw ab;replace ar:=ar.ext ab;replace ax:=ax.ext ab;clear ab))
  all_goals try omega
  refine SW.ap ax rfl rfl rfl rfl (dH .zero) fun w7 bL hg => ?_
  replace hw:=hw.own dr hg;refine Wz ?_;exact ae.dB rfl rfl rfl rfl bL rfl ⟨_,rfl,hw,_,hP,.zero,none,0,rfl,hz _,Own.dS _ _ _ _ _ _⟩
open Go.RowKit
set_option maxHeartbeats 2000000 in
theorem uy (r:dP) (s:aE) (n:ByteArray) (cpu many:Int) (w:World) (hr:rG w r s) (hf:s.gL) (JU:n.size≤140737488351232) (tx:pe w) :
 bt Tryz.prog 4 [.agg (aT r).toArray,.string n,.int .i64 cpu,.int .i64 many] w fun v _=>v = .bool true:=by
 refine aM Tryz.func4 rfl Tryz.ntmps4 rfl ?_;have hs:=hf.small;refine CW.seq (CW.region (SW.box rfl rfl fun b1 w1 hw ik aB => ?_));refine Wz ?_;refine SW.call rfl rfl (mw r s _ (hr.ext hw) hs) fun v w4 iS hv => ?_
 obtain ⟨k,cs,rfl,MV,_⟩:=hv;have hK:=MV.GJ;clear MV;(replace hw:=Ext.trans hw iS;replace aB:=aB.ext iS);refine SW.alloc rfl fun b3 w1 ab bM ar => ?_
 skip;refine SW.ap ar rfl rfl rfl rfl (dH k) fun w2 cU hg => ?_
 have aj:=ab.own bM hg;have cr:w.heap.size≤b3:=Nat.le_trans hw.size bM
 replace hw:=Ext.trans hw aj;replace aB:=aB.ext aj;replace hK:=hK.ext aj;replace ar:=cU;clear cU ab hg aj;refine Wz ?_;refine SW.call rfl rfl (wG k s n cpu many _ hK.rd hf JU (tx.ext hw)) fun v w5 jJ hv => ?_
 obtain ⟨o,hu,s1,A1,c1,rfl,tO,pW⟩:=hv;have EI:=(hu.small hf).1;have Ma:=(hu.small hf).2;(replace hw:=Ext.trans hw jJ;replace aB:=aB.ext jJ;replace ar:=ar.ext jJ;replace hK:=hK.ext jJ);refine Wz ?_;refine SW.alloc rfl fun b4 w1 ab my bY => ?_
 skip;refine SW.ap bY rfl rfl rfl rfl (dH s1) fun w2 rh hg => ?_
 have aj:=ab.own my hg;have mM:w.heap.size≤b4:=Nat.le_trans hw.size my
 replace hw:=Ext.trans hw aj;replace aB:=aB.ext aj;replace ar:=ar.ext aj;replace hK:=hK.ext aj;replace tO:=tO.ext aj;replace pW:=pW.ext aj;replace bY:=rh;clear rh ab hg aj;refine Wz ?_;refine SW.call rfl rfl (zN r s n cpu many _ (hr.ext hw) hf) fun v w6 De hv => ?_
 obtain ⟨o',Bw,s2,A2,c2,rfl,ux,Fw⟩:=hv;obtain rfl:=hu.jK Bw;(replace hw:=Ext.trans hw De;replace aB:=aB.ext De;replace ar:=ar.ext De;replace bY:=bY.ext De;replace hK:=hK.ext De;replace tO:=tO.ext De;replace pW:=pW.ext De);refine Wz ?_;refine SW.alloc rfl fun b6 w1 ab fb ax => ?_
 skip;refine SW.ap ax rfl rfl rfl rfl (dH s2) fun w2 gH hg => ?_
 have aj:=ab.own fb hg;have dr:w.heap.size≤b6:=Nat.le_trans hw.size fb
 replace hw:=Ext.trans hw aj;replace aB:=aB.ext aj;replace ar:=ar.ext aj;replace bY:=bY.ext aj;replace hK:=hK.ext aj;replace tO:=tO.ext aj;replace pW:=pW.ext aj;replace ux:=ux.ext aj;replace Fw:=Fw.ext aj;replace ax:=gH;clear gH ab hg aj
 have cL:∀ w',Ext w w'→Sl w' 1 bf A1 o.2.1.length o.2.1→Sl w' 1 bf A2 o.2.1.length o.2.1→bt Tryz.prog 11 [.slice A1 o.2.1.length c1,.slice A2 o.2.1.length c2] w' fun v _=>v = .bool true:=fun w' _ h1 h2=>by
  have:=gv _ _ _ _ c1 c2 _ _ w' h1 h2 (by omega)
  simpa using this
 have cA:∀ w',Ext w w'→rG w' s1 o.1→rG w' s2 o.1→bt Tryz.prog 8 [.agg (aT s1).toArray,.agg (aT s2).toArray] w' fun v _=>v = .bool true:=fun w' _ h1 h2=>ns s1 s2 o.1 w' h1 h2 EI
 have cB:∀ w',Ext w w'→rG w' k s→bt Tryz.prog 8 [.agg (aT k).toArray,.agg (aT r).toArray] w' fun v _=>v = .bool true:=fun w' hx h1=>ns k r s w' h1 (hr.ext hx) hs
 repeat' (first|refine Wz ?_|((first|refine SW.call rfl rfl (cL _ hw pW.sl Fw.sl) ?_|refine SW.call rfl rfl (cA _ hw tO.rd ux.rd) ?_|refine SW.call rfl rfl (cB _ hw hK.rd) ?_);intro v w1 ab hv;subst hv;replace hw:=Ext.trans hw ab;replace aB:=aB.ext ab;replace ar:=ar.ext ab;replace bY:=bY.ext ab;replace ax:=ax.ext ab;replace hK:=hK.ext ab;replace tO:=tO.ext ab;replace ux:=ux.ext ab;replace pW:=pW.ext ab;replace Fw:=Fw.ext ab;clear ab))
 exact ae.aO rfl rfl ⟨_,rfl,hw,rfl⟩
end Go.Proofs.YtjimadiidbkohaaGreatDoor
