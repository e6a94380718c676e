/-
  Texts of the claim TopProcessors, part 24: what its theorem leans on.
-/
import Derived.Test.YtbidkghlpijecaaGreatDoorPackTopProcessors23
import Derived.Test.YtbidkghlpijecaaGreatDoorPackTopProcessors15
import Derived.Test.YtbidkghlpijecaaGreatDoorPackTopProcessors20
import Derived.Test.YtbidkghlpijecaaGreatDoorPackTopProcessors22
import Derived.Test.YtbidkghlpijecaaGreatDoorPackTopProcessors21
import Derived.Test.YtbidkghlpijecaaGreatDoorPackTopProcessors12
import Derived.Test.YtbidkghlpijecaaGreatDoorPackTopProcessors2
import Derived.Test.YtbidkghlpijecaaGreatDoorPackTopProcessors11
import Derived.Test.YtbidkghlpijecaaGreatDoorPackTopProcessors14
set_option linter.unusedVariables false
set_option linter.unusedSimpArgs false
namespace Go.Proofs.YtbidkghlpijecaaGreatDoor
open Go.RowKit
def F4 (to zi p:Int) : Prop:=(0≤p∧p<256)∧(p<to↔zi=0)
structure iX (c to:Int) (L:List ay) : Prop where
 head:∀ l∈L,jK c l
 mr:AP L
 iG:∀ l∈L,∀ p∈l.av,F4 to l.ao p
theorem iX.nil (c to:Int) : iX c to []:=⟨by simp,List.Pairwise.nil,by simp⟩
theorem iX.ok {c to:Int} {L:List ay} (h:iX c to L) : k9 c to L:=by
 refine ⟨fun i hi=>h.head _ (List.getElem_mem hi),fun i hi=>h.mr.get hi (by omega),fun i hi p hp=>(h.iG _ (List.getElem_mem hi) p hp).2⟩
theorem gq.ls {h:Heap} {z0 z1:ao} (f:gq h z0 z1) (hm:bp h) : iX h.bw z0.To h.au:=by
 obtain ⟨y0,y1,h1,_,_,_,_,_,h7,_⟩:=hm.cj;have hz:=f.d.cj;rw [h1] at hz;simp only [List.cons.injEq,and_true] at hz;obtain ⟨rfl,rfl⟩:=hz;refine ⟨fun l hl => ?_,f.mr,fun l hl p hp => ?_⟩
 ·obtain ⟨i,hi,rfl⟩:=List.getElem_of_mem hl;exact h7.head i hi
 ·obtain ⟨i,hi,rfl⟩:=List.getElem_of_mem hl;refine ⟨?_,h7.iG i hi p hp⟩;obtain ⟨j,hj,rfl⟩:=List.getElem_of_mem hp;exact (f.CN hi hj).at_
theorem iX.erase {c to:Int} {L:List ay} (h:iX c to L) (k:Nat) : iX c to (L.eraseIdx k) :=
 ⟨fun l hl=>h.head l (List.mem_of_mem_eraseIdx hl),List.Pairwise.sublist (List.eraseIdx_sublist L k) h.mr,fun l hl=>h.iG l (List.mem_of_mem_eraseIdx hl)⟩
theorem iX.pR {c to:Int} {L:List ay} (h:iX c to L) {k:Nat} (hk:k<L.length) {y:ay} (he:fZ L[k] y) (hy:jK c y) (hz:∀ p∈y.av,F4 to y.ao p) : iX c to (L.set k y):=by
 refine ⟨fun l hl => ?_,?_,fun l hl => ?_⟩
 ·rcases List.mem_or_eq_of_mem_set hl with h1|rfl
  ·exact h.head l h1
  ·exact hy
 ·unfold AP;rw [List.pairwise_iff_getElem];intro i j hi hj lz;simp only [List.length_set] at hi hj;have h0:=h.mr.get hj lz;rw [List.getElem_set,List.getElem_set];unfold bZ fZ at *;split
  ·rename_i e;subst e
   rw [if_neg (by omega)];omega
  ·split
   ·rename_i e;subst e;omega
   ·exact h0
 ·rcases List.mem_or_eq_of_mem_set hl with h1|rfl
  ·exact h.iG l h1
  ·exact hz
theorem iX.ins {c to:Int} {L:List ay} (h:iX c to L) {y:ay} (hk:cK L y=false) (hy:jK c y) (hz:∀ p∈y.av,F4 to y.ao p) : iX c to (aN L (bg L y) y):=by
 have ke:∀ l∈aN L (bg L y) y,l∈L∨l=y:=fun l hl=>by
  unfold aN at hl;simp only [List.mem_append,List.mem_singleton] at hl;rcases hl with (hl|rfl)|hl
  ·exact .inl (List.mem_of_mem_take hl)
  ·exact .inr rfl
  ·exact .inl (List.mem_of_mem_drop hl)
 refine ⟨fun l hl => ?_,wi h.mr hk,fun l hl => ?_⟩
 ·rcases ke l hl with h1|rfl
  ·exact h.head l h1
  ·exact hy
 ·rcases ke l hl with h1|rfl
  ·exact h.iG l h1
  ·exact hz
theorem iX.KU {c to:Int} {L:List ay} (h:iX c to L) {y:ay} (hy:jK c y) (hz:∀ p∈y.av,F4 to y.ao p) : iX c to (fQ L y):=by
 cases hk:cK L y
 ·rw [oN hk];exact h.ins hk hy hz
 ·obtain ⟨hl,he⟩:=iu hk;rw [oM hk];exact h.pR hl he hy hz
theorem iX.pop {c to:Int} {L:List ay} (h:iX c to L) {x:ay} (hk:cK L x=true) : iX c to (sW L x (cd L x)):=by
 obtain ⟨hl,he⟩:=iu hk;have e:=fM hk hl;unfold sW;split
 ·exact h.erase _
 ·rename_i h1;have h2:=h.head _ (List.getElem_mem hl);have h3:=h.iG _ (List.getElem_mem hl);rw [e] at h1 ⊢;refine h.pR hl (by unfold fZ dX at *;simpa using he) ?_ fun p hp => ?_
  ·unfold jK dX at *;unfold fZ at he;simp only [List.length_dropLast];omega
  ·have:=h3 p ((List.dropLast_sublist _).subset hp)
   unfold fZ at he;simp only [dX] at this ⊢;rwa [← he.2.1]
theorem iX.more {c to:Int} {L:List ay} (h:iX c to L) {x:ay} (hk:cK L x=false) {pg:List Int} (h1:(0≤x.fT∧x.fT<c)∧(0≤x.ao∧x.ao≤1)∧(0≤x.Ty∧x.Ty≤2)) (h2:pg.length≤8) (hz:∀ p∈pg,F4 to x.ao p) : iX c to (iE L x pg):=by
 by_cases e:pg=[]
 ·subst e;rw [kj];exact h
 ·rw [mR hk e];obtain ⟨k1,k2⟩:=iP (L:=L) (nJ (x:=x) (pg:=pg));refine h.ins (by rw [← k2];exact hk) ?_ hz;have : 0<pg.length:=List.length_pos_iff.2 e
  unfold jK dX;simp only;omega
theorem VS.range {s:ao×ao} (h:VS s) : 0≤s.1.To∧s.1.To≤256:=by
 have h1:=h.kf.ok;have h2:=h.j3.ok;have:=h.Ac
 obtain ⟨a1,a2,a3,a4,a5⟩:=h1;obtain ⟨b1,b2,b3,b4,b5⟩:=h2;omega
theorem F5 {s:ao×ao} {zi o t:Int} {u:ao×Int×Int} (hv:VS s) (pD:zi=0∨zi=1) (h:fL (uh s zi) o t u) (h0:u.2.2=0) : F4 s.1.To zi u.2.1:=by
 obtain ⟨_,⟨x,hx,e⟩,_⟩:=h.qw h0;obtain ⟨⟨f1,f2,f3,f4,f5⟩,_⟩:=mW (hv.uh zi) x hx;have hr:=hv.range;have:=hv.mK;have:=hv.Ac;have:=hv.E9
 unfold uh at f3 f4;unfold F4;rcases pD with rfl|rfl
 ·simp only [if_true] at f3 f4;omega
 ·simp only [show ¬ (1:Int)=0 by omega,if_false] at f3 f4;omega
theorem gV.bM {m0 m1 zi t fl:Int} {s:ao×ao} {l:List Int} {r:(ao×ao)×List Int} (h:gV m0 m1 zi t fl s l r) (pD:zi=0∨zi=1) : VS s→(∀ p∈l,F4 s.1.To zi p) → ∀ p∈r.2,F4 s.1.To zi p:=by
 induction h with
 | full|kQ|none=>exact fun _ h=>h
 | more h he ht hu hr ih =>
   intro hv hl;rw [← pM ht hu];refine ih (hv.pR (ht.qw hu).1) fun p hp => ?_
   rw [pM ht hu];rcases List.mem_append.1 hp with hp|hp
   ·exact hl p hp
   ·simp only [List.mem_singleton] at hp;subst hp;exact F5 hv pD ht hu
theorem iw.ls {m0 m1 cpu zi o t fl c:Int} {s:ao×ao} {L:List ay} {r:(ao×ao)×List ay×Int} (h:iw m0 m1 cpu zi o t fl s L (some r)) (pD:zi=0∨zi=1) (hv:VS s) (hL:iX c s.1.To L) (hc : 0≤cpu∧cpu<c) (ht : 0≤t∧t≤2) : iX c s.1.To r.2.1:=by
 cases h with
 | list ho hk hp=>exact hL.pop hk
 | uJ ho he ht hu=>exact hL
 | fill ho hk he G5 hu hr =>
   have NH:=hv.pR (G5.qw hu).1;have h3:=(hr.vs NH).2;refine hL.more hk ⟨hc,by rcases pD with rfl|rfl<;>simp,ht⟩ (by omega) fun p hp => ?_
   have:=hr.bM pD NH (by simp) p hp
   rwa [pM G5 hu] at this
theorem kR.ls {m0 m1 cpu o t fl c:Int} {s:ao×ao} {L:List ay} {r:(ao×ao)×List ay×Int} (h:kR m0 m1 cpu o t fl s L (some r)) (hv:VS s) (hL:iX c s.1.To L) (hc : 0≤cpu∧cpu<c) (ht : 0≤t∧t≤2) : iX c s.1.To r.2.1:=by
 cases h with
 | tZ _ h=>exact h.ls (.inr rfl) hv hL hc ht
 | low _ h=>exact h.ls (.inl rfl) hv hL hc ht
theorem MQ {o k:Int} (ho : 0≤o) (h:o≤k) (hk:k≤4) {a:Int} (ha:a % pw k=0) : a % pw o=0:=by
 rcases dU (o:=o) ho (by omega) with ⟨e1,e2⟩|⟨e1,e2⟩|⟨e1,e2⟩|⟨e1,e2⟩|⟨e1,e2⟩<;>rcases dU (o:=k) (by omega) hk with ⟨e3,e4⟩|⟨e3,e4⟩|⟨e3,e4⟩|⟨e3,e4⟩|⟨e3,e4⟩<;>rw [e2]<;>rw [e4] at ha<;>omega
theorem fL.al {z:ao} {o t:Int} {u:ao×Int×Int} (h:fL z o t u) (h0:u.2.2=0) : u.2.1 % pw o=0:=by
 cases h with
 | bad|range|kind|room=>simp at h0
 | @ok k st hq ho ht hk hp =>
   obtain ⟨_,p1,p2⟩:=hp.ord;have hb:=(mW (ed.1 hq) _ (List.getElem_mem hk)).1;exact MQ ho.1 (by omega) (by omega) hb.2.2.2.2
theorem iw.al {m0 m1 cpu zi o t fl:Int} {s:ao×ao} {L:List ay} {r:(ao×ao)×List ay×Int} (h:iw m0 m1 cpu zi o t fl s L (some r)) : r.2.2 % pw o=0:=by
 cases h with
 | list ho hk hp=>subst ho;simp only [gM];omega
 | uJ ho he ht hu=>exact ht.al hu
 | fill ho hk he ht hu hr=>exact ht.al hu
theorem kR.al {m0 m1 cpu o t fl:Int} {s:ao×ao} {L:List ay} {r:(ao×ao)×List ay×Int} (h:kR m0 m1 cpu o t fl s L (some r)) : r.2.2 % pw o=0:=by
 cases h with
 | tZ _ h=>exact h.al
 | low _ h=>exact h.al
theorem zU {l:List Block} (h1:∀ b∈l,sv b) (h2:l.Pairwise fun x y=>x.At<y.At) : ff l:=by
 rw [List.pairwise_iff_getElem] at h2;exact ⟨fun i hi=>h1 _ (List.getElem_mem hi),fun i hi=>h2 i (i+1) (by omega) hi (by omega)⟩
theorem ff.all {l:List Block} (h:ff l) : ∀ b∈l,sv b:=fun b hb=>by
 obtain ⟨i,hi,rfl⟩:=List.getElem_of_mem hb;exact h.each i hi
theorem ff.erase {l:List Block} (h:ff l) (k:Nat) : ff (l.eraseIdx k) :=
 zU (fun b hb=>h.all b (List.mem_of_mem_eraseIdx hb)) (List.Pairwise.sublist (List.eraseIdx_sublist l k) (jO h))
theorem ff.OR {h:Heap} (hl:ff h.Live) {a o t:Int} (hb:sv ⟨a,o,t⟩) (hn:∀ b∈h.Live,b.At≠a) : ff (dK h a o t):=by
 refine zU (fun b ka => ?_) ?_
 ·rcases sB ka with rfl|h1
  ·exact hb
  ·exact hl.all b h1
 ·have hp:=jO hl
  have hd:∀ x∈h.Live.drop (bi h.Live a),a<x.At:=fun x hx=>by
   obtain ⟨j,hj,rfl⟩:=List.getElem_of_mem hx;simp only [List.length_drop] at hj;rw [List.getElem_drop];have h1:=Au (l:=h.Live) (a:=a) (by omega);have h2:=hn _ (List.getElem_mem (show bi h.Live a+j<h.Live.length by omega));rcases Nat.eq_zero_or_pos j with e|e
   ·subst e;simp only [Nat.add_zero] at h2 ⊢;omega
   ·rw [List.pairwise_iff_getElem] at hp;have h3:=hp (bi h.Live a) (bi h.Live a+j) (by omega) (by omega) (by omega);omega
  have ht:∀ x∈h.Live.take (bi h.Live a),x.At<a:=fun x hx=>by
   obtain ⟨j,hj,rfl⟩:=List.getElem_of_mem hx;simp only [List.length_take] at hj;rw [List.getElem_take];exact mE (by omega)
  unfold dK aN;rw [List.append_assoc,List.pairwise_append];refine ⟨List.Pairwise.sublist (List.take_sublist _ _) hp,?_,fun x hx y hy => ?_⟩
  ·rw [List.singleton_append,List.pairwise_cons];exact ⟨hd,List.Pairwise.sublist (List.drop_sublist _ _) hp⟩
  ·have h1:=ht x hx;rcases List.mem_append.1 hy with hy|hy
   ·simp only [List.mem_singleton] at hy;subst hy;exact h1
   ·have:=hd y hy;omega
theorem mX {h:Heap} {s:ao×ao} (hz:h.bf=[s.1,s.2]) (hv:VS s) (hl:iX h.bw s.1.To h.au) (hm:∃ m0 m1,h.dk=[m0,m1]∧(0≤m0∧m0≤256)∧(0≤m1∧m1≤256)) (hc : 1≤h.bw∧h.bw≤4) (Kv:ff h.Live) (ht:∀ i,qK s h.au h.Live i≤1) : bp h:=by
 refine ⟨⟨s.1,s.2,hz,hv.kf,hv.j3,hv.mK,hv.Ac,hv.E9,hl.ok,?_⟩,hm,hc,Kv⟩;have hr:=hv.range
 have key:∀ b∈s.1.aj++s.2.aj++aR h.au++h.Live,(0≤b.At∧1≤pw b.Order)∧b.At+pw b.Order≤256:=fun b hb=>by
  have al:∀ x o:Int,0≤o→o≤4→0≤x→x<256→x % pw o=0→(0≤x∧1≤pw o)∧x+pw o≤256:=fun x o o1 o2 x1 x2 h3=>by
   rcases dU o1 o2 with ⟨e1,e2⟩|⟨e1,e2⟩|⟨e1,e2⟩|⟨e1,e2⟩|⟨e1,e2⟩<;>rw [e2] at h3 ⊢<;>omega
  have z0:=hv.kf.ok;have z1:=hv.j3.ok;unfold dI at z0 z1;rw [List.mem_append,List.mem_append,List.mem_append] at hb;rcases hb with ((hb|hb)|hb)|hb
  ·obtain ⟨⟨f1,f2,f3,f4,f5⟩,_⟩:=mW hv.kf b hb;exact al _ _ f1 f2 (by omega) (by omega) f5
  ·obtain ⟨⟨f1,f2,f3,f4,f5⟩,_⟩:=mW hv.j3 b hb;exact al _ _ f1 f2 (by omega) (by omega) f5
  ·unfold aR at hb;obtain ⟨x,hx,hb⟩:=List.mem_flatMap.1 hb;obtain ⟨p,hp,rfl⟩:=List.mem_map.1 hb;have:=(hl.iG x hx p hp).1
   exact al p 0 (by omega) (by omega) this.1 this.2 (by rw [gM];omega)
  ·obtain ⟨l1,l2,l3,_⟩:=Kv.all b hb;exact al _ _ l1.1 l1.2 l2.1 (by omega) l3
 refine qo (bs:=[]) (fun b hb=>(key b (by simpa using hb)).1) (fun b hb=>(key b hb).2) fun i => ?_
 have:=ht i
 unfold qK mA gj at this;simp only [List.nil_append,dn];omega
theorem ct.may {h:Heap} {cpu o fl:Int} {u:Heap×Int×Int} (a:ct h cpu o fl u) (h0:u.2.2=0) : bp u.1:=by
 obtain ⟨y0,y1,s,c1,c2,c3,c4,⟨t,c5,c6⟩,c7,c8,c9,Sx⟩:=a.iz h0;have lP:=a.at_ h0
 have hm:bp h:=by
  cases a with
  | bad|range|form|room=>simp at h0
  | once hb|fA hb=>exact cG.1 hb
 have su:(0≤o∧o≤4)∧u.2.1 % pw o=0∧iX h.bw y0.To u.1.au ∧ ∀ b∈h.Live,b.At≠u.2.1:=by
  cases a with
  | bad|range|form|room=>simp at h0
  | @once z0 z1 r hb hr ht hz ha =>
    rw [c1] at hz;simp only [List.cons.injEq,and_true] at hz;obtain ⟨rfl,rfl⟩:=hz;obtain ⟨i,e,h1,h2⟩:=pH c2 (ha.found c2.d.start.vs).2;exact ⟨hr.2,ha.al,ha.ls c2.d.start.vs (c2.ls hm) hr.1 (o8 ht).2,c2.uQ e h2⟩
  | @fA z0 z1 r hb hr ht hz ha h2 =>
    rw [c1] at hz;simp only [List.cons.injEq,and_true] at hz;obtain ⟨rfl,rfl⟩:=hz;obtain ⟨i,e,h1,h3⟩:=nK c2 (h2.found (eJ c2.d).vs).2;have:=h2.ls (c:=h.bw) (eJ c2.d).vs (iX.nil _ _) hr.1 (o8 ht).2
    rw [wT c2.d] at this;exact ⟨hr.2,h2.al,this,c2.uQ e h3⟩
 obtain ⟨o1,o2,o3,o4⟩:=su;have Rn:=fun i=>c2.MP i
 refine mX c4 c3 (by rw [c8,c9];exact o3) (by rw [c7];exact hm.dA) (by rw [c8];exact hm.cpus) ?_ fun i=>by rw [← (Sx i).1];exact Rn i
 rw [c6];exact c2.live.OR ⟨o1,by simp only;omega,o2,c5⟩ o4
theorem F6 {h:Heap} {z0 z1:ao} (hm:bp h) (hz:h.bf=[z0,z1]) : bp (mf h z0 z1):=by
 obtain ⟨y0,y1,f⟩:=fO hm;have lO:=f.d.cj;rw [hz] at lO;simp only [List.cons.injEq,and_true] at lO;obtain ⟨rfl,rfl⟩:=lO;refine mX rfl (eJ f.d).vs (iX.nil _ _) hm.dA hm.cpus f.live fun i => ?_
 have h1:=f.MP i;have h2:=tR f i;have h3:gj [] i=0:=rfl
 unfold qK at h1 ⊢;simp only [mf];omega
theorem J8 (l:List Block) (i:Nat) : (dx l i).toNat≤iz l i:=by
 cases e:dx l i with
 | false=>simp
 | true=>have:=ky.1 e;simp;omega
theorem Iu (L:List ay) (y:ay) (i:Nat) : gj (fQ L y) i+jz (cd L y) i=gj L i+jz y.av i:=by
 cases hk:cK L y
 ·rw [oN hk,ln hk,wP];simp [jz,uW]
 ·obtain ⟨hl,_⟩:=iu hk;rw [oM hk,fM hk hl];exact BS hl y i
theorem gq.Iv {h:Heap} {z0 z1:ao} (f:gq h z0 z1) {i:Nat} (hi:i<h.au.length) : ∀ j,j≤h.au[i].av.length→(bE (z0,z1) ((h.au[i].av.take j).map bL)).1.To=z0.To
 | 0,_=>by simp [bE]
 | j+1,hj=>by
   have ih:=((f.inv hi j (by omega)).back (f.CN hi (show j<_ by omega))).2
   have e:(h.au[i].av.take (j+1)).map bL=(h.au[i].av.take j).map bL++[bL h.au[i].av[j]]:=by
    rw [List.take_succ_eq_append_getElem (by omega),List.map_append];rfl
   rw [e,lE];exact ih.trans (f.Iv hi j (by omega))
theorem BU {z:ao} (hz:bD z) {a:Int} (h1:z.aK≤a) (h2:a<z.To) : ik (vR z a):=by
 have hl:=hz.len;have hi:((a-z.aK) / 8).toNat<z.Types.length:=by omega
 unfold vR;rw [List.getD_eq_getElem?_getD,List.getElem?_eq_getElem hi];exact hz.types _ (List.getElem_mem hi)
theorem Iw {h:Heap} {z0 z1:ao} (f:gq h z0 z1) {cpu a:Int} (hc : 0≤cpu∧cpu<h.bw) (ha : 0≤a∧a<256) : ((0≤(keyOf z0 z1 cpu a).fT∧(keyOf z0 z1 cpu a).fT<h.bw)∧(0≤(keyOf z0 z1 cpu a).ao∧(keyOf z0 z1 cpu a).ao≤1)∧(0≤(keyOf z0 z1 cpu a).Ty∧(keyOf z0 z1 cpu a).Ty≤2))∧F4 z0.To (keyOf z0 z1 cpu a).ao a:=by
 have h0:=f.d.mK;have hm:=f.d.Ac;have ht:=f.d.E9
 unfold keyOf F4;by_cases hl:a<z0.To
 ·simp only [if_pos hl];exact ⟨⟨hc,by omega,BU f.d.kf (by omega) hl⟩,ha,by simp [hl]⟩
 ·simp only [if_neg hl];exact ⟨⟨hc,by omega,BU f.d.j3 (by omega) (by omega)⟩,ha,by simp [hl]⟩
theorem Dy (l:List Int) (k i:Nat) : jz l i=jz (l.take k) i+jz (l.drop k) i:=by rw [← kG,List.take_append_drop]
theorem yG {h:Heap} {cpu a:Int} (hm:bp h) (hc : 0≤cpu∧cpu<h.bw) (hf:br h.Live a=true) : bp (ic h cpu a):=by
 obtain ⟨z0,z1,f⟩:=fO hm;obtain ⟨hk,KC⟩:=ib hf;obtain ⟨k,ek⟩ : ∃ k,bi h.Live a=k:=⟨_,rfl⟩;simp only [ek] at hk KC;have hL:=f.ls hm;have E4:=f.live.each k hk;have hN:=f.next hk
 have JO:∀ (s:ao×ao) (bs:List Block),nv s (z0.aj++z1.aj++bs) → ∀ i,mA s i≤mA (z0,z1) i+iz bs i:=fun s bs D i=>by
  rw [wS D.vs i,D.Ea i];have:=J8 (z0.aj++z1.aj++bs) i
  rw [dn,dn] at this;exact this
 by_cases ho : 0<h.Live[k].Order
 ·rw [nC f.d.cj hk ek ho];obtain ⟨D,D5⟩:=f.d.start.back hN;refine mX (s:=eR (z0,z1) h.Live[k]) rfl D.vs (by rw [D5];exact hL) hm.dA hm.cpus (f.live.erase k) fun i => ?_
  have h1:=f.MP i;have h2:=JO _ _ D i;have h3:=pL hk i;rw [rU] at h2;unfold qK at h1 ⊢;simp only [oO];omega
 ·have e0:h.Live[k].Order=0:=by have:=E4.1;omega
  rw [nD f.d.cj hk ek ho];obtain ⟨hx,hz⟩:=Iw f hc (a:=a) (by have:=E4.2.1;omega);obtain ⟨x,ex⟩ : ∃ x,keyOf z0 z1 cpu a=x:=⟨_,rfl⟩;rw [ex] at hx hz ⊢;obtain ⟨q,eq⟩ : ∃ q,cd h.au x=q:=⟨_,rfl⟩;rw [eq]
  have UP:q.length≤8∧(∀ p∈q,F4 z0.To x.ao p)∧(q≠[] → ∃ hl:bg h.au x<h.au.length,h.au[bg h.au x].av=q):=by
   cases hh:cK h.au x
   ·rw [ln hh] at eq;subst eq;exact ⟨by simp,by simp,fun h=>absurd rfl h⟩
   ·obtain ⟨hl,he⟩:=iu hh;rw [fM hh hl] at eq;subst eq;refine ⟨(hL.head _ (List.getElem_mem hl)).2.2.2.2,fun p hp => ?_,fun _=>⟨hl,rfl⟩⟩;have:=hL.iG _ (List.getElem_mem hl) p hp
    rwa [he.2.1] at this
  obtain ⟨q1,q2,q3⟩:=UP
  have Sy:∀ p∈q++[a],F4 z0.To x.ao p:=fun p hp=>by
   rcases List.mem_append.1 hp with hp|hp
   ·exact q2 p hp
   ·simp only [List.mem_singleton] at hp;subst hp;exact hz
  have JF:∀ (pg:List Int) (i:Nat),gj (fQ h.au (kY x pg)) i+jz q i=gj h.au i+jz pg i:=fun pg i=>by
   have h1:=Iu h.au (kY x pg) i;have QJ:fZ (kY x pg) x:=⟨rfl,rfl,rfl⟩
   obtain ⟨k1,k2⟩:=iP (L:=h.au) QJ
   have:cd h.au (kY x pg)=q:=by
    rw [← eq];unfold cd;rw [k2];split
    ·rename_i hh;obtain ⟨hl,_⟩:=iu hh;rw [k1,List.getD_eq_getElem?_getD,List.getD_eq_getElem?_getD,List.getElem?_eq_getElem hl]
     rfl
    ·rfl
   rw [this] at h1;exact h1
  have h3:=fun i=>pL hk i
  rw [KC,e0] at h3;unfold iQ;split
  ·rename_i h9;simp only [List.length_append,List.length_singleton] at h9;have hq:q.length=8:=by omega
   have Sz:(q++[a]).take 4=q.take 4:=List.take_append_of_le_length (by omega)
   obtain ⟨hl,Ro⟩:=q3 (fun e=>by rw [e] at hq;simp at hq);have D:=f.inv hl 4 (by rw [Ro];omega);have D5:=f.Iv hl 4 (by rw [Ro];omega);rw [Ro] at D D5;rw [Sz];refine mX (s:=bE (z0,z1) ((q.take 4).map bL)) rfl D.vs ?_ hm.dA hm.cpus (f.live.erase k) fun i => ?_
   ·simp only [D5];refine hL.KU ?_ fun p hp=>Sy p (List.mem_of_mem_drop hp)
    unfold jK kY;simp only [List.length_drop,List.length_append,List.length_singleton];omega
   ·have h1:=f.MP i;have h2:=JO _ _ D i;have h4:=JF ((q++[a]).drop 4) i;have h5:=Dy (q++[a]) 4 i;rw [kG,rV,Sz] at h5;have h6:=h3 i;have h7:jz (q.take 4) i=iz ((q.take 4).map bL) i:=rfl
    unfold qK at h1 ⊢;simp only;omega
  ·rename_i h9;simp only [List.length_append,List.length_singleton] at h9;refine mX (s:=(z0,z1)) rfl f.d.start.vs ?_ hm.dA hm.cpus (f.live.erase k) fun i => ?_
   ·refine hL.KU ?_ Sy;unfold jK kY;simp only [List.length_append,List.length_singleton];omega
   ·have h1:=f.MP i;have h4:=JF (q++[a]) i;rw [kG,rV] at h4;have h6:=h3 i;unfold qK at h1 ⊢;simp only;omega
open Go.RowKit
def bP (n m:Int) : Int:=(if n<0 then -(n+1) else n).tmod m
theorem cu {n m:Int} (hm : 0<m) : 0≤bP n m∧bP n m<m:=by
 unfold bP;have h : 0≤(if n<0 then -(n+1) else n):=by split<;>omega
 exact ⟨Int.tmod_nonneg _ h,Int.tmod_lt_of_pos _ hm⟩
def wU (a b c:Int) : List Region:=[⟨bP a 20,40+bP b 60⟩,⟨130+bP c 10,16+bP a 90⟩]
def wV (a b c:Int) : List Region:=[⟨bP a 20+bP c 30,1+bP a 7⟩,⟨150+bP b 9,1+bP c 5⟩]
theorem KV {x y:Region} (hx:x.ok) (hy:y.ok) (h:x.aK+x.aE<y.aK) : fh [x,y]:=by
 refine ⟨by simp,fun i hi => ?_⟩;simp only [List.length_cons,List.length_nil] at hi;rcases (show i=0∨i=1 by omega) with rfl|rfl
 ·exact ⟨hx,fun h0=>by omega⟩
 ·exact ⟨hy,fun _=>h⟩
theorem Dz (a b c:Int) : mU (wU a b c) (wV a b c)=true:=by
 have h1:=cu (n:=a) (m:=20) (by omega);have h2:=cu (n:=b) (m:=60) (by omega);have h3:=cu (n:=c) (m:=10) (by omega);have h4:=cu (n:=a) (m:=90) (by omega);have h5:=cu (n:=c) (m:=30) (by omega);have h6:=cu (n:=a) (m:=7) (by omega);have h7:=cu (n:=b) (m:=9) (by omega);have h8:=cu (n:=c) (m:=5) (by omega);unfold mU wU wV;rw [j9 (KV (by unfold Region.ok;simp only;omega) (by unfold Region.ok;simp only;omega) (by simp only;omega)),j9 (KV (by unfold Region.ok;simp only;omega) (by unfold Region.ok;simp only;omega) (by simp only;omega))]
 rfl
theorem wW {p:Nat→Bool} {a b c d:Int} (h:∀ k:Nat,p k=true→(k=0∨p (k-1)=false)→(k:Int)=a∨(k:Int)=b∨(k:Int)=c∨(k:Int)=d) :
 ∀ k:Nat,(runs p k).length≤(if a<(k:Int) then 1 else 0)+(if b<(k:Int) then 1 else 0)+(if c<(k:Int) then 1 else 0)+(if d<(k:Int) then 1 else 0)
 | 0=>by simp [runs]
 | k+1=>by
   have ih:=wW h k;have xE:∀ x:Int,(if x<(k:Int) then 1 else 0)≤(if x<((k+1:Nat) : Int) then 1 else 0):=fun x=>by split<;>split<;>omega
   have ml:∀ x:Int,(k:Int)=x→(if x<(k:Int) then 1 else 0)+1≤(if x<((k+1:Nat) : Int) then 1 else 0):=fun x e=>by rw [if_neg (by omega),if_pos (by omega)];omega
   have ma:=xE a;have mb:=xE b;have mc:=xE c;have md:=xE d;cases hp:p k
   ·have e:runs p (k+1)=runs p k:=by simp [runs,hp]
    rw [e];omega
   ·by_cases hk : 0<k∧p (k-1)=true
    ·have e:runs p (k+1)=bump (runs p k):=by simp only [runs,hp,if_true,if_pos hk]
     obtain ⟨init,r,hr,_⟩:=(rf p k).last hk.1 hk.2;rw [e,hr,lX];rw [hr] at ih;simp only [List.length_append,List.length_singleton] at ih ⊢;omega
    ·have e:runs p (k+1)=runs p k++[⟨(k:Int),1⟩]:=by simp only [runs,hp,if_true,if_neg hk]
     have xc:=h k hp (by cases hq:p (k-1)<;>simp_all<;>omega);rw [e];simp only [List.length_append,List.length_singleton];rcases xc with e|e|e|e<;>have:=ml _ e<;>omega
theorem Ix (x y:Region) (i:Int) : dC [x,y] i=true↔(x.aK≤i∧i<x.aK+x.aE)∨(y.aK≤i∧i<y.aK+y.aE):=by
 unfold dC;simp
theorem DA (a b c:Int) : dH (runs (jt (wU a b c) (wV a b c)) 256)=true:=by
 have hr:=rf (jt (wU a b c) (wV a b c)) 256;refine j9 ⟨?_,fun i hi=>⟨?_,fun h0 => ?_⟩⟩
 ·have h1:=cu (n:=a) (m:=20) (by omega);have h2:=cu (n:=b) (m:=60) (by omega);have h3:=cu (n:=c) (m:=10) (by omega);have h4:=cu (n:=a) (m:=90) (by omega)
  have:=wW (p:=jt (wU a b c) (wV a b c)) (a:=bP a 20) (b:=130+bP c 10) (c:=bP a 20+bP c 30+(1+bP a 7)) (d:=150+bP b 9+(1+bP c 5)) (fun k hk Cb=>by
   have key:∀ i:Nat,jt (wU a b c) (wV a b c) i=true↔((bP a 20≤(i:Int)∧(i:Int)<bP a 20+(40+bP b 60))∨(130+bP c 10≤(i:Int)∧(i:Int)<130+bP c 10+(16+bP a 90))) ∧ ¬ ((bP a 20+bP c 30≤(i:Int)∧(i:Int)<bP a 20+bP c 30+(1+bP a 7))∨(150+bP b 9≤(i:Int)∧(i:Int)<150+bP b 9+(1+bP c 5))):=fun i=>by
    unfold jt wU wV;rw [Bool.and_eq_true,Bool.not_eq_true',← Bool.not_eq_true,Ix,Ix]
   rw [key] at hk;rcases Cb with rfl|Cb
   ·omega
   ·rw [← Bool.not_eq_true,key] at Cb;by_cases h0:k=0
    ·subst h0;omega
    ·omega) 256
  have e1:∀ x:Int,(if x<((256:Nat) : Int) then 1 else 0)≤1:=fun x=>by split<;>omega
  have a1:=e1 (bP a 20);have a2:=e1 (130+bP c 10);have a3:=e1 (bP a 20+bP c 30+(1+bP a 7));have a4:=e1 (150+bP b 9+(1+bP c 5));omega
 ·have:=hr.Kl _ (List.getElem_mem hi)
  unfold Region.ok;omega
 ·have:=hr.sep
  rw [List.pairwise_iff_getElem] at this;exact this (i-1) i (by omega) hi (by omega)
def uT (l:List Region) : Nat→List Block
 | 0=>[]
 | p+1=>if dC l p then uT l p++[bL p] else uT l p
theorem zV (l:List Region) : ∀ p:Nat,∀ b∈uT l p,0≤b.At∧b.At<(p:Int)∧b.Order=0
 | 0=>by simp [uT]
 | p+1=>fun b hb=>by
   unfold uT at hb;split at hb
   ·rcases List.mem_append.1 hb with hb|hb
    ·have:=zV l p b hb;omega
    ·simp only [List.mem_singleton] at hb;subst hb;refine ⟨?_,?_,rfl⟩<;>simp only [bL]<;>omega
   ·have:=zV l p b hb;omega
theorem Iy (l:List Region) {p:Nat} (hp:p<256) : mL (uT l p) (bL p):=by
 refine ⟨by simp [bL],by simp only [bL];omega,by simp only [bL,gM];omega,⟨by simp only [bL];omega,by simp only [bL,gM];omega,?_⟩,fun x hx => ?_⟩
 ·unfold iC;rw [List.any_eq_false];intro x hx;have:=zV l p x hx
  rw [this.2.2,gM];intro hh;simp only [bL,Bool.and_eq_true,decide_eq_true_eq] at hh;have h2:=of_decide_eq_true hh.2;omega
 ·have:=zV l p x hx
  rw [this.2.2,gM];omega
theorem BV {f t:Int} (h:dI f t) : bD (fI f t).2∧(fI f t).2.aK=f∧(fI f t).2.To=t∧(fI f t).2.aj=[]:=by
 rw [g9 h];have h':=h;unfold dI at h';refine ⟨⟨h,by simp only [List.length_replicate];omega,fun x hx => ?_,fun i hi=>by simp at hi,fun i hi=>by simp at hi⟩,rfl,rfl,rfl⟩;have:=List.eq_of_mem_replicate hx
 subst this;unfold ik;omega
theorem BW {l:List Region} {split:Int} (hs:dI 0 split) : ∀ p:Nat,p≤256→nv (eW l split p) (uT l p)∧(eW l split p).1.To=split
 | 0,_=>by
   have mV:dI split 256:=by unfold dI at hs ⊢;omega
   obtain ⟨a1,a2,a3,a4⟩:=BV hs;obtain ⟨b1,b2,b3,b4⟩:=BV mV;refine ⟨⟨a1,b1,a2,a3.trans b2.symm,b3,fun i => ?_⟩,a3⟩;simp only [eW,uT,a4,b4]
   rfl
 | p+1,hp=>by
   obtain ⟨D,D5⟩:=BW hs p (by omega);have hb:=D.back (Iy l (by omega));rw [eW,uT];cases hi:dC l p
   ·simp only [Bool.false_eq_true,if_false];exact ⟨D,D5⟩
   ·simp only [if_true]
    have e:(if (p:Int)<split then (kF (eW l split p).1 p,(eW l split p).2) else ((eW l split p).1,kF (eW l split p).2 p))=eR (eW l split p) (bL p):=by
     unfold eR kF;simp only [bL,D5]
    rw [e];exact ⟨hb.1,hb.2.trans D5⟩
theorem J9 {l:List Region} {split least cpus:Int} (ha:kx split least cpus) : bp (nQ (eW l split 256) least cpus):=by
 obtain ⟨D,D5⟩:=BW (l:=l) ha.1 256 (Nat.le_refl _);refine mX (s:=eW l split 256) rfl D.vs (iX.nil _ _) ⟨least,least,rfl,ha.2.1,ha.2.1⟩ ha.2.2 (zU (by simp [nQ]) (by simp [nQ])) fun i => ?_
 have h1:=wS D.vs i;have h2:∀ b:Bool,b.toNat≤1:=fun b=>by cases b<;>simp
 have h3:=h2 (dx (eW l split 256).1.aj i || dx (eW l split 256).2.aj i);have h4:gj [] i=0:=rfl
 unfold qK;simp only [nQ,uW];omega
def eB (h:Heap) (i:Nat) : aF:=⟨[kh (kP i)],kP i,(dy (kP i)).2.1,(dy (kP i)).1,[],List.replicate h.bw.toNat (-1)⟩
structure lM (h:Heap) (j:Nat) (s:ag) : Prop where
 words:s.Words=List.replicate 4096 0
 heap:s.Heap=h
 bR:s.aa=(List.range j).map (eB h)
theorem SB {P:Nat→Prop} (h0:P 0) (h1:P 1) (h2:P 2) (h3:P 3) (h4:P 4) (h5:P 5) {i:Nat} (h:i<6) : P i:=by
 rcases (show i=0∨i=1∨i=2∨i=3∨i=4∨i=5 by omega) with rfl|rfl|rfl|rfl|rfl|rfl
 ·exact h0
 ·exact h1
 ·exact h2
 ·exact h3
 ·exact h4
 ·exact h5
theorem yH {i:Nat} (h:i<6) : fy (kh (kP i))=true:=SB (P:=fun i=>fy (kh (kP i))=true) (by decide) (by decide) (by decide) (by decide) (by decide) (by decide) h
theorem KW {i j:Nat} (h:i<6) (hj:j<i) : kP j≠kP i:=by
 have:∀ i,i<6 → ∀ j,j<i→kP j≠kP i:=by unfold kP;decide
 exact this i h j hj
theorem EA {i j:Nat} (h:i<6) (hj:j<i) : kh (kP j)≠kh (kP i):=by
 have:∀ i,i<6 → ∀ j,j<i→kh (kP j)≠kh (kP i):=by unfold kP;decide
 exact this i h j hj
theorem yI {h:Heap} (hm:bp h) {j:Nat} (hj:j≤6) {s:ag} (f:lM h j s) : a9 s:=by
 refine ⟨by rw [f.words,List.length_replicate],by rw [f.heap];exact hm,by rw [f.bR];simp;omega,fun i hi => ?_⟩;have r6:i<j:=by rw [f.bR] at hi;simpa using hi
 have ec:∀ (k:Nat) (hk:k<s.aa.length),s.aa[k]=eB h k:=fun k hk=>by
  have:s.aa[k]=((List.range j).map (eB h))[k]'(by rw [f.bR] at hk;exact hk):=by congr 1;exact f.bR
  rw [this];simp
 have qa:=hm.cpus;refine ⟨⟨?_,?_,?_,fun k hk => ?_,fun k hk => ?_⟩,fun k hk => ?_,⟨fun k hk => ?_⟩,fun k hk => ?_⟩
 ·rw [ec i hi];exact SB (P:=fun i=>dy (eB h i).aE=((eB h i).Order,(eB h i).bG,0)) rfl rfl rfl rfl rfl rfl (show i<6 by omega)
 ·rw [ec i hi];simp [eB]
 ·rw [ec i hi,f.heap];simp [eB];omega
 ·exfalso;rw [ec i hi] at hk;simp [eB] at hk
 ·left;have:∀ (c:aF) (e:c=eB h i) (hk:k<c.ar.length),c.ar[k] = -1:=fun c e hk=>by subst e;simp [eB]
  exact this _ (ec i hi) hk
 ·rw [ec i hi,ec k (by omega)];exact KW (by omega) hk
 ·have key:∀ (c:aF) (e:c=eB h i) (hk:k<c.Names.length) (acc:List ByteArray),(∀ n∈acc,n≠kh (kP i))→fy c.Names[k]=true∧c.Names[k]∉acc++c.Names.take k∧(0<k→eI (c.Names[k-1]'(by omega)) c.Names[k]=true):=fun c e hk acc ha=>by
   subst e;have xd:k=0:=by simp [eB] at hk;exact hk
   subst xd;simp only [eB,List.getElem_cons_zero,List.take_zero,List.append_nil];exact ⟨yH (by omega),fun hh=>ha _ hh rfl,fun h=>by omega⟩
  refine key _ (ec i hi) hk _ fun n hn => ?_
  unfold cT at hn;obtain ⟨c,hc,hn⟩:=List.mem_flatMap.1 hn;obtain ⟨q,hq,rfl⟩:=List.getElem_of_mem hc;simp only [List.length_take] at hq;rw [List.getElem_take,ec q (by omega)] at hn;simp only [eB,List.mem_singleton] at hn;subst hn;exact EA (by omega) (by omega)
 ·exfalso;rw [ec i hi] at hk;simp [eB] at hk
theorem DB {h:Heap} (hm:bp h) {j:Nat} (hj:j<6) {s:ag} (f:lM h j s) {u:ag×Int} (hu:nF s (kh (kP j)) (kP j) 1 u) : lM h (j+1) u.1:=by
 have hM:=yI hm (by omega) f;obtain ⟨_,_,k3,k4⟩:=En hj;have ez:rA (kP j) 1=kP j:=by unfold rA;omega
 have hn:∀ c∈s.aa,∃ q,q<j∧c=eB h q:=fun c hc=>by
  rw [f.bR] at hc;obtain ⟨q,hq,rfl⟩:=List.mem_map.1 hc;exact ⟨q,by simpa using hq,rfl⟩
 have F7:=nF.new (s:=s) (n:=kh (kP j)) (size:=kP j) (align:=1) (jP hM) ⟨yH hj,.inl rfl⟩ ⟨k3,by omega⟩ (by
  rw [List.any_eq_false];intro c hc;obtain ⟨q,hq,rfl⟩:=hn c hc;have:=EA hj hq
  simp [gD,vX,eB];exact fun e=>this e) (fun q hq=>by
  obtain ⟨t,ht,e⟩:=hn _ (List.getElem_mem hq);rw [e,ez];exact KW hj ht) (by rw [f.bR];simp;omega)
 rw [hu.ir F7];refine ⟨f.words,f.heap,?_⟩;simp only [ez];rw [List.range_succ,List.map_append,← f.bR];congr 1
 simp only [iT,List.map_cons,List.map_nil,eB,f.heap]
theorem DC {h:Heap} (hm:bp h) {j:Nat} {s:ag} (x:rS (Dv h) j s) : j≤6→lM h j s:=by
 induction x with
 | zero=>exact fun _=>⟨rfl,rfl,rfl⟩
 | succ m hu ih=>exact fun hj=>DB hm (by omega) (ih (by omega)) hu
theorem qL (a b c:Int) : kx (16*bP a 9) (bP b 12) (1+bP c 4):=by
 have h1:=cu (n:=a) (m:=9) (by omega);have h2:=cu (n:=b) (m:=12) (by omega);have h3:=cu (n:=c) (m:=4) (by omega);unfold kx dI;omega
noncomputable def Ka (a b c:Int) : Heap:=nQ (eW (runs (jt (wU a b c) (wV a b c)) 256) (16*bP a 9) 256) (bP b 12) (1+bP c 4)
theorem BX (a b c:Int) : bp (Ka a b c):=J9 (qL a b c)
theorem iA {a b c:Int} {u:ag×Int} (h:iy (jb 256 (wU a b c) (wV a b c)) (16*bP a 9) (bP b 12) (1+bP c 4) u) : u.2=0∧lM (Ka a b c) 6 u.1∧eY u.1:=by
 have hf:=h.dW;have e1:=ta (N:=256) (Dz a b c);have e2:=nS (DA a b c) (qL a b c);cases h with
 | MK h=>rw [e1] at h;exact absurd rfl h
 | heap h h2=>rw [e1,e2] at h2;exact absurd rfl h2
 | made h h2 m =>
   rw [e1] at m;simp only [e2] at m;have hF:=DC (BX a b c) m (Nat.le_refl _);exact ⟨rfl,hF,hf,yI (BX a b c) (Nat.le_refl _) hF⟩
theorem lM.eq {h:Heap} {j:Nat} {s t:ag} (a:lM h j s) (b:lM h j t) : s=t:=by
 obtain ⟨a1,a2,a3⟩:=a;obtain ⟨b1,b2,b3⟩:=b;cases s
 cases t
 simp only at *;subst a1 a2 a3 b1 b2 b3
 rfl
open Go.RowKit
theorem kH {l:List Block} (h:ff l) {b:Block} (hb:b∈l) : mM l b.At=b.Order:=by
 obtain ⟨k,hk,rfl⟩:=List.getElem_of_mem hb;obtain ⟨e1,e2⟩:=qA (jO h) hk (rfl:l[k].At=l[k].At);rw [vS e2 (by rw [e1];exact hk)];simp only [e1]
theorem zW {l:List Block} {x:Int} (h:∀ b∈l,b.At≠x) : mM l x = -1:=zA (vQ fun k hk=>h _ (List.getElem_mem hk))
theorem qM {l m:List Block} (hl:ff l) (hm:ff m) {x:Int} (h:∀ b:Block,b.At=x→(b∈l↔b∈m)) : mM m x=mM l x:=by
 by_cases e:∃ b∈l,b.At=x
 ·obtain ⟨b,hb,rfl⟩:=e;rw [kH hl hb,kH hm ((h b rfl).1 hb)]
 ·have e1:∀ b∈l,b.At≠x:=fun b hb he=>e ⟨b,hb,he⟩
  rw [zW e1,zW fun b hb he=>e1 b ((h b he).2 hb) he]
theorem EB {h:Heap} (hm:bp h) : ∀ z∈h.bf,eU z:=by
 obtain ⟨z0,z1,h1,h2,h3,h4,h5,h6,_⟩:=hm.cj;obtain ⟨a1,a2,a3,_⟩:=h2.ok;obtain ⟨b1,b2,b3,_⟩:=h3.ok;rw [h1];intro z hz;simp only [List.mem_cons,List.not_mem_nil,or_false] at hz;unfold eU;rcases hz with rfl|rfl<;>omega
theorem DD {s:ag} (hI:eY s) {h:Heap} (hm:bp h) (hs:h.small) (hc:h.bw=s.Heap.bw) (hl:∀ c∈s.aa,∀ x∈c.ab,mM h.Live x.At=mM s.Heap.Live x.At) : eY (qE s h):=by
 have hf:=hI.dW;have hM:=hI.may;refine ⟨⟨⟨hf.small.words,hs,hf.small.bR,hf.small.each⟩,EB hm,hf.aH,hf.names⟩,hM.words,hm,hM.most,fun i hi => ?_⟩;have hC:=hM.each i hi;refine ⟨⟨hC.may.lay,hC.may.names,hC.may.a8.trans hc.symm,fun k hk => ?_,hC.may.rr⟩,hC.size,hC.names,hC.aH⟩;have hS:=hC.may.aH k hk;exact ⟨(hl _ (List.getElem_mem hi) _ (List.getElem_mem hk)).trans hS.live,hS.next,hS.chain⟩
theorem mY {s:ag} (hM:a9 s) {c:aF} (hc:c∈s.aa) {x:Slab} (hx:x∈c.ab) : ∃ b∈s.Heap.Live,b.At=x.At:=by
 obtain ⟨i,hi,rfl⟩:=List.getElem_of_mem hc;obtain ⟨k,hk,rfl⟩:=List.getElem_of_mem hx;have hC:=(hM.each i hi).may;have h1:=(hC.aH k hk).live;have h2:=db hC.lay;rcases Classical.em (∃ b∈s.Heap.Live,b.At=s.aa[i].ab[k].At) with h|h
 ·exact h
 ·rw [zW fun b hb e=>h ⟨b,hb,e⟩] at h1;omega
theorem ct.from_ {h:Heap} {cpu o fl:Int} {u:Heap×Int×Int} (a:ct h cpu o fl u) (h0:u.2.2=0) : bp h∧u.1.bw=h.bw∧(∃ t,ik t∧u.1.Live=dK h u.2.1 o t) ∧ ∀ b∈h.Live,b.At≠u.2.1:=by
 obtain ⟨y0,y1,s,c1,c2,c3,c4,c5,c7,c8,c9,Sx⟩:=a.iz h0
 have hm:bp h:=by
  cases a with
  | bad|range|form|room=>simp at h0
  | once hb|fA hb=>exact cG.1 hb
 refine ⟨hm,c8,c5,?_⟩;cases a with
 | bad|range|form|room=>simp at h0
 | @once z0 z1 r hb hr ht hz ha =>
   rw [c1] at hz;simp only [List.cons.injEq,and_true] at hz;obtain ⟨rfl,rfl⟩:=hz;obtain ⟨i,e,h1,h2⟩:=pH c2 (ha.found c2.d.start.vs).2;exact c2.uQ e h2
 | @fA z0 z1 r hb hr ht hz ha h2 =>
   rw [c1] at hz;simp only [List.cons.injEq,and_true] at hz;obtain ⟨rfl,rfl⟩:=hz;obtain ⟨i,e,h1,h3⟩:=nK c2 (h2.found (eJ c2.d).vs).2;exact c2.uQ e h3
theorem nU {h:Heap} {cpu a:Int} (hm:bp h) (hf:br h.Live a=true) : (ic h cpu a).bw=h.bw∧(ic h cpu a).Live=h.Live.eraseIdx (bi h.Live a)∧(ic h cpu a).dk=h.dk:=by
 obtain ⟨z0,z1,f⟩:=fO hm;obtain ⟨hk,_⟩:=ib hf;by_cases ho : 0<h.Live[bi h.Live a].Order
 ·rw [nC f.d.cj hk rfl ho];exact ⟨rfl,rfl,rfl⟩
 ·rw [nD f.d.cj hk rfl ho];unfold iQ;split<;>exact ⟨rfl,rfl,rfl⟩
theorem nV {l:List Block} (h:ff l) {a:Int} (hf:br l a=true) {b:Block}:b∈l.eraseIdx (bi l a)↔b∈l∧b.At≠a:=by
 obtain ⟨hk,KC⟩:=ib hf;have hu:=jO h;rw [G6 hu hk KC rfl];unfold ku;simp only [List.mem_filter,Bool.not_eq_true',← Bool.not_eq_true,iq];constructor
 ·rintro ⟨h1,h2⟩
  refine ⟨h1,fun e=>h2 ⟨e,?_⟩⟩;have e1:=kH h h1;have e2:=kH h (List.getElem_mem hk);rw [KC] at e2;rw [e,e2] at e1;exact e1.symm
 ·rintro ⟨h1,h2⟩
  exact ⟨h1,fun e=>h2 e.1⟩
theorem zX {a:jy} (hk:a.Kind=1) : s8 eY a:=fun s u hI h=>by
 cases h with
 | @bM u hk h =>
   by_cases he:u.2.2=0
   ·simp only [uU,if_pos he];obtain ⟨hm,e2,⟨t,_,e3⟩,e4⟩:=h.from_ he;have ue:=h.may he;refine DD hI ue (h.small hI.dW.small.heap) e2 fun c hc x hx => ?_
    obtain ⟨b,hb,PA⟩:=mY hI.may hc hx;refine qM hm.live ue.live fun y hy => ?_
    rw [e3];constructor
    ·exact fun h=>by unfold dK aN;rw [List.append_assoc,List.mem_append];rw [← List.take_append_drop (bi s.Heap.Live u.2.1) s.Heap.Live,List.mem_append] at h;rcases h with h|h;exact .inl h;exact .inr (List.mem_append_right _ h)
    ·intro h;rcases sB h with rfl|h
     ·exact absurd (PA.trans hy.symm) (e4 b hb)
     ·exact h
   ·simp only [uU,if_neg he];exact hI
 | BA j6|drain j6|lh j6|rQ j6|rR j6=>omega
theorem Iz {s:ag} (hI:eY s) {cpu a:Int} (hc : 0≤cpu∧cpu<s.Heap.bw) (hw:ca s (a*16)=true) : eY (qE s (ic s.Heap cpu a)):=by
 have hm:=hI.may.heap;have SC:a*16 / 16=a:=by omega
 obtain ⟨hf,h0,_⟩:=iv hw;rw [SC] at hf;have ue:=yG hm hc hf;obtain ⟨p1,p2,p3⟩:=nU (cpu:=cpu) hm hf;have vN:=tJ s.Heap cpu a hI.dW.small.heap;rw [nB (cG.2 hm) hc hf] at vN;refine DD hI ue vN p1 fun c ot x hx => ?_
 have bW:x.At≠a:=fun e=>by
  unfold ca at hw;rw [SC] at hw;simp only [Bool.and_eq_true,Bool.not_eq_true',← Bool.not_eq_true] at hw;refine hw.2.1 ?_;unfold kv;rw [List.any_eq_true];refine ⟨c,ot,?_⟩;unfold qf;rw [List.any_eq_true];exact ⟨x,hx,decide_eq_true e⟩
 refine qM hm.live ue.live fun y hy => ?_
 rw [p2,nV hm.live hf];exact ⟨fun h=>⟨h,by rw [hy];exact bW⟩,fun h=>h.1⟩
theorem zY {a:jy} (hk:a.Kind=12) : s8 eY a:=fun s u hI h=>by
 cases h with
 | drain hk =>
   have hm:=hI.may.heap;obtain ⟨z0,z1,h1,_⟩:=hm.cj;have vN:=zP s.Heap hI.dW.small.heap;rw [wz (cG.2 hm) h1] at vN ⊢;simp only [uU,if_true];exact DD hI (F6 hm h1) vN rfl fun c hc x hx=>rfl
 | bM j6|BA j6|lh j6|rQ j6|rR j6=>omega
open Go.RowKit
theorem MR {P:Program} {L:Env} {w:World} {d:Option Nat} {T:TypeId} {pos:String} {af:Array Edge} {g:Option (Nat×Bool)} {t:TypeId} {x:Operand} {i:Int} (hx:cg L x=some (.int .i64 i)) (h1 : -9223372036854775808 ≤ -i) (h2 : -i≤9223372036854775807) : St P ⟨d,.unOp .neg t x,T,pos,af,g⟩ L w (.int .i64 (-i)) :=
 ⟨fun _ a ha w' _=>by have e1:=ha.eval hx;have:=gf h1 h2;generalize a.eval = ρ at *;simp [go_sem,e1,Op.unary,this]⟩
theorem fv (n m:Int) (w:World) (hn : -9223372036854775808≤n∧n≤9223372036854775807) (hm : 0<m) : bq Tryz.prog 37 [.int .i64 n,.int .i64 m] w fun v _=>v = .int .i64 (bP n m):=by
 refine aG Tryz.func37 rfl Tryz.ntmps37 rfl ?_;have hw:=Ext.refl w;have DP:m≠0:=by omega
 by_cases h0:n<0
 ·have e:bP n m=(-(n+1)).tmod m:=by unfold bP;rw [if_pos h0]
  rw [e];repeat' (first|refine Wz ?_|(refine SW.st (MR rfl (by omega) (by omega)) rfl ?_))
  exact ah.aY rfl rfl ⟨_,rfl,hw,rfl⟩
 ·have e:bP n m=n.tmod m:=by unfold bP;rw [if_neg h0]
  rw [e];refine Wz ?_;exact ah.aY rfl rfl ⟨_,rfl,hw,rfl⟩
theorem qN (n m:Int) (w:World) (hn : -9223372036854775808≤n∧n≤9223372036854775807) (hm : 0<m) : bq Tryz.prog 17 [.int .i64 n,.int .i64 m] w fun v _=>v = .int .i64 (bP n m):=by
 refine aG Tryz.func17 rfl Tryz.ntmps17 rfl ?_;have hw:=Ext.refl w;repeat' (first|refine Wz ?_|(refine SW.call rfl rfl (fv n m _ hn hm) ?_;intro v w1 ae hv;subst hv;replace hw:=Ext.trans hw ae;clear ae))
 exact ah.aY rfl rfl ⟨_,rfl,hw,rfl⟩
theorem zZ (A:Option Addr) (n c:Nat) (B:Option Addr) (m d:Nat) (x y z:Int) : ∀ v∈ig A n c B m d x y z,v.oneCell'=true:=fun v hv=>by
 simp only [ig,List.mem_cons,List.not_mem_nil,or_false] at hv;rcases hv with rfl|rfl|rfl|rfl|rfl<;>rfl
set_option maxHeartbeats 4000000 in
theorem tf (a b c:Int) (w:World) (ha : -9223372036854775808≤a∧a≤9223372036854775807) (hb : -9223372036854775808≤b∧b≤9223372036854775807) (hc : -9223372036854775808≤c∧c≤9223372036854775807) :
 bq Tryz.prog 32 [.int .i64 a,.int .i64 b,.int .i64 c] w fun v w' => ∃ A B,v = .agg (ig A 2 2 B 2 2 (16*bP a 9) (bP b 12) (1+bP c 4)).toArray∧Sl w' 2 iM A 2 (wU a b c)∧Sl w' 2 iM B 2 (wV a b c):=by
 refine aG Tryz.func32 rfl Tryz.ntmps32 rfl ?_;refine CW.seq (CW.region (SW.alloc rfl fun b6 w1 hw eu aA => ?_));have dl:=eu;have h1:=cu (n:=a) (m:=20) (by omega);have h2:=cu (n:=b) (m:=60) (by omega);have h3:=cu (n:=c) (m:=10) (by omega);have h4:=cu (n:=a) (m:=90) (by omega);have h5:=cu (n:=c) (m:=30) (by omega);have h6:=cu (n:=a) (m:=7) (by omega);have h7:=cu (n:=b) (m:=9) (by omega);have h8:=cu (n:=c) (m:=5) (by omega);have h9:=cu (n:=a) (m:=9) (by omega);have VZ:=cu (n:=b) (m:=12) (by omega);have V0:=cu (n:=c) (m:=4) (by omega);repeat' (first|refine Wz ?_|((first|refine SW.call rfl rfl (fv a _ _ ha (by decide)) ?_|refine SW.call rfl rfl (fv b _ _ hb (by decide)) ?_|refine SW.call rfl rfl (fv c _ _ hc (by decide)) ?_);intro v w1 ae hv;subst hv;replace hw:=Ext.trans hw ae;replace aA:=aA.ext ae;clear ae))
 have l6:=aA.lt;refine SW.alloc rfl fun b7 w1 ae jG bO => ?_
 skip;refine SW.ak bO rfl rfl rfl rfl (zZ none 0 0 none 0 0 (16*bP a 9) (bP b 12) (1+bP c 4)) fun w2 bB hg => ?_
 have ap:=ae.own jG hg;have jH:w.heap.size≤b7:=Nat.le_trans hw.size jG
 replace hw:=Ext.trans hw ap;replace aA:=aA.ext ap;replace bO:=bB;clear bB ae hg ap;have SD:b6≠b7:=by omega
 clear l6;repeat' (first|refine Wz ?_|((first|refine SW.call rfl rfl (fv a _ _ ha (by decide)) ?_|refine SW.call rfl rfl (fv b _ _ hb (by decide)) ?_|refine SW.call rfl rfl (fv c _ _ hc (by decide)) ?_);intro v w1 ae hv;subst hv;replace hw:=Ext.trans hw ae;replace aA:=aA.ext ae;replace bO:=bO.ext ae;clear ae))
 refine SW.wa (enc:=iM) ⟨bP a 20,40+bP b 60⟩ ⟨130+bP c 10,16+bP a 90⟩ rfl rfl rfl rfl rfl rfl fun g1 w2 bF UQ hA => ?_
 replace hA:=hA.low hw.size;(replace hw:=Ext.trans hw bF;replace aA:=aA.ext bF;replace bO:=bO.ext bF);clear bF;refine Wz ?_;refine SW.bz (i:=0) bO rfl rfl rfl rfl fun w3 bB hg => ?_
 have hG:=bO.gr hg;replace aA:=aA.grown hg (by simpa using SD);replace hw:=hw.own jH hg;(replace hA:=hA.aw hG rfl);replace bO:aW _ b7 29 (ig (some ⟨g1,0,none⟩) 2 2 none 0 0 (16*bP a 9) (bP b 12) (1+bP c 4)):=bB;clear hG hg bB;repeat' (first|refine Wz ?_|((first|refine SW.call rfl rfl (fv a _ _ ha (by decide)) ?_|refine SW.call rfl rfl (fv b _ _ hb (by decide)) ?_|refine SW.call rfl rfl (fv c _ _ hc (by decide)) ?_);intro v w1 ae hv;subst hv;replace hw:=Ext.trans hw ae;replace aA:=aA.ext ae;replace bO:=bO.ext ae;replace hA:=hA.ext ae;clear ae))
 refine SW.wa (enc:=iM) ⟨bP a 20+bP c 30,1+bP a 7⟩ ⟨150+bP b 9,1+bP c 5⟩ rfl rfl rfl rfl rfl rfl fun g2 w2 bF UR hB => ?_
 replace hB:=hB.low hw.size;(replace hw:=Ext.trans hw bF;replace aA:=aA.ext bF;replace bO:=bO.ext bF;replace hA:=hA.ext bF);clear bF;refine Wz ?_;refine SW.bz (i:=1) bO rfl rfl rfl rfl fun w3 bB hg => ?_
 have hG:=bO.gr hg;replace aA:=aA.grown hg (by simpa using SD);replace hw:=hw.own jH hg;(replace hA:=hA.aw hG rfl;replace hB:=hB.aw hG rfl);replace bO:aW _ b7 29 (ig (some ⟨g1,0,none⟩) 2 2 (some ⟨g2,0,none⟩) 2 2 (16*bP a 9) (bP b 12) (1+bP c 4)):=bB;clear hG hg bB;refine Wz ?_;refine SW.ak aA rfl rfl rfl rfl (zZ (some ⟨g1,0,none⟩) 2 2 (some ⟨g2,0,none⟩) 2 2 (16*bP a 9) (bP b 12) (1+bP c 4)) fun w3 hR hg => ?_
 have hG:=aA.gr hg;replace hw:=hw.own dl hg;(replace hA:=hA.aw hG rfl;replace hB:=hB.aw hG rfl);refine Wz ?_;exact ah.Al rfl rfl hR rfl ⟨_,rfl,hw,_,_,rfl,hA.sl,hB.sl⟩
def KX (k:Int) : jy:=⟨k,0,0,0,0,0,⟨#[]⟩⟩
theorem rW {a b c:Int} {l:List jy} {o:Int×List mw×ag} (h:F1 (jb 256 (wU a b c) (wV a b c)) (16*bP a 9) (bP b 12) (1+bP c 4) l o) : o.1=0 ∧ ∃ s,lM (Ka a b c) 6 s∧eY s∧my s l o.2.1 o.2.2:=by
 cases h with
 | fault h he=>exact absurd (iA h).1 he
 | Su h he hr=>exact ⟨rfl,_,(iA h).2.1,(iA h).2.2,hr⟩
set_option maxHeartbeats 4000000 in
theorem F8 (w:World) (hS:iK w) (kq:nq w) : bq Tryz.prog 13 [] w fun v _=>v = .bool true:=by
 refine aG Tryz.func13 rfl Tryz.ntmps13 rfl ?_;have hw:=Ext.refl w;refine Wz ?_;refine SW.call rfl rfl (tf 0 0 0 _ (by decide) (by decide) (by decide)) fun v w2 bF hv => ?_
 obtain ⟨A,B,rfl,hA,hB⟩:=hv;replace hw:=Ext.trans hw bF;clear bF;have hp:=cu (n:=0) (m:=9) (by omega);refine SW.call rfl rfl (BP A 2 2 B 2 2 _ _ _ _ _ _ hA hB (by decide) (by decide) (by omega) (hS.ext hw)) fun v w3 jA hv => ?_
 obtain ⟨u,hu,q,rfl,hq⟩:=hv;obtain ⟨e0,hF,hI⟩:=iA hu;replace hq:=hq.low hw.size;replace hw:=Ext.trans hw jA;clear jA hA hB;rw [e0];refine Wz ?_;refine SW.alloc rfl fun b1 w1 ae jh aI => ?_
 skip;refine SW.ak aI rfl rfl rfl rfl (bt q) fun w2 pO hg => ?_
 have ap:=ae.own jh hg;have Hu:w.heap.size≤b1:=Nat.le_trans hw.size jh
 replace hw:=Ext.trans hw ap;replace hq:=hq.ext ap;replace aI:=pO;clear pO ae hg ap;refine Wz ?_;refine SW.call rfl rfl (tf 0 0 0 _ (by decide) (by decide) (by decide)) fun v w2 bF hv => ?_
 obtain ⟨A,B,rfl,hA,hB⟩:=hv;(replace hw:=Ext.trans hw bF;replace aI:=aI.ext bF;replace hq:=hq.ext bF);clear bF;refine Wz ?_;refine SW.dR rfl rfl rfl rfl rfl fun Pu w9 oo yr rL => ?_
 (replace hw:=Ext.trans hw oo;replace aI:=aI.ext oo;replace hq:=hq.ext oo;replace hA:=hA.ext oo;replace hB:=hB.ext oo);clear oo;refine SW.call rfl rfl (rT eY A 2 2 B 2 2 _ _ _ _ _ _ 1 1 [KX 12] _ hA hB (by decide) (by decide) (by omega) (hS.ext hw) (kq.ext hw) (aW.z7 (enc:=xD) (x:=KX 12) rL) (by decide) (fun u h _=>(iA h).2.2) (fun s h=>h.dW) (fun a ha=>by simp only [List.mem_singleton] at ha;subst ha;exact FU _ rfl) (fun a ha=>by simp only [List.mem_singleton] at ha;subst ha;exact zY rfl)) fun v w3 jA hv => ?_
 obtain ⟨o,ho,X,n,c,rs,q2,rfl,hX,sr⟩:=hv;obtain ⟨e1,s,_,_,hR⟩:=rW ho;have hn:=hX.len;have hl:=hR.len;simp only [List.length_singleton] at hl;obtain rfl:n=1:=by omega
 rw [e1];replace hX:=hX.low hw.size;replace sr:=sr.low hw.size;(replace hw:=Ext.trans hw jA;replace aI:=aI.ext jA;replace hq:=hq.ext jA);clear jA hA hB rL;refine Wz ?_;refine SW.alloc rfl fun b4 w1 ae jF bd => ?_
 refine Wz ?_;refine SW.ak bd rfl rfl rfl rfl (bt q2) fun w2 dZ hg => ?_
 have ap:=ae.own jF hg;have iN:w.heap.size≤b4:=Nat.le_trans hw.size jF
 replace hw:=Ext.trans hw ap;replace aI:=aI.ext ap;replace hq:=hq.ext ap;replace sr:=sr.ext ap;replace hX:=hX.ext ap;replace bd:=dZ;clear dZ ae hg ap;have Si:=hq.words.len;rw [hF.words,List.length_replicate] at Si;refine Wz ?_;all_goals try omega
 exact ah.aY rfl rfl ⟨_,rfl,hw,rfl⟩
open Go.RowKit
theorem yJ {sz:Nat}:∀ (us:List Value) (k:Nat) (D Z:List Value),(∀ u∈us,u.cells.size=sz)→D.length=k*sz→Z.length=us.length*sz →
 Instr.fill (fun i=>some (i*sz,sz)) (D++Z).toArray ((us.zipIdx k).map fun p=>(p.2,p.1))=some (D++us.flatMap fun u=>u.cells.toList).toArray
 | [],k,D,Z,_,_,hZ=>by
   have:Z=[]:=List.eq_nil_of_length_eq_zero (by simpa using hZ)
   subst this;simp [Instr.fill]
 | u::us,k,D,Z,hu,hD,hZ=>by
   have h1:=hu u (by simp);have hl:Z.length=sz+us.length*sz:=by rw [hZ,List.length_cons,Nat.add_mul];omega
   have fold:∀ (x:Value) (off:Nat) (X:List Value),Array.foldl (fun (cs:Array Value) (p:Value×Nat)=>cs.setIfInBounds (off+p.2) p.1) X.toArray x.cells.zipIdx=(setAt X off x.cells.toList).toArray:=fun x off X=>by
    have:=nf x.cells.toList 0 off X
    rw [Nat.add_zero] at this;rw [← this,← Array.foldl_toList];simp [Array.toList_zipIdx]
   have hs:setAt (D++Z) (k*sz) u.cells.toList=D++u.cells.toList++Z.drop sz:=by
    have:=pF u.cells.toList D (Z.take sz) (Z.drop sz) (by simp [h1];omega)
    rw [List.append_assoc,List.take_append_drop,hD] at this;exact this
   simp only [List.zipIdx_cons,List.map_cons,Instr.fill];rw [if_neg (by simp [h1];omega),fold u (k*sz) (D++Z),hs,yJ us (k+1) (D++u.cells.toList) (Z.drop sz) (fun x hx=>hu x (by simp [hx])) (by simp [hD,h1,Nat.add_mul]) (by simp;omega)];simp
section
variable {α:Type} {P:Program} {n:Nat} {ops:Array Oper} {Q:Exit→Act→World→Prop} {rest:List Oper} {L:Env} {w:World} {d:Nat} {T:TypeId} {pos:String} {af:Array Edge}
theorem SW.IA {t e:TypeId} {z:Value} {sz bytes len:Nat} {enc : α → List Value} {parts:Array (Nat×Operand)} [S:bj P t e sz] [E:dj P e z sz bytes] [C:fP enc sz] (xs:List Operand) {us:List Value} (vz:List α)
 (hp:parts.toList=(xs.zipIdx 0).map fun p=>(p.2,p.1)) (hx:sc L xs=some us) (hu:us.map (fun u=>u.cells.toList)=vz.map enc) (hlen:Nat.beq len vz.length=true) (ju:Nat.blt 0 len=true) (hle:Nat.ble len 100=true) (hs:Nat.ble sz 1000=true)
 (hn:Nat.blt d n=true) (h:∀ g w',Ext w w'→w.heap.size≤g→Own w' w.heap.size e sz enc (some ⟨g,0,none⟩) len len vz→SW P n ops (.gw Q) rest ((d,.slice (some ⟨g,0,none⟩) len len)::L) w') :
 SW P n ops (.gw Q) (⟨some d,.buildSlice t len parts,T,pos,af,none⟩::rest) L w :=
 ⟨fun q hq=>by
  obtain ⟨i,hi,hz,k8,xb⟩:=dQ P e (z:=z) (sz:=sz) (bytes:=bytes);have iF:sz≤1000:=by simpa using hs
  have xo:len≤100:=by simpa using hle
  have sU : 0<len:=by simpa using ju
  have hl:len=vz.length:=Nat.eq_of_beq_eq_true hlen
  have qO : 0<sz:=E.pos
  have SE : 0<len*sz:=Nat.mul_pos sU qO
  have Cf:len*sz≤100*1000:=Nat.mul_le_mul xo iF
  have US:us.length=len:=by have:=congrArg List.length hu;simpa [hl] using this
  have UT:xs.map q.eval=us:=hq.qQ hx
  have m7:∀ u∈us,u.cells.size=sz:=fun u hm=>by
   have:u.cells.toList∈vz.map enc:=by rw [← hu];exact List.mem_map_of_mem hm
   obtain ⟨a,_,ha⟩:=List.mem_map.1 this;rw [← Array.length_toList,← ha,C.len]
  have m8:(us.flatMap fun u=>u.cells.toList)=vz.flatMap enc:=by rw [List.flatMap_def,List.flatMap_def,hu]
  simp only [swp];refine wpList_buildSlice rfl t e len _ rfl (vz.flatMap enc).toArray i z S.mB hi hz (by rw [k8];omega) (by rw [k8];omega) ?_ ?_
  ·have e1:(Array.map (fun (p:Nat×Operand)=>(p.1,q.eval p.2)) parts).toList=(us.zipIdx 0).map fun p=>(p.2,p.1):=by
    rw [Array.toList_map,hp,← UT,List.zipIdx_map,List.map_map,List.map_map]
    rfl
   have e2:∀ X:Array Value,X=([]++X.toList).toArray:=fun X=>rfl
   rw [e1,e2 (Array.map _ (Array.range _)),k8,yJ us 0 [] _ m7 (by simp) (by simp [US]),List.nil_append,m8]
  ·refine (h w.heap.size _ (Ext.alloc w _) (Nat.le_refl _) ⟨hl.symm,.inr ⟨sU,w.heap.size,_,rfl,Nat.le_refl _,aW.new w e (vz.flatMap enc),Nat.le_refl _,by simp only [maxLen];omega,by simp [aQ (enc:=enc),hl],?_⟩⟩).out _ (hq.put hn _);have:(vz.flatMap enc).length=len*sz:=by rw [aQ (enc:=enc),hl]
   exact List.take_of_length_le (Nat.le_of_eq this)⟩
end
section
variable {P:Program} {L:Env} {w:World} {d:Option Nat} {T:TypeId} {pos:String} {af:Array Edge} {g:Option (Nat×Bool)}
end
open Go.RowKit
inductive rX (l:List Int) : Int→List Int→Prop
 | nil:rX l (-1) []
 | cons {k:Nat} {out:List Int} (hk:k<l.length) (h:rX l l[k] out) : rX l k ((k:Int)::out)
theorem ef.link {l:List Int} {most x:Int} {acc:List Int} {r:Option (List Int)} (h:ef l most x acc r) : ∀ o,r=some o → ∃ out,o=acc++out∧rX l x out∧(acc.Nodup→o.Nodup)∧((acc.length:Int)≤most→(o.length:Int)≤most):=by
 induction h with
 | done out=>intro o e;cases e;exact ⟨[],by simp,.nil,fun h=>h,fun h=>h⟩
 | bad=>intro o e;cases e
 | @step k acc r h1 hk h3 h ih =>
   intro o e;obtain ⟨out,rfl,e2,e3,e4⟩:=ih o e;refine ⟨(k:Int)::out,by simp,.cons hk e2,fun hn=>e3 ?_,fun _=>e4 ?_⟩
   ·rw [List.nodup_append];exact ⟨hn,by simp,fun a ha b hb=>by simp only [List.mem_singleton] at hb;subst hb;exact fun e=>h3 (e ▸ ha)⟩
   ·simp only [List.length_append,List.length_singleton];omega
theorem rX.follows {l:List Int} {most x:Int} {out:List Int} (h:rX l x out) : ∀ acc:List Int,(acc++out).Nodup→((acc++out).length:Int)≤most→ef l most x acc (some (acc++out)):=by
 induction h with
 | nil=>intro acc _ _;rw [List.append_nil];exact .done acc
 | @cons k out hk h ih =>
   intro acc hn hl;have e:acc++(k:Int)::out=(acc++[(k:Int)])++out:=by simp
   refine .step ?_ hk ?_ ?_
   ·simp only [List.length_append,List.length_cons] at hl;omega
   ·intro hm;rw [List.nodup_append] at hn;exact hn.2.2 _ hm _ (by simp) rfl
   ·rw [e] at hn hl ⊢;exact ih _ hn hl
theorem gx {ws:List Int} {size g7:Int} {x:Slab} {out:List Int} (hp : 0≤g7) : cm ws size g7 x out↔rX ws x.cr out∧out.Nodup∧(out.length:Int)≤g7∧(out.length:Int)=x.aj ∧ ∀ a∈out,iJ size g7 x.At a=true:=by
 constructor
 ·rintro ⟨h1,h2,h3⟩
  obtain ⟨o,e,k1,k2,k3⟩:=h1.link _ rfl;rw [List.nil_append] at e;subst e;exact ⟨k1,k2 (by simp),k3 (by simpa using hp),h2,h3⟩
 ·rintro ⟨h1,h2,h3,h4,h5⟩
  exact ⟨h1.follows [] (by simpa using h2) (by simpa using h3),h4,h5⟩
theorem rX.congr {l l':List Int} {x:Int} {out:List Int} (h:rX l x out) : (∀ a∈out,0≤a→l'[a.toNat]?=l[a.toNat]?)→rX l' x out:=by
 induction h with
 | nil=>exact fun _ => .nil
 | @cons k out hk h ih =>
   intro he;have h1:=he k (by simp) (by omega);simp only [Int.toNat_natCast] at h1;rw [List.getElem?_eq_getElem hk] at h1;obtain ⟨j6,e⟩:=List.getElem?_eq_some_iff.1 h1;refine .cons j6 ?_;rw [e];exact ih fun a ha=>he a (by simp [ha])
theorem rX.head {l:List Int} {x:Int} {out:List Int} (h:rX l x out) (h0:out≠[]) : ∃ k rest,x=((k:Nat) : Int)∧out=x::rest ∧ ∃ hk:k<l.length,rX l l[k] rest:=by
 cases h with
 | nil=>exact absurd rfl h0
 | @cons k out hk h=>exact ⟨k,out,rfl,rfl,hk,h⟩
def tg (x s:Nat) : Nat→Nat→List Int
 | 0,_=>[]
 | n+1,i=>((x+i*s:Nat) : Int)::tg x s n (i+1)
theorem wX {x s:Nat}:∀ {n i:Nat} {a:Int},a∈tg x s n i ↔ ∃ j,i≤j∧j<i+n∧a=((x+j*s:Nat) : Int)
 | 0,i,a=>by simp [tg];intro j h1 h2;omega
 | n+1,i,a=>by
   simp only [tg,List.mem_cons,wX (n:=n)];constructor
   ·rintro (rfl|⟨j,h1,h2,rfl⟩)
    ·exact ⟨i,Nat.le_refl _,by omega,rfl⟩
    ·exact ⟨j,by omega,by omega,rfl⟩
   ·rintro ⟨j,h1,h2,rfl⟩
    by_cases e:j=i
    ·subst e;exact .inl rfl
    ·exact .inr ⟨j,by omega,by omega,rfl⟩
theorem wY {x s:Nat}:∀ (n i:Nat),(tg x s n i).length=n
 | 0,_=>rfl
 | n+1,i=>by simp [tg,wY n]
theorem wZ {x s:Nat} (hs : 0<s) : ∀ (n i:Nat),(tg x s n i).Nodup
 | 0,_=>by simp [tg]
 | n+1,i=>by
   simp only [tg,List.nodup_cons];refine ⟨fun h => ?_,wZ hs n (i+1)⟩;obtain ⟨j,h1,h2,e⟩:=wX.1 h;have h3:i*s<j*s:=Nat.mul_lt_mul_of_pos_right (by omega) hs
   omega
theorem yK {x s m:Nat} (hs : 0<s) {l:List Int} (hl:∀ i,i<m→x+i*s<l.length) : ∀ (n i:Nat),i+n=m→0<n→rX (jU x s m l m) ((x+i*s:Nat) : Int) (tg x s n i)
 | 0,_,_,h=>by omega
 | n+1,i,e,_=>by
   have hb:=hl i (by omega);have hlen:(jU x s m l m).length=l.length:=km x s m l m
   have lP:=ym x s m hs l i hb m (by omega);have hk:x+i*s<(jU x s m l m).length:=by omega
   rw [List.getElem?_eq_getElem hk] at lP;injection lP with lP
   simp only [tg];refine .cons hk ?_;rw [lP];by_cases h0:n=0
   ·subst h0;rw [if_neg (by omega)];exact .nil
   ·rw [if_pos (by omega)];have:=yK hs hl n (i+1) (by omega) (by omega)
    have e2:((x+(i+1)*s:Nat) : Int)=(x:Int)+((i:Int)+1)*(s:Int):=by
     simp only [Int.natCast_add,Int.natCast_mul];rfl
    rwa [e2] at this
open Go.RowKit
theorem nW {h:Heap} (hm:bp h) {a b:Block} (ha:a∈h.Live) (hb:b∈h.Live) (bW:a.At≠b.At) : a.At+pw a.Order≤b.At∨b.At+pw b.Order≤a.At:=by
 obtain ⟨z0,z1,f⟩:=fO hm;rcases Int.lt_or_le a.At (b.At+pw b.Order) with h1|h1
 ·rcases Int.lt_or_le b.At (a.At+pw a.Order) with h2|h2
  ·exfalso;obtain ⟨k,hk,rfl⟩:=List.getElem_of_mem ha;have la:=(f.live.each k hk);have lb:=f.live.all b hb;have pa:=bT la.1.1 la.1.2;have pb:=bT lb.1.1 lb.1.2
   have Rc:b∈h.Live.eraseIdx k:=by
    obtain ⟨j,hj,rfl⟩:=List.getElem_of_mem hb;have na:j≠k:=fun e=>by subst e;exact bW rfl
    rw [List.mem_eraseIdx_iff_getElem];exact ⟨j,hj,na,rfl⟩
   have h3:=f.MP (max h.Live[k].At b.At).toNat;have h4:=pL hk (max h.Live[k].At b.At).toNat;have h5:=J6 Rc (i:=(max h.Live[k].At b.At).toNat) (by have:=la.2.1;have:=lb.2.1;omega);have h6:=(nT (a:=h.Live[k].At) (o:=h.Live[k].Order) (i:=(max h.Live[k].At b.At).toNat)).2 (by have:=la.2.1;have:=lb.2.1;omega);unfold qK at h3;omega
  ·exact .inl h2
 ·exact .inr h1
theorem kI {s:ag} (hM:a9 s) {c:aF} (hc:c∈s.aa) {x:Slab} (hx:x∈c.ab) : ∃ b∈s.Heap.Live,b.At=x.At∧b.Order=c.Order:=by
 obtain ⟨b,hb,e⟩:=mY hM hc hx;refine ⟨b,hb,e,?_⟩;obtain ⟨i,hi,rfl⟩:=List.getElem_of_mem hc;obtain ⟨k,hk,rfl⟩:=List.getElem_of_mem hx;have h1:=((hM.each i hi).may.aH k hk).live;rw [← e,kH hM.heap.live hb] at h1;exact h1
theorem lq {size g7 o t a:Int} (hl:dy size=(o,g7,0)) (h:iJ size g7 t a=true) : 16*t≤a∧a<16*(t+pw o):=by
 have hp:=lg hl;unfold iJ at h;simp only [Bool.and_eq_true,decide_eq_true_eq] at h;obtain ⟨p,ep⟩ : ∃ p,g7*size=p:=⟨_,rfl⟩;rw [ep] at hp h;rcases hp with ⟨rfl,h2⟩|⟨rfl,h2⟩|⟨rfl,h2⟩
 ·have:pw 0=1:=by decide
  omega
 ·have:pw 1=2:=by decide
  omega
 ·have:pw 2=4:=by decide
  omega
def tG (c:aF) : List Int:=c.ab.map fun x=>x.At
theorem cn (cs:List aF) : aS cs=(cs.map tG).flatten:=by unfold aS;rw [List.flatMap_def];rfl
theorem tS {acc:List Int} {l:List Slab} (ha:acc.Nodup) : zB acc l↔(acc++l.map fun x=>x.At).Nodup:=by
 constructor
 ·intro h
  have key:∀ k,k≤l.length→(acc++(l.take k).map fun x=>x.At).Nodup:=by
   intro k;induction k with
   | zero=>intro _;simpa using ha
   | succ k ih =>
     intro hk;rw [List.take_succ_eq_append_getElem (by omega),List.map_append,← List.append_assoc,List.nodup_append];refine ⟨ih (by omega),by simp,fun a ha b hb => ?_⟩;simp only [List.map_cons,List.map_nil,List.mem_singleton] at hb;subst hb;exact fun e=>h k (by omega) (e ▸ ha)
  have:=key _ (Nat.le_refl _)
  rwa [List.take_length] at this
 ·intro h k hk hm;have e:l=l.take k++l[k]::l.drop (k+1):=by simp
  rw [e,List.map_append,← List.append_assoc,List.nodup_append] at h;exact h.2.2 _ hm _ (by rw [List.map_cons];exact List.mem_cons_self) rfl
theorem kJ {s:ag}:(∀ (i:Nat) (h:i<s.aa.length),zB (aS (s.aa.take i)) s.aa[i].ab)↔(aS s.aa).Nodup:=by
 have step:∀ i (h:i<s.aa.length),aS (s.aa.take (i+1))=aS (s.aa.take i)++s.aa[i].ab.map fun x=>x.At:=fun i h=>by
  unfold aS;rw [List.take_succ_eq_append_getElem h,List.flatMap_append];simp
 constructor
 ·intro h
  have key:∀ k,k≤s.aa.length→(aS (s.aa.take k)).Nodup:=by
   intro k;induction k with
   | zero=>intro _;simp [aS]
   | succ k ih =>
     intro hk;rw [step k (by omega)];exact (tS (ih (by omega))).1 (h k (by omega))
  have:=key _ (Nat.le_refl _)
  rwa [List.take_length] at this
 ·intro h i hi
  have lQ:∀ k,(aS (s.aa.take k)).Nodup:=fun k=>by
   have e:aS s.aa=aS (s.aa.take k)++aS (s.aa.drop k):=by
    unfold aS;rw [← List.flatMap_append,List.take_append_drop]
   rw [e,List.nodup_append] at h;exact h.1
  refine (tS (lQ i)).2 ?_;rw [← step i hi];exact lQ (i+1)
theorem rY {s t:ag} {i:Nat} {c':aF} (hM:a9 s) (hi:i<s.aa.length) (hw:t.Words.length=4096) (hh:bp t.Heap) (hc:t.aa=s.aa.set i c') (h1:c'.Names=s.aa[i].Names) (h2:c'.aE=s.aa[i].aE)
 (hm:dP t c') (ho:∀ c∈s.aa,(∃ j,∃ hj:j<s.aa.length,j≠i∧c=s.aa[j])→dP t c) (hn:(aS t.aa).Nodup) : a9 t:=by
 have hlen:t.aa.length=s.aa.length:=by rw [hc,List.length_set]
 have j2:∀ (j:Nat) (hj:j<t.aa.length),t.aa[j]=if i=j then c' else s.aa[j]'(by omega):=fun j hj=>by
  have:t.aa[j]=(s.aa.set i c')[j]'(by rw [List.length_set];omega):=by congr 1
  rw [this,List.getElem_set]
 have MS:∀ j,cT (t.aa.take j)=cT (s.aa.take j):=fun j=>by
  have e:t.aa.map (fun c=>c.Names)=s.aa.map fun c=>c.Names:=by
   rw [hc,List.map_set];refine List.ext_getElem (by simp) fun k g1 g2 => ?_
   rw [List.getElem_set];split
   ·rename_i e;subst e;rw [h1];simp
   ·rfl
  unfold cT;rw [List.flatMap_def,List.flatMap_def,List.map_take,List.map_take,e]
 refine ⟨hw,hh,by rw [hlen];exact hM.most,fun j hj => ?_⟩;have Pz:j<s.aa.length:=by omega
 have hC:=hM.each j Pz
 have SH:∀ (k:Nat) (hk:k<t.aa.length),t.aa[k].aE=(s.aa[k]'(by omega)).aE:=fun k hk=>by
  rw [j2 k hk];split
  ·rename_i e;subst e;exact h2
  ·rfl
 refine ⟨?_,fun k hk => ?_,?_,kJ.2 hn j hj⟩
 ·rw [j2 j hj];split
  ·exact hm
  ·rename_i e;exact ho _ (List.getElem_mem Pz) ⟨j,Pz,fun h=>e h.symm,rfl⟩
 ·rw [SH j hj,SH k (by omega)];exact hC.size k hk
 ·rw [MS,j2 j hj];split
  ·rename_i e;subst e;rw [h1];exact hC.names
  ·exact hC.names
end Go.Proofs.YtbidkghlpijecaaGreatDoor
