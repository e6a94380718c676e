/-
  Texts of the claim TopProcessors, part 15: what its theorem leans on.
-/
import Derived.Test.YtbidkghlpijecaaGreatDoorPackTopProcessors14
import Derived.Test.YtbidkghlpijecaaGreatDoorPackTopProcessors5
import Derived.Test.YtbidkghlpijecaaGreatDoorPackTopProcessors3
import Derived.Test.YtbidkghlpijecaaGreatDoorPackTopProcessors2
import Derived.Test.YtbidkghlpijecaaGreatDoorPackTopProcessors8
import Derived.Test.YtbidkghlpijecaaGreatDoorPackTopProcessors11
import Derived.Test.YtbidkghlpijecaaGreatDoorPackTopProcessors12
import Derived.Test.YtbidkghlpijecaaGreatDoorPackTopProcessors7
import Derived.Test.YtbidkghlpijecaaGreatDoorPackTopProcessors13
set_option linter.unusedVariables false
set_option linter.unusedSimpArgs false
namespace Go.Proofs.YtbidkghlpijecaaGreatDoor
theorem wi {L:List ay} {y:ay} (hs:AP L) (hk:cK L y=false) : AP (aN L (bg L y) y):=by
 have h0:=hs;unfold AP at h0 ⊢;rw [← List.take_append_drop (bg L y) L,List.pairwise_append] at h0;obtain ⟨h1,h2,h3⟩:=h0
 have hT:∀ z∈L.take (bg L y),bZ z y:=fun z hz=>by
  obtain ⟨j,hj,rfl⟩:=List.getElem_of_mem hz;rw [List.length_take] at hj;rw [List.getElem_take];exact vJ (by omega)
 have hD:∀ z∈L.drop (bg L y),bZ y z:=fun z hz=>by
  obtain ⟨j,hj,rfl⟩:=List.getElem_of_mem hz;rw [List.length_drop] at hj;rw [List.getElem_drop];have h:=Jm hk (by omega);rcases Nat.eq_zero_or_pos j with rfl|Km
  ·exact h
  ·exact tB h (hs.get (show bg L y+j<L.length by omega) (by omega))
 unfold aN;rw [List.append_assoc,List.pairwise_append];refine ⟨h1,?_,fun a ha b hb => ?_⟩
 ·rw [List.singleton_append,List.pairwise_cons];exact ⟨hD,h2⟩
 ·rw [List.singleton_append,List.mem_cons] at hb;rcases hb with rfl|hb
  ·exact hT a ha
  ·exact h3 a ha b hb
section
variable {L:List ay} {x:ay} {pg:List Int}
theorem nJ:fZ x (dX x pg):=⟨rfl,rfl,rfl⟩
theorem kj:iE L x []=L:=by simp [iE]
theorem mR (hk:cK L x=false) (hp:pg≠[]) : iE L x pg=aN L (bg L (dX x pg)) (dX x pg):=by
 rw [iE,if_neg hp,oN (by rw [← (iP (L:=L) (nJ (x:=x) (pg:=pg))).2];exact hk)]
theorem zI (hs:AP L) (hk:cK L x=false) : AP (iE L x pg):=by
 by_cases hp:pg=[]
 ·subst hp;rw [kj];exact hs
 ·rw [mR hk hp];exact wi hs (by rw [← (iP (L:=L) (nJ (x:=x) (pg:=pg))).2];exact hk)
theorem yj (hk:cK L x=false) : ∀ l∈iE L x pg,l∈L∨l=dX x pg:=fun l hl=>by
 by_cases hp:pg=[]
 ·subst hp;rw [kj] at hl;exact .inl hl
 ·rw [mR hk hp] at hl;unfold aN at hl;rw [List.mem_append,List.mem_append,List.mem_singleton] at hl;rcases hl with (hl|hl)|hl
  ·exact .inl (List.mem_of_mem_take hl)
  ·exact .inr hl
  ·exact .inl (List.mem_of_mem_drop hl)
theorem yl (hk:cK L x=false) : (iE L x pg).length≤L.length+1:=by
 by_cases hp:pg=[]
 ·subst hp;rw [kj];omega
 ·rw [mR hk hp,cf _ (lf _ _)];omega
theorem C8 (hk:cK L x=false) (a:Int) : fQ (iE L x pg) ⟨x.fT,x.ao,x.Ty,cd (iE L x pg) x++[a]⟩=iE L x (pg++[a]):=by
 have bW:pg++[a]≠[]:=by simp
 by_cases hp:pg=[]
 ·subst hp;rw [kj,ln hk,iE,if_neg bW];rfl
 ·have e:iE L x pg=fQ L (dX x pg):=by rw [iE,if_neg hp]
  obtain ⟨e1,e2⟩:=iP (L:=fQ L (dX x pg)) (nJ (x:=x) (pg:=pg));obtain ⟨e3,e4⟩:=AQ (L:=L) (x:=dX x pg);obtain ⟨dL,j2⟩:=List.getElem?_eq_some_iff.1 (vL (L:=L) (x:=dX x pg))
  have TV:cd (fQ L (dX x pg)) x=pg:=by
   rw [fM (by rw [e2];exact e4) (by rw [e1,e3];exact dL)];simp only [e1,e3,j2]
   rfl
  rw [e,TV,iE,if_neg bW];have qC:fZ (dX x pg) (⟨x.fT,x.ao,x.Ty,pg++[a]⟩ : ay):=⟨rfl,rfl,rfl⟩
  obtain ⟨e5,e6⟩:=iP (L:=fQ L (dX x pg)) qC;rw [oM (by rw [← e6];exact e4),← e5,e3];exact AR qC
end
theorem HI {x:ay} {L:List ay} {pg:List Int} (h : 1<pg.length) : sW L x pg=L.set (bg L x) (dX x pg.dropLast):=by rw [sW,if_neg (by omega)]
theorem C9 {x:ay} {L:List ay} {pg:List Int} (h:pg.length=1) : sW L x pg=L.eraseIdx (bg L x):=by rw [sW,if_pos (by omega)]
theorem Da {l:List Int} (h:l≠[]) {i:Nat} (hi:i<l.length) (e:i=l.length-1) : l.getLast h=l[i]:=by
 subst e;rw [List.getLast_eq_getElem]
theorem gq.uQ {h:Heap} {z0 z1:ao} (f:gq h z0 z1) {a:Int} {i:Nat} (ha:a=(i:Int)) (hc:dx (z0.aj++z1.aj++aR h.au) i=true) : ∀ b∈h.Live,b.At≠a:=fun b hb e=>by
 obtain ⟨l,m,e1⟩:=List.append_of_mem hb;have fk:=f.all;rw [e1,← List.append_assoc] at fk;have hf:=nw fk;obtain ⟨j,hj,rfl⟩:=List.getElem_of_mem hb;have R6:=(f.live.each j hj).1;have hp:=bT R6.1 R6.2;obtain ⟨_,_,ho⟩:=hf;unfold dx at hc;rw [List.any_eq_true] at hc;obtain ⟨y,hy,Oj⟩:=hc;unfold nb at Oj;rw [Bool.and_eq_true,decide_eq_true_eq,decide_eq_true_eq] at Oj
 have:iC (z0.aj++z1.aj++aR h.au++l) h.Live[j].At h.Live[j].Order=true:=by
  unfold iC;rw [List.any_eq_true];refine ⟨y,List.mem_append_left _ hy,?_⟩;rw [Bool.and_eq_true,decide_eq_true_eq,decide_eq_true_eq];omega
 rw [ho] at this;cases this
theorem rI {z:ao} (hz:bD z) {x:Block} (hx:x∈z.aj) : ∃ i:Nat,x.At=(i:Int)∧i<256∧dx z.aj i=true:=by
 obtain ⟨j,hj,rfl⟩:=List.getElem_of_mem hx;have h1:=(hz.dD j hj).1;have h2:=hz.ok;obtain ⟨o1,o2,o3,o4,o5⟩:=h2;have hp:=bT h1.1 h1.2.1;obtain ⟨b1,b2,b3,b4,b5⟩:=h1;refine ⟨z.aj[j].At.toNat,by omega,by omega,?_⟩;unfold dx;rw [List.any_eq_true];refine ⟨_,hx,?_⟩;unfold nb;rw [Bool.and_eq_true,decide_eq_true_eq,decide_eq_true_eq];omega
theorem pH {h:Heap} {z0 z1:ao} (f:gq h z0 z1) {a:Int} (ha:wh (z0,z1) h.au a) : ∃ i:Nat,a=(i:Int)∧i<256∧dx (z0.aj++z1.aj++aR h.au) i=true:=by
 rcases ha with ⟨x,hx,rfl⟩|⟨x,hx,rfl⟩|⟨l,hl,hp⟩
 ·obtain ⟨i,h1,h2,h3⟩:=rI f.d.kf hx;exact ⟨i,h1,h2,by rw [fY,fY,h3];rfl⟩
 ·obtain ⟨i,h1,h2,h3⟩:=rI f.d.j3 hx;exact ⟨i,h1,h2,by rw [fY,fY,h3];simp⟩
 ·have hm:bL a∈aR h.au:=by
   unfold aR;rw [List.mem_flatMap];exact ⟨l,hl,List.mem_map_of_mem hp⟩
  obtain ⟨j,hj,e⟩:=List.getElem_of_mem hm;have hN:=f.d.next hj;rw [e] at hN;have h1:=hN.at_;simp only [bL] at h1;refine ⟨a.toNat,by omega,by omega,?_⟩;rw [fY]
  have:dx (aR h.au) a.toNat=true:=by
   unfold dx;rw [List.any_eq_true];refine ⟨_,hm,?_⟩;unfold nb;rw [Bool.and_eq_true,decide_eq_true_eq,decide_eq_true_eq];have:pw 0=1:=by decide
   change a≤_∧_<a+pw 0
   omega
  rw [this];simp
theorem eJ {h:Heap} {z0 z1:ao} (d:lF h z0 z1) : nv (bE (z0,z1) (aR h.au)) (z0.aj++z1.aj++aR h.au):=by
 have:=d.inv (aR h.au).length (Nat.le_refl _)
 rwa [List.take_length] at this
theorem nK {h:Heap} {z0 z1:ao} (f:gq h z0 z1) {a:Int} (ha:wh (bE (z0,z1) (aR h.au)) [] a) : ∃ i:Nat,a=(i:Int)∧i<256∧dx (z0.aj++z1.aj++aR h.au) i=true:=by
 have hD:=eJ f.d;rcases ha with ⟨x,hx,rfl⟩|⟨x,hx,rfl⟩|⟨l,hl,hp⟩
 ·obtain ⟨i,h1,h2,h3⟩:=rI hD.kf hx;exact ⟨i,h1,h2,by rw [← hD.Ea,h3];rfl⟩
 ·obtain ⟨i,h1,h2,h3⟩:=rI hD.j3 hx;exact ⟨i,h1,h2,by rw [← hD.Ea,h3];simp⟩
 ·simp at hl
theorem Bq {h:Heap} {z0 z1:ao} (f:gq h z0 z1) : h.Live.length≤256:=by
 have hu:=jO f.live;rw [List.pairwise_iff_getElem] at hu
 have key:∀ (i:Nat) (hi:i<h.Live.length),(i:Int)≤h.Live[i].At:=by
  intro i;induction i with
  | zero=>intro hi;have:=(f.next hi).at_;exact this.1
  | succ i ih=>intro hi;have h1:=ih (by omega);have h2:=hu i (i+1) (by omega) hi (by omega);omega
 rcases Nat.lt_or_ge 256 h.Live.length with h1|h1
 ·have h2:=key 256 h1;have h3:=(f.next h1).at_;omega
 ·exact h1
open Go.RowKit
theorem iw.lists {m0 m1 cpu zi o t f:Int} {s:ao×ao} {L:List ay} {r:(ao×ao)×List ay×Int} (h:iw m0 m1 cpu zi o t f s L (some r)) (hv:VS s) (hL:∀ l∈L,l.av.length≤8) : r.2.1.length≤L.length+1 ∧ ∀ l∈r.2.1,l.av.length≤8:=by
 cases h with
 | list ho hk hp =>
   obtain ⟨hl,_⟩:=iu hk;have e:=fM hk hl;have h8:=hL _ (List.getElem_mem hl);rw [← e] at h8;simp only;unfold sW;split
   ·exact ⟨by have:=List.length_eraseIdx_le L (bg L ⟨cpu,zi,t,[]⟩);omega,fun l hl=>hL l (List.mem_of_mem_eraseIdx hl)⟩
   ·refine ⟨by rw [List.length_set];omega,fun l hl => ?_⟩;rcases List.mem_or_eq_of_mem_set hl with h1|rfl
    ·exact hL l h1
    ·simp only [dX,List.length_dropLast];omega
 | uJ ho he ht hu=>exact ⟨by simp only;omega,hL⟩
 | @fill u r' ho hk he ht hu hr =>
   have h3:=(hr.vs (hv.pR (ht.qw hu).1)).2
   exact ⟨yl hk,fun l hl=>by
    rcases yj hk l hl with h1|rfl
    ·exact hL l h1
    ·simp only [dX];omega⟩
theorem kR.lists {m0 m1 cpu o t f:Int} {s:ao×ao} {L:List ay} {r:(ao×ao)×List ay×Int} (h:kR m0 m1 cpu o t f s L (some r)) (hv:VS s) (hL:∀ l∈L,l.av.length≤8) : r.2.1.length≤L.length+1 ∧ ∀ l∈r.2.1,l.av.length≤8:=by
 cases h with
 | tZ _ h=>exact h.lists hv hL
 | low _ h=>exact h.lists hv hL
theorem ct.small {h:Heap} {cpu o f:Int} {u:Heap×Int×Int} (a:ct h cpu o f u) (hs:h.small) : u.1.small:=by
 have hz:(Heap.zero).small:=by constructor<;>simp [Heap.zero]
 have key:∀ (z0 z1:ao) (F:gq h z0 z1) (s:ao×ao) (L:List ay) (x:Int) (t:Int),VS s→L.length≤257→(∀ l∈L,l.av.length≤8)→(kT h s L (dK h x o t)).small:=fun z0 z1 F s L x t hv h1 h2=>by
  have R4:=iO hv.kf;have xo:=iO hv.j3;have pp:=Bq F
  have Kv:(dK h x o t).length≤257:=by
   unfold dK;have vA:bi h.Live x≤h.Live.length:=List.findIdx_le_length
   rw [cf _ vA];omega
  refine ⟨by simp [kT],hs.dA,?_,?_,fun z hz => ?_,fun l hl => ?_⟩
  ·simp only [kT];omega
  ·simp only [kT];omega
  ·simp only [kT,List.mem_cons,List.not_mem_nil,or_false] at hz;rcases hz with rfl|rfl
   ·omega
   ·omega
  ·have:=h2 l hl;omega
 cases a with
 | bad|range|form|room=>exact hz
 | once hb hr ht hz ha =>
   obtain ⟨z0,z1,F⟩:=fO (cG.1 hb);rw [F.d.cj] at hz;simp only [List.cons.injEq,and_true] at hz;obtain ⟨rfl,rfl⟩:=hz;have hv:=F.d.start.vs;obtain ⟨g1,g2⟩:=ha.lists hv (fun l hl=>(F.lists l hl).2);have:=F.count
   exact key _ _ F _ _ _ _ (ha.found hv).1 (by omega) g2
 | fA hb hr ht hz ha h2 =>
   obtain ⟨z0,z1,F⟩:=fO (cG.1 hb);rw [F.d.cj] at hz;simp only [List.cons.injEq,and_true] at hz;obtain ⟨rfl,rfl⟩:=hz;have hv:=(eJ F.d).vs;obtain ⟨g1,g2⟩:=h2.lists hv (fun l hl=>by simp at hl);simp only [List.length_nil] at g1;exact key _ _ F _ _ _ _ (h2.found hv).1 (by omega) g2
theorem ct.at_ {h:Heap} {cpu o f:Int} {u:Heap×Int×Int} (a:ct h cpu o f u) (he:u.2.2=0) : 0≤u.2.1∧u.2.1<256:=by
 cases a with
 | bad|range|form|room=>simp at he
 | once hb hr ht hz ha =>
   obtain ⟨z0,z1,F⟩:=fO (cG.1 hb);rw [F.d.cj] at hz;simp only [List.cons.injEq,and_true] at hz;obtain ⟨rfl,rfl⟩:=hz;obtain ⟨i,e,h1,_⟩:=pH F (ha.found F.d.start.vs).2;simp only at e ⊢;omega
 | fA hb hr ht hz ha h2 =>
   obtain ⟨z0,z1,F⟩:=fO (cG.1 hb);rw [F.d.cj] at hz;simp only [List.cons.injEq,and_true] at hz;obtain ⟨rfl,rfl⟩:=hz;obtain ⟨i,e,h1,_⟩:=nK F (h2.found (eJ F.d).vs).2;simp only at e ⊢;omega
open Go.RowKit
def jU (a s m:Nat) (l:List Int) : Nat→List Int
 | 0=>l
 | k+1=>(jU a s m l k).set (a+k*s) (if k+1<m then (a:Int)+((k:Int)+1)*s else -1)
def nL (lo n:Nat) (l:List Int) (x s m:Int) (v:Value) (w:World) : Prop :=
 if 1≤s∧s≤64∧1≤m∧m≤n∧0≤x∧x+s*m≤n then ∃ A c,v = .tuple #[.slice A n c,.int .i64 0]∧Own w lo 3 1 bK A n c (jU x.toNat s.toNat m.toNat l m.toNat)
 else v = .tuple #[.slice none 0 0,.int .i64 1]
theorem Db {s m n:Nat} (hs:s≤64) (hm:m≤n) : 0≤(s:Int)*m∧(s:Int)*m≤64*n:=by
 have h:s*m≤64*n:=Nat.mul_le_mul hs hm
 exact ⟨by omega,by omega⟩
theorem zJ {s m k:Nat} (hk:k<m) : 0≤(k:Int)*s∧((k:Int)+1)*s=(k:Int)*s+s∧(k:Int)*s+s≤(s:Int)*m∧(s:Int)*k=(k:Int)*s:=by
 have h:(k+1)*s≤m*s:=Nat.mul_le_mul_right _ hk
 have e:((k:Int)+1)*s=(k:Int)*s+s:=by rw [Int.add_mul,Int.one_mul]
 have e2:(s:Int)*m=(m:Int)*s:=Int.mul_comm _ _
 rw [Nat.add_mul,Nat.one_mul] at h;refine ⟨by omega,e,by rw [e2];omega,Int.mul_comm _ _⟩
theorem pI (A:Option Addr) (n c:Nat) (l:List Int) (x s m:Int) (w:World) (hl:Sl w 1 bK A n l) (hn:n*8≤140737488355328) :
 bq Tryz.prog 262 [.slice A n c,.int .i64 x,.int .i64 s,.int .i64 m] w (nL w.heap.size n l x s m):=by
 refine aG Tryz.func262 rfl Tryz.ntmps262 rfl ?_;have hw:=Ext.refl w;have p7:n≤2305843009213693952:=by omega
 by_cases h1 : 1≤s∧s≤64
 ·by_cases h2 : 1≤m∧m≤n
  ·obtain ⟨s,rfl⟩:=Int.eq_ofNat_of_zero_le (a:=s) (by omega);obtain ⟨m,rfl⟩:=Int.eq_ofNat_of_zero_le (a:=m) (by omega);have hb:=Db (s:=s) (m:=m) (n:=n) (by omega) (by omega);by_cases h3 : 0≤x∧x+(s:Int)*m≤n
   ·obtain ⟨a,rfl⟩:=Int.eq_ofNat_of_zero_le h3.1;repeat' (first|refine Wz ?_|(refine SW.call rfl rfl (vp _ _ _ _ _ _ p7) ?_;intro v w1 ae hv;subst hv;replace hw:=Ext.trans hw ae;clear ae))
    refine SW.call rfl rfl (dw _ _ _ _ _ (hl.ext hw) hn) fun v w1 ae hv => ?_
    obtain ⟨A1,c1,rfl,hO⟩:=hv;have gB:=hw.size;replace hw:=Ext.trans hw ae;replace hO:=Own.low hO gB;have Gh:=hO.sl.base;refine Wz ?_
    refine CW.loop (fun k:Nat=>[(0,.slice A n c),(1,.int .i64 (a:Int)),(2,.int .i64 (s:Int)),(3,.int .i64 (m:Int)),(10,.slice A1 n c1),(40,.int .i64 (m:Int)),(41,.int .i64 (k:Int))])
     (fun k w'=>k≤m∧Ext w w'∧Own w' w.heap.size 3 1 bK A1 n c1 (jU a s m l k)) (fun k=>m-k) 0 ⟨rfl,rfl,rfl,rfl,rfl,rfl,rfl,trivial⟩ ⟨by omega,hw,hO⟩ ?_
    clear hw hO;rintro k w' ⟨hk,hw,hO⟩
    by_cases Gz:k<m
    ·have hr:=zJ (s:=s) Gz;have hp:a+k*s<n:=by omega
     by_cases Eo:k+1<m
     all_goals
      refine Wz ?_;refine SW.oB (a+k*s) hO rfl rfl hp fun w2 cJ hg => ?_
      replace hw:=aO hw hg (Nat.le_refl _) hO.bc;refine Wz ?_;refine ah.again (k+1) ⟨rfl,rfl,rfl,rfl,rfl,rfl,rfl,trivial⟩ (by omega) ⟨by omega,hw,?_⟩;simp only [jU]
     ·rw [if_pos Eo];exact cJ
     ·rw [if_neg Eo];exact cJ
    ·refine Wz ?_;obtain rfl:k=m:=by omega
     refine ah.cb rfl rfl rfl ⟨_,rfl,hw,?_⟩;unfold nL;rw [if_pos (by omega)];exact ⟨A1,c1,rfl,hO⟩
   ·repeat' (first|refine Wz ?_|(refine SW.call rfl rfl (vp _ _ _ _ _ _ p7) ?_;intro v w1 ae hv;subst hv;replace hw:=Ext.trans hw ae;clear ae))
    all_goals refine ah.cb rfl rfl rfl ⟨_,rfl,hw,?_⟩
    all_goals unfold nL
    all_goals rw [if_neg (by omega)]
  ·repeat' (first|refine Wz ?_|refine SW.cw rfl rfl rfl (fun h => ?_) (fun h => ?_))
   all_goals refine ah.cb rfl rfl rfl ⟨_,rfl,hw,?_⟩
   all_goals unfold nL
   all_goals rw [if_neg (by omega)]
 ·repeat' (first|refine Wz ?_|refine SW.cw rfl rfl rfl (fun h => ?_) (fun h => ?_))
  all_goals refine ah.cb rfl rfl rfl ⟨_,rfl,hw,?_⟩
  all_goals unfold nL
  all_goals rw [if_neg (by omega)]
open Go.RowKit
inductive kk (ws:List Int) (size g7 t:Int) : Int→Nat→Prop where
 | zero (x:Int) : kk ws size g7 t x 0
 | succ {k n:Nat} (hk:k<ws.length) (ho:iJ size g7 t k=true) (h:kk ws size g7 t ws[k] n) : kk ws size g7 t k (n+1)
theorem kk.FF {ws:List Int} {most size g7 t x:Int} {acc:List Int} {r:Option (List Int)} (h:ef ws most x acc r) : ∀ out,r=some out→(∀ a∈out,iJ size g7 t a=true)→kk ws size g7 t x (out.length-acc.length):=by
 induction h with
 | done out =>
   intro o e _;cases e
   rw [Nat.sub_self];exact .zero _
 | bad=>intro o e;cases e
 | @step k acc r h1 hk h3 h ih =>
   intro o e ho;have h2:=ih o e ho
   have hm:∀ {x':Int} {JJ:List Int} {r':Option (List Int)},ef ws most x' JJ r' → ∀ o',r'=some o'→(∀ a∈JJ,a∈o')∧JJ.length≤o'.length:=by
    intro x' JJ r' hf;induction hf with
    | done out=>intro o' e';cases e';exact ⟨fun a h=>h,Nat.le_refl _⟩
    | bad=>intro o' e';cases e'
    | step _ _ _ _ O9 =>
      intro o' e';obtain ⟨a1,a2⟩:=O9 o' e';rw [List.length_append] at a2;exact ⟨fun a h=>a1 a (List.mem_append_left _ h),by omega⟩
   obtain ⟨a1,a2⟩:=hm h o e;rw [List.length_append,List.length_singleton] at a2 h2;have e2:o.length-acc.length=(o.length-(acc.length+1))+1:=by omega
   rw [e2];exact .succ hk (ho _ (a1 _ (by simp))) h2
theorem kk.JK {ws:List Int} {size g7:Int} {x:Slab} {out:List Int} (h:cm ws size g7 x out) : kk ws size g7 x.At x.cr x.aj.toNat:=by
 have h1:=kk.FF (t:=x.At) h.1 out rfl h.2.2;have h2:=h.2.1;have e:out.length-([] : List Int).length=x.aj.toNat:=by simp;omega
 rw [e] at h1;exact h1
theorem kk.head {ws:List Int} {size g7 t x:Int} {n:Nat} (h:kk ws size g7 t x (n+1)) : (0≤x∧x<(ws.length:Int))∧kk ws size g7 t (ws.getD x.toNat 0) n:=by
 cases h with
 | @succ k n hk ho h =>
   refine ⟨by omega,?_⟩;have e:ws.getD ((k:Int)).toNat 0=ws[k]:=by simp [hk]
   rw [e];exact h
theorem km (a s m:Nat) (l:List Int) : ∀ k,(jU a s m l k).length=l.length
 | 0=>rfl
 | k+1=>by simp only [jU,List.length_set];exact km a s m l k
theorem rJ (a s m:Nat) (l:List Int) (j:Nat) : ∀ (k:Nat),(∀ i,i<k→j≠a+i*s)→(jU a s m l k)[j]?=l[j]?
 | 0,_=>rfl
 | k+1,h=>by
   simp only [jU];rw [List.getElem?_set,if_neg (fun e=>h k (by omega) e.symm)];exact rJ a s m l j k (fun i hi=>h i (by omega))
theorem ym (a s m:Nat) (hs : 0<s) (l:List Int) (i:Nat) (hl:a+i*s<l.length) : ∀ (k:Nat),i<k→(jU a s m l k)[a+i*s]?=some (if i+1<m then (a:Int)+((i:Int)+1)*s else -1)
 | 0,h=>by omega
 | k+1,h=>by
   simp only [jU];rw [List.getElem?_set];by_cases e:k=i
   ·subst e;rw [if_pos rfl,if_pos (by rw [km];exact hl)]
   ·have bW:a+k*s≠a+i*s:=fun h0=>by
     have:=Nat.eq_of_mul_eq_mul_right hs (Nat.add_left_cancel h0)
     exact e this
    rw [if_neg bW];exact ym a s m hs l i hl k (by omega)
structure TW (ws:List Int) (lv:List Block) (c:aF) (x:Slab) : Prop where
 at_ : 0≤x.At∧x.At≤255
 al:x.At % pw c.Order=0
 live:∃ b∈lv,b.At=x.At
 free : 0≤x.aj∧x.aj≤64
 walk:kk ws c.aE c.bG x.At x.cr x.aj.toNat
structure wj (s:ag) (c:aF) : Prop where
 words:s.Words.length=4096
 most:s.aa.length≤20
 lay:dy c.aE=(c.Order,c.bG,0)
 rr:∀ (k:Nat) (h:k<c.ar.length),c.ar[k] = -1∨c.ab.any (xg c.ar[k])=true
 next:c.ab.Pairwise fun x y=>x.At<y.At
 FG:∀ x∈c.ab,TW s.Words s.Heap.Live c x
theorem wj.of {s:ag} (hM:a9 s) {i:Nat} (hi:i<s.aa.length) : wj s s.aa[i]:=by
 have hc:=(hM.each i hi).may;have hl:=db hc.lay;refine ⟨hM.words,hM.most,hc.lay,fun k h => ?_,?_,fun x hx => ?_⟩
 ·rcases hc.rr k h with g|⟨_,g⟩
  ·exact .inl g
  ·exact .inr g
 ·rw [List.pairwise_iff_getElem]
  have key:∀ (a b:Nat) (ha:a<s.aa[i].ab.length) (hb:b<s.aa[i].ab.length),a<b→s.aa[i].ab[a].At<s.aa[i].ab[b].At:=by
   intro a b;induction b with
   | zero=>intro _ _ h;omega
   | succ b ih =>
     intro ha hb h;have h2:=(hc.aH (b+1) hb).next (by omega);simp only [Nat.add_sub_cancel] at h2;by_cases e:a=b
     ·subst e;exact h2
     ·have:=ih ha (by omega) (by omega);omega
  exact key
 ·obtain ⟨k,hk,rfl⟩:=List.getElem_of_mem hx;have hs:=hc.aH k hk;obtain ⟨out,h⟩:=hs.chain;obtain ⟨hf,h3⟩:=hs.at_ hM.heap hl.2.1.1;obtain ⟨j6,e⟩:=ib hf;obtain ⟨g1,g2,g3,_⟩:=hM.heap.live.each _ j6;have qi:=hs.live;rw [vS hf j6] at qi;rw [e,qi] at g3;have h4:=h.1.KG (by simp;omega) out rfl;have h5:=h.2.1;exact ⟨h3,g3,⟨_,List.getElem_mem j6,e⟩,by omega,.JK h⟩
open Go.RowKit
def tL (c:aF) (x:Slab) : Bool:=decide (0<x.aj) && !decide (x.At∈c.ar)
def zK (c:aF) (cpu:Nat) : Int:=idxOf (xg (c.ar.getD cpu 0)) c.ab
def iV (c:aF) (k:Nat) : Slab:=c.ab.getD k ⟨0,0,0⟩
theorem ew {c:aF} {k:Nat} (h:k<c.ab.length) : iV c k=c.ab[k]:=by simp [iV,h]
def k6 (c:aF) (cpu:Nat) : Int:=if 0≤zK c cpu∧0<(iV c (zK c cpu).toNat).aj then zK c cpu else idxOf (tL c) c.ab
def dp (c:aF) (cpu k:Nat) (v:Int) : aF:=⟨c.Names,c.aE,c.bG,c.Order,c.ab.set k ⟨(iV c k).At,(iV c k).aj-1,v⟩,c.ar.set cpu (iV c k).At⟩
def dT (c:aF) (a:Int) : Nat:=(c.ab.takeWhile fun x=>decide (x.At<a)).length
theorem mi (c:aF) (a:Int) : dT c a≤c.ab.length:=(List.takeWhile_sublist _).length_le
def dz (c:aF) (a:Int) : aF:=⟨c.Names,c.aE,c.bG,c.Order,aN c.ab (dT c a) ⟨a,c.bG,16*a⟩,c.ar⟩
def kU (s:ag) (l:List Int) : ag:=⟨l,s.Heap,s.aa⟩
def gi (n:Nat) (x s m:Int) : Prop:=1≤s∧s≤64∧1≤m∧m≤n∧0≤x∧x+s*m≤n
def er (l:List Int) (x s m:Int) : List Int:=jU x.toNat s.toNat m.toNat l m.toNat
structure Mg where
 ws:List Int
 h:Heap
 c:aF
 k:Nat
inductive qF (s:ag) (c:aF) (cpu:Nat) : Option Mg×Int→Prop where
 | uM {k:Nat} (h:k6 c cpu=k) : qF s c cpu (some ⟨s.Words,s.Heap,c,k⟩,0)
 | room {u:Heap×Int×Int} (h:k6 c cpu<0) (ha:ct s.Heap (cpu:Int) c.Order 0 u) (he:u.2.2≠0) : qF s c cpu (none,u.2.2)
 | chain {u:Heap×Int×Int} (h:k6 c cpu<0) (ha:ct s.Heap (cpu:Int) c.Order 0 u) (he:u.2.2=0) (hc : ¬ gi s.Words.length (16*u.2.1) c.aE c.bG) : qF s c cpu (none,1)
 | new {u:Heap×Int×Int} (h:k6 c cpu<0) (ha:ct s.Heap (cpu:Int) c.Order 0 u) (he:u.2.2=0) (hc:gi s.Words.length (16*u.2.1) c.aE c.bG) : qF s c cpu (some ⟨er s.Words (16*u.2.1) c.aE c.bG,u.1,dz c u.2.1,dT c u.2.1⟩,0)
theorem qF.ir {s:ag} {c:aF} {cpu:Nat} {u v:Option Mg×Int} (x:qF s c cpu u) (y:qF s c cpu v) : u=v:=by
 cases x with
 | @uM k h=>cases y with
   | @uM j h' =>
     obtain rfl:k=j:=by omega
     rfl
   | room h'|chain h'|new h'=>omega
 | room h ha he=>cases y with
   | uM h'=>omega
   | room h' iY nZ=>rw [ha.ir iY]
   | chain h' iY nZ|new h' iY nZ=>exact absurd (by rw [ha.ir iY];exact nZ) he
 | chain h ha he hc=>cases y with
   | uM h'=>omega
   | room h' iY nZ=>exact absurd (by rw [iY.ir ha];exact he) nZ
   | chain h' iY nZ ot=>rfl
   | new h' iY nZ ot=>exact absurd (by rw [ha.ir iY];exact ot) hc
 | new h ha he hc=>cases y with
   | uM h'=>omega
   | room h' iY nZ=>exact absurd (by rw [iY.ir ha];exact he) nZ
   | chain h' iY nZ ot=>exact absurd (by rw [iY.ir ha];exact hc) ot
   | new h' iY nZ ot=>rw [ha.ir iY]
def k7 (s:ag) (i cpu:Nat) : Option Mg×Int→ag×Int×Int
 | (some m,_)=>(bV (kU s m.ws) i (m.h,dp m.c cpu m.k (m.ws.getD (iV m.c m.k).cr.toNat 0)),(iV m.c m.k).cr,0)
 | (none,e)=>(.zero,0,e)
theorem Br {s:ag} {i cpu:Nat} {m:Option Mg×Int} (hi:i<s.aa.length) (x:qF s s.aa[i] cpu m) (hf:s.dW) (hn:(s.aa[i].ab.length+1)*24≤140737488355328) : (k7 s i cpu m).1.small:=by
 have hc:=hf.Pr hi;have hs:=hf.small;have h1:=hc.small;cases x with
 | room|chain=>exact ag.jk
 | uM h =>
   refine ⟨hs.words,hs.heap,by simp only [k7,bV,kU,List.length_set];exact hs.bR,fun c ot => ?_⟩;rcases List.mem_or_eq_of_mem_set ot with ot|rfl
   ·exact hs.each c ot
   ·exact ⟨h1.names,by simp only [dp,List.length_set];exact h1.aH,by simp only [dp,List.length_set];exact h1.a8⟩
 | new h ha he VE =>
   refine ⟨by simp only [k7,bV,kU,er,km];exact hs.words,ha.small hs.heap,by simp only [k7,bV,kU,List.length_set];exact hs.bR,fun c ot => ?_⟩;rcases List.mem_or_eq_of_mem_set ot with ot|rfl
   ·exact hs.each c ot
   ·refine ⟨h1.names,?_,by simp only [dp,dz,List.length_set];exact h1.a8⟩;simp only [dp,dz,List.length_set];rw [cf _ (mi _ _)];exact hn
inductive om (s:ag) (n:ByteArray) (cpu:Int) : ag×Int×Int→Prop where
 | ask (h:lJ s n cpu≠0) : om s n cpu (.zero,0,lJ s n cpu)
 | KI {i:Nat} {m:Option Mg×Int} (h:lJ s n cpu=0) (e:idxOf (gD n) s.aa=i) (hi:i<s.aa.length) (hm:qF s s.aa[i] cpu.toNat m) : om s n cpu (k7 s i cpu.toNat m)
theorem om.ir {s:ag} {n:ByteArray} {cpu:Int} {u v:ag×Int×Int} (x:om s n cpu u) (y:om s n cpu v) : u=v:=by
 cases x with
 | ask h=>cases y with
   | ask=>rfl
   | KI h'=>exact absurd h' h
 | @KI i _ h e hi hm=>cases y with
   | ask h'=>exact absurd h h'
   | @KI j _ h' e' hj ue =>
     obtain rfl:i=j:=by omega
     rw [hm.ir ue]
theorem Ep {c:aF} {a:Int} {j:Nat} (h:j<dT c a) (hj:j<c.ab.length) : c.ab[j].At<a:=by
 unfold dT at h;have h1:(c.ab.takeWhile fun x=>decide (x.At<a))[j]=c.ab[j]:=List.IsPrefix.getElem (List.takeWhile_prefix _) h
 have:=List.all_takeWhile (p:=fun x:Slab=>decide (x.At<a)) (l:=c.ab)
 rw [List.all_eq_true] at this;have:=this _ (List.getElem_mem h)
 rw [h1] at this;exact of_decide_eq_true this
theorem HJ {α:Type} {p : α → Bool}:∀ (l:List α) (x : α),l[(l.takeWhile p).length]?=some x→p x=false
 | [],x,h=>by simp at h
 | a::r,x,h=>by
   rw [List.takeWhile_cons] at h;cases e:p a with
   | false =>
     rw [e] at h;simp at h;subst h;exact e
   | true =>
     rw [e] at h;simp at h;exact HJ r x h
theorem uR {c:aF} {a:Int} {k:Nat} (hk:k≤c.ab.length) (h1:∀ (j:Nat) (hj:j<c.ab.length),j<k→c.ab[j].At<a) (h2:∀ h:k<c.ab.length,¬ c.ab[k].At<a) : dT c a=k:=by
 rcases Nat.lt_trichotomy (dT c a) k with h|h|h
 ·exfalso;have h3:dT c a<c.ab.length:=by omega
  have h4:=HJ (p:=fun x:Slab=>decide (x.At<a)) c.ab c.ab[dT c a] (List.getElem?_eq_getElem h3);exact of_decide_eq_false h4 (h1 _ h3 h)
 ·exact h
 ·exact absurd (Ep h (by have:=mi c a;omega)) (h2 _)
theorem yn {s:ag} {c:aF} (hM:wj s c) : c.ab.length≤256:=by
 have hn:=hM.next;rw [List.pairwise_iff_getElem] at hn
 have key:∀ (k:Nat) (hk:k<c.ab.length),(k:Int)≤c.ab[k].At:=by
  intro k;induction k with
  | zero=>intro hk;have:=(hM.FG _ (List.getElem_mem hk)).at_;omega
  | succ k ih =>
    intro hk;have h1:=ih (by omega);have h2:=hn k (k+1) (by omega) hk (by omega);omega
 rcases Nat.lt_or_ge 256 c.ab.length with h|h
 ·have h1:=key 256 h;have h2:=(hM.FG _ (List.getElem_mem h)).at_;omega
 ·exact h
theorem FH {s:ag} {c:aF} (hM:wj s c) {cpu:Nat} (hc:cpu<c.ar.length) :
 (c.ar[cpu] = -1∧zK c cpu = -1)∨(0≤c.ar[cpu] ∧ ∃ (k:Nat) (hk:k<c.ab.length),zK c cpu=k∧c.ab[k].At=c.ar[cpu]):=by
 have ha:=hM.rr cpu hc;have e:c.ar.getD cpu 0=c.ar[cpu]:=by simp [hc]
 unfold zK;rw [e];rcases ha with h|h
 ·left;refine ⟨h,(jf fun j hj => ?_).1⟩;rw [h];have:=(hM.FG _ (List.getElem_mem hj)).at_
  unfold xg;exact decide_eq_false (by omega)
 ·right;obtain ⟨k,hk,h1,_,h2⟩:=nH h;have h3:=of_decide_eq_true h1;have:=(hM.FG _ (List.getElem_mem hk)).at_
  exact ⟨by omega,k,hk,h2,h3⟩
theorem wj.first {s:ag} {c:aF} (hM:wj s c) {x:Slab} (hx:x∈c.ab) (hf : 0<x.aj) : (0≤x.cr∧x.cr<4096)∧kk s.Words c.aE c.bG x.At (s.Words.getD x.cr.toNat 0) (x.aj-1).toNat:=by
 have h:=(hM.FG x hx).walk;rw [show x.aj.toNat=(x.aj-1).toNat+1 by omega] at h;have h2:=h.head;rw [hM.words] at h2;exact h2
structure Ok (s:ag) (m:Mg) : Prop where
 hk:m.k<m.c.ab.length
 len:m.ws.length=4096
 first : 0≤m.c.ab[m.k].cr∧m.c.ab[m.k].cr<4096
 free : 1≤m.c.ab[m.k].aj∧m.c.ab[m.k].aj≤64
theorem wk {α:Type} {l:List α} {p:Nat} {x : α} (hp:p≤l.length) (h:p<(aN l p x).length) : (aN l p x)[p]=x:=by
 have:=jN (x:=x) hp
 rw [List.getElem?_eq_getElem h] at this;exact Option.some.inj this
theorem zL {c:aF} {cpu k:Nat} (h:k6 c cpu=k) : ∃ hk:k<c.ab.length,0<c.ab[k].aj:=by
 unfold k6 at h;split at h
 ·rename_i h1;rw [h] at h1;have e:((k:Int)).toNat=k:=by omega
  rw [e] at h1
  have hk:k<c.ab.length:=by
   rcases Nat.lt_or_ge k c.ab.length with h2|h2
   ·exact h2
   ·have:iV c k=⟨0,0,0⟩:=by simp [iV,List.getElem?_eq_none h2]
    rw [this] at h1;simp at h1
  rw [ew hk] at h1;exact ⟨hk,h1.2⟩
 ·have hg:=kz (tL c) c.ab;rw [h,decide_eq_true (by omega)] at hg;obtain ⟨j,hj,h1,_,h2⟩:=nH hg.symm;rw [h] at h2;obtain rfl:k=j:=by omega
  refine ⟨hj,?_⟩;unfold tL at h1;simp only [Bool.and_eq_true,decide_eq_true_eq] at h1;exact h1.1
theorem qF.MZ {s:ag} {c:aF} (hM:wj s c) {cpu:Nat} {u:Option Mg×Int} (x:qF s c cpu u) : ∀ m,u.1=some m→Ok s m:=by
 intro m e;cases x with
 | room|chain=>cases e
 | uM h =>
   simp only [Option.some.injEq] at e;subst e;obtain ⟨hk,hf⟩:=zL h;have:=(hM.FG _ (List.getElem_mem hk)).free
   exact ⟨hk,hM.words,(hM.first (List.getElem_mem hk) hf).1,by simp only;omega⟩
 | @new u h ha he hc =>
   simp only [Option.some.injEq] at e;subst e;have lP:=ha.at_ he;have hl:=db hM.lay;have hp:=mi c u.2.1
   have hk:dT c u.2.1<(dz c u.2.1).ab.length:=by
    simp only [dz];rw [cf _ hp];omega
   have e:(dz c u.2.1).ab[dT c u.2.1]=⟨u.2.1,c.bG,16*u.2.1⟩:=wk hp hk
   refine ⟨hk,by simp only [er,km];exact hM.words,?_,?_⟩
   ·simp only [e];omega
   ·simp only [e];omega
open Go.RowKit
set_option maxHeartbeats 4000000 in
theorem jV (A:Option Addr) (n c lo:Nat) (l:List Slab) (w:World) (hO:Own w lo 91 3 aX A n c l) (i:Nat) (hi:i≤n) (x:Slab) (b:Nat) (hB:aW w b 91 (aX x)) (bW:aM A c≠some b) (hn:(n+1)*24≤140737488355328) (gB:lo≤w.heap.size) :
 jw Tryz.prog 263 [.slice A n c,.int .i64 (i:Int),.slice (some ⟨b,0,none⟩) 1 1] w fun v w' => ∃ A' c',v = .slice A' (n+1) c'∧Own w' lo 91 3 aX A' (n+1) c' (aN l i x)∧w.grownBy w' (aM A c) ∧ ∀ k,aM A' c'=some k→aM A c=some k∨w.heap.size≤k:=by
 refine dM Tryz.func263 rfl Tryz.ntmps263 rfl ?_;have hle:=hO.le;have pp:=hO.len;have hA:=hO.sl.base;have hw:=Ext.refl w;have jn:Sl w 3 aX (some ⟨b,0,none⟩) 1 [x]:=aW.z7 hB
 have lW:(aX x).length=3:=rfl
 have m8:∀ q:List Slab,(q.flatMap aX).length=q.length*3:=fun q=>aQ q
 have ml:∀ (q:List Slab) (v:Value),v∈q.flatMap aX→v.oneCell'=true:=fun q v hv=>by
  obtain ⟨u,_,hu⟩:=List.mem_flatMap.1 hv;exact fP.one (enc:=aX) u v hu
 by_cases df:i=n
 ·subst df;repeat' (first|refine Wz ?_|(refine SW.st (aV (k:=i) rfl rfl (by omega) (by omega)) rfl ?_))
  all_goals try omega
  refine SW.uK hO jn gB (by omega) rfl rfl rfl (by omega) (by omega) fun A2 c2 w2 tC => ?_
  have CL:Own w2 lo 91 3 aX A2 (i+1) c2 (l++[x])∧w.grownBy w2 (aM A c) ∧ ∀ k,aM A2 c2=some k→aM A c=some k∨w.heap.size≤k:=by
   rcases tC with ⟨rfl,rfl,h1,h2⟩|⟨h1,h2⟩
   ·exact ⟨h1,h2,fun k e => .inl e⟩
   ·exact ⟨h1.low gB,(aO (Ext.refl w) h2 (Nat.le_refl _) (fun k e=>by cases e)).gr _,fun k e => .inr (h1.bc k e)⟩
  obtain ⟨cJ,hg,ju⟩:=CL;refine Wz ?_;refine ah.aY rfl rfl ⟨_,rfl,A2,c2,rfl,?_,hg,ju⟩;have e:aN l i x=l++[x]:=by unfold aN;rw [List.take_of_length_le (by omega),List.drop_eq_nil_of_le (by omega)];simp
  rw [e];exact cJ
 ·by_cases jI:n+1≤c
  ·obtain ⟨g,rest,rfl,h1,h2,h3,h4,h5,h6⟩:=hO.opened (by omega);have Aa:g≠b:=fun e=>bW (by rw [h6,e])
   have es:l.flatMap aX++rest=(l.take i).flatMap aX++((l.drop i).flatMap aX++rest):=by rw [← List.append_assoc,← List.flatMap_append,List.take_append_drop]
   have e1:((l.take i).flatMap aX).length=i*3:=by rw [m8];simp;omega
   have e2:((l.drop i).flatMap aX).length=(n-i)*3:=by rw [m8];simp [pp]
   have kK:=hO.sl.drop i c (by omega) (by omega);rw [if_neg (by omega)] at kK;rw [es] at h2
   have EP:∀ w',Ext w w'→(Extern.SlicesOverlaps.overlaps #[87,87] #[4] #[.slice (some ⟨b,0,none⟩) 1 1,.slice (if c=i+1 then (some ⟨g,0,none⟩) else (some (⟨g,0,none⟩ : Addr)).map (·.add ((i+1)*3))) (n+1-(i+1)) (c-(i+1))]).run Tryz.prog w' = .ok (.bool false) w':=fun w' hx=>by
    rw [if_neg (by omega),Option.map_some,ck];have b1:=hB.ext hx;have b2:=h2.ext hx;unfold aW at b1 b2
    exact Lib.run_overlaps_apart w' 87 4 91 (bj.mB (t:=87)) 3 (fun w0=>run_sizeOf (bj.size (t:=87)) w0) ⟨b,0,none⟩ ⟨g,(i+1)*3,none⟩ 1 1 _ _ (fun e=>Aa e.symm) 91 91 (aX x).toArray.size ((l.take i).flatMap aX++((l.drop i).flatMap aX++rest)).toArray.size
     (by simp only [World.shape?,b1]) (by simp only [World.shape?,b2]) (by simp [e1,e2];omega) (by simp [World.frozen?,b1]) (by simp [World.frozen?,b1])
   repeat' (first|refine Wz ?_|(refine CW.dh rfl ?_)|(refine SW.st (aV (k:=i) rfl rfl (by omega) (by omega)) rfl ?_)|(refine SW.st (cS (k:=n+1) rfl rfl (by omega)) rfl ?_)|(refine SW.st (aV (k:=i+1) rfl rfl (by omega) (by omega)) rfl ?_)|(refine SW.entry Tryz.func273 (by kernel_rfl) (by kernel_rfl) (by kernel_rfl) (e:=Extern.SlicesOverlaps.overlaps #[87,87] #[4]) (by kernel_rfl) rfl rfl (EP _ hw) ?_))
   all_goals try omega
   have qO:((n-i)+1)*3≤((l.drop i).flatMap aX++rest).length:=by rw [List.length_append,e2];omega
   have e4:(l.drop i).flatMap aX++rest=((l.drop i).flatMap aX++rest).take 3++(((l.drop i).flatMap aX++rest).drop 3).take ((n-i)*3)++((l.drop i).flatMap aX++rest).drop (3+(n-i)*3):=by
    rw [List.append_assoc,← List.drop_drop,List.take_append_drop,List.take_append_drop]
   generalize Cr:((l.drop i).flatMap aX++rest).take 3=D1 at e4
   generalize Cs:(((l.drop i).flatMap aX++rest).drop 3).take ((n-i)*3)=D2 at e4
   generalize Ct:((l.drop i).flatMap aX++rest).drop (3+(n-i)*3)=D3 at e4
   have f1:D1.length=3:=by rw [← Cr];simp only [List.length_take];omega
   have f2:D2.length=(n-i)*3:=by rw [← Cs];simp only [List.length_take,List.length_drop];omega
   have f3:D3.length+3=rest.length:=by rw [← Ct];simp only [List.length_drop,List.length_append,e2];omega
   rw [e4] at h2;refine CW.any 8 mixed (da (by kernel_rfl)) rfl fun w1 ae aJ => ?_
   replace hw:=Ext.trans hw ae;replace hO:=hO.ext ae;replace hB:=hB.ext ae;replace h2:=h2.ext ae;clear ae;refine Wa ?_;refine SA.take 4 aJ rfl (by kernel_rfl) (by kernel_rfl) rfl ?_;repeat ((refine SW.st (aV (k:=i+1) rfl rfl (by omega) (by omega)) rfl ?_))
   refine SW.ai ?_;refine Wa ?_;refine SA.take 7 aJ rfl (by kernel_rfl) (by kernel_rfl) rfl ?_;repeat ((refine SW.st (aV (k:=i) rfl rfl (by omega) (by omega)) rfl ?_))
   refine SW.ai ?_;refine SA.done (by kernel_rfl) ?_;refine SW.copy (k:=n-i) ((i+1)*3) ((l.drop i).flatMap aX) h2 rfl rfl rfl (by omega) e2 (by simp only [List.length_append,e1,e2,f1,f2];omega) (fun h0=>⟨by rw [if_neg (by omega)];simp [ck],(⟨g,0,none⟩ : Addr).add (i*3),by rw [if_neg (by omega)];rfl,fun j v hv=>de (by omega) (kK.ext hw) j v hv⟩) (ml _) fun w3 lN nY => ?_
   have g1:=dS ((l.take i).flatMap aX++D1) D2 D3 ((l.drop i).flatMap aX) (by rw [e2,f2]) (o:=(i+1)*3) (by rw [List.length_append,e1,f1];omega);have g0:(l.take i).flatMap aX++(D1++D2++D3)=(l.take i).flatMap aX++D1++D2++D3:=by simp only [List.append_assoc]
   rw [g0,g1] at lN;have EO:=bH (hw.gr (aM (some ⟨g,0,none⟩) c)) nY (.inl h6.symm);have Ly:=hB.grown nY (by simpa using fun e=>Aa e.symm);repeat' (first|refine Wz ?_|(refine SW.st (aV (k:=i) rfl rfl (by omega) (by omega)) rfl ?_))
   refine SW.copy (k:=1) (i*3) (aX x) lN rfl rfl rfl (by omega) lW (by simp only [List.length_append,e1,e2,f1,lW];omega) (fun h0=>⟨by rw [if_neg (by omega)];simp [ck],⟨b,0,none⟩,rfl,fun j v hv=>Ly.cell hv⟩) (fP.one (enc:=aX) x) fun w4 lA vh => ?_
   have g2:=dS ((l.take i).flatMap aX) D1 ((l.drop i).flatMap aX++D3) (aX x) (by rw [lW,f1]) (o:=i*3) e1.symm;have g3:(l.take i).flatMap aX++D1++(l.drop i).flatMap aX++D3=(l.take i).flatMap aX++D1++((l.drop i).flatMap aX++D3):=by simp only [List.append_assoc]
   have g4:(l.take i).flatMap aX++aX x++((l.drop i).flatMap aX++D3)=(aN l i x).flatMap aX++D3:=by unfold aN;simp only [List.flatMap_append,List.flatMap_cons,List.flatMap_nil,List.append_nil,List.append_assoc]
   rw [g3,g2,g4] at lA;have Ax:=Own.closed (n:=n+1) (c:=c) (l:=aN l i x) (by unfold aN;simp;omega) lA (by omega) jI (by omega) h5 h1;have EQ:=bH EO vh (.inl h6.symm);refine Wz ?_;exact ah.aY rfl rfl ⟨_,rfl,_,_,rfl,Ax,EQ,fun k e => .inl e⟩
  ·have Lz:c=n:=by omega
   have kK:=hO.sl.drop i c (by omega) (by omega);have xn:=hO.sl.pre (i:=i) (by omega);repeat' (first|refine Wz ?_|(refine SW.st (aV (k:=i) rfl rfl (by omega) (by omega)) rfl ?_)|(refine SW.st (cS (k:=i) rfl rfl (by omega)) rfl ?_))
   all_goals try omega
   refine SW.uA (k:=n+1-i) xn Tryz.underlying3 rfl rfl (by omega) rfl (by omega) (by omega) (by omega) (by omega) fun g rest c2 w2 bF r5 h2 h3 h4 h5 => ?_
   have e1:((l.take i).flatMap aX).length=i*3:=by rw [m8];simp;omega
   have e2:((l.drop i).flatMap aX).length=(n-i)*3:=by rw [m8];simp [pp]
   have qO:((n-i)+1)*3≤rest.length:=by omega
   have e4:rest=rest.take 3++(rest.drop 3).take ((n-i)*3)++rest.drop (3+(n-i)*3):=by
    rw [List.append_assoc,← List.drop_drop,List.take_append_drop,List.take_append_drop]
   generalize Cr:rest.take 3=D1 at e4
   generalize Cs:(rest.drop 3).take ((n-i)*3)=D2 at e4
   generalize Ct:rest.drop (3+(n-i)*3)=D3 at e4
   have f1:D1.length=3:=by rw [← Cr];simp only [List.length_take];omega
   have f2:D2.length=(n-i)*3:=by rw [← Cs];simp only [List.length_take,List.length_drop];omega
   have f3:D3.length+((n-i)+1)*3=rest.length:=by rw [← Ct];simp only [List.length_drop];omega
   rw [e4] at h2;have dN:aM A c≠some g:=fun e=>by have:=hO.lt_size _ e;omega
   have Aa:b≠g:=by have:=hB.lt;omega
   replace kK:=kK.ext bF;replace hB:=hB.ext bF;replace hw:=Ext.trans hw bF;repeat' (first|refine Wz ?_|(refine SW.st (aV (k:=i) rfl rfl (by omega) (by omega)) rfl ?_))
   refine SW.copy (k:=1) (i*3) (aX x) h2 rfl rfl rfl (by omega) lW (by simp only [List.length_append,e1,f1,f2,lW];omega) (fun h0=>⟨by rw [if_neg (by omega)];simp [ck],⟨b,0,none⟩,rfl,fun j v hv=>hB.cell hv⟩) (fP.one (enc:=aX) x) fun w3 lN nY => ?_
   have g2:=dS ((l.take i).flatMap aX) D1 (D2++D3) (aX x) (by rw [lW,f1]) (o:=i*3) e1.symm;have g3:(l.take i).flatMap aX++(D1++D2++D3)=(l.take i).flatMap aX++D1++(D2++D3):=by simp only [List.append_assoc]
   rw [g3,g2] at lN;have GF:Ext w w3:=hw.own r5 nY
   have jJ:Sl w3 3 aX (if c=i then A else A.map (·.add (i*3))) (n-i) (l.drop i):=(hO.sl.drop i c (by omega) (by omega)).ext GF
   replace hw:=GF;refine Wz ?_;refine CW.any 8 mixed (da (by kernel_rfl)) rfl fun w1 ae aJ => ?_
   replace hw:=Ext.trans hw ae;replace lN:=lN.ext ae;replace jJ:=jJ.ext ae;clear ae;refine Wa ?_;refine SA.take 4 aJ rfl (by kernel_rfl) (by kernel_rfl) rfl ?_;repeat ((refine SW.st (aV (k:=i+1) rfl rfl (by omega) (by omega)) rfl ?_))
   refine SW.ai ?_;refine Wa ?_;refine SA.take 7 aJ rfl (by kernel_rfl) (by kernel_rfl) rfl ?_;repeat ((refine SW.st (aV (k:=i) rfl rfl (by omega) (by omega)) rfl ?_))
   refine SW.ai ?_;refine SA.done (by kernel_rfl) ?_;refine SW.copy (k:=n-i) ((i+1)*3) ((l.drop i).flatMap aX) lN rfl rfl rfl (by omega) e2 (by simp only [List.length_append,e1,e2,f2,lW];omega) (fun h0=>⟨by rw [if_neg (by omega)];simp [ck],(if c=i then A else A.map (·.add (i*3))).getD default,?_,fun j v hv=>de (by omega) jJ j v hv⟩) (ml _) fun w4 lA vh => ?_
   ·obtain ⟨a,ha⟩:=Option.isSome_iff_exists.1 (jJ.base h0);rw [ha];rfl
   ·have g4:=dS ((l.take i).flatMap aX++aX x) D2 D3 ((l.drop i).flatMap aX) (by rw [e2,f2]) (o:=(i+1)*3) (by rw [List.length_append,e1,lW];omega);have g5:(l.take i).flatMap aX++aX x++(D2++D3)=(l.take i).flatMap aX++aX x++D2++D3:=by simp only [List.append_assoc]
    have g6:(l.take i).flatMap aX++aX x++(l.drop i).flatMap aX++D3=(aN l i x).flatMap aX++D3:=by unfold aN;simp only [List.flatMap_append,List.flatMap_cons,List.flatMap_nil,List.append_nil,List.append_assoc]
    rw [g5,g4,g6] at lA;have Ax:=Own.closed (n:=n+1) (c:=c2) (lo:=lo) (l:=aN l i x) (by unfold aN;simp;omega) lA (by omega) (by omega) (by omega) h5 (by omega);have eM:Ext w w4:=hw.own r5 vh
    have e9:i+(n+1-i)=n+1:=by omega
    refine Wz ?_;rw [e9]
    exact ah.aY rfl rfl ⟨_,rfl,_,_,rfl,Ax,eM.gr _,fun k e => .inr (by
     have:k=g:=by
      unfold aM at e;split at e
      ·cases e
      ·simpa using e.symm
     omega)⟩
open Go.RowKit
theorem jw.mono {P:Program} {f:FuncId} {args:List Value} {w:World} {R R':Value→World→Prop} (h:jw P f args w R) (hr:∀ v w',R v w'→R' v w') : jw P f args w R' :=
 ⟨Calls.mono h.out fun e w' ⟨v,he,hv⟩=>⟨v,he,hr v w' hv⟩⟩
structure HK where
 b:Nat
 g:Nat
 c:Nat
 m:gg
 lv:gg
 cp:Int
 M:List Int
 V:List Block
structure HP where
 u0:cU
 u1:cU
 li:gg
 ls:List cy
abbrev HK.h (k:HK) (p:HP) : gC:=⟨⟨some ⟨k.g,0,none⟩,2,k.c⟩,k.m,k.cp,p.li,k.lv⟩
structure HS (wb w:World) (k:HK) (p:HP) (s:ao×ao) (L:List ay) : Prop where
 dD:aW w k.b 41 (cV (k.h p))
 zs:eV w wb.heap.size k.g k.c p.u0 p.u1 s
 dA:Own w wb.heap.size 3 1 bK k.m.A k.m.n k.m.c k.M
 live:Own w wb.heap.size 165 3 aL k.lv.A k.lv.n k.lv.c k.V
 ls:eH w wb.heap.size p.li p.ls L
 sm:rl k.m [p.u0,p.u1] p.ls
 sf:tX k.lv [p.u0,p.u1]
 HL:wb.heap.size≤k.b
 base:Ext wb w
def iW (k:HK) (p:HP) (i:Nat) : Prop:=i=k.b∨i=k.g∨ob p.li=some i ∨ ∃ y∈p.ls,ob y.av=some i
section
variable {w w' w0 w1 w2 wb:World} {i t:Nat} {k:HK} {p p' p0 p1 p2:HP} {s:ao×ao} {L:List ay} {cs:List Value} {row:Option Nat}
theorem HS.ext (h:HS wb w k p s L) (hx:Ext w w') : HS wb w' k p s L:=⟨h.dD.ext hx,h.zs.ext hx,h.dA.ext hx,h.live.ext hx,h.ls.ext hx,h.sm,h.sf,h.HL,h.base.trans hx⟩
theorem HS.CN (h:HS wb w k p s L) {y:cy} (hy:y∈p.ls) : ∃ l∈L,od w wb.heap.size y l:=by
 obtain ⟨j,hj,rfl⟩:=List.getElem_of_mem hy;have pX:j<L.length:=by rw [← h.ls.each.len];exact hj
 exact ⟨_,List.getElem_mem pX,h.ls.each.get j hj pX⟩
theorem HS.lt (h:HS wb w k p s L) (hi:iW k p i) : i<w.heap.size:=by
 rcases hi with rfl|rfl|hi|⟨y,hy,hi⟩
 ·exact h.dD.lt
 ·exact h.zs.row.lt_size _ h.zs.own
 ·exact h.ls.row.lt_size i hi
 ·obtain ⟨l,_,hl⟩:=h.CN hy;exact hl.bM.lt_size i hi
theorem HS.not (h:HS wb w k p s L) (hi:w.heap.size≤i) : ¬ iW k p i:=fun hm=>by have:=h.lt hm;omega
theorem HS.low (h:HS wb w k p s L) : wb.heap.size≤w.heap.size:=Nat.le_of_lt (Nat.lt_of_le_of_lt h.HL h.dD.lt)
structure mu (w0:World) (k:HK) (p0:HP) (w:World) (p:HP) : Prop where
 os:w.os=w0.os
 tape:w.tape=w0.tape
 output:w.output=w0.output
 size:w0.heap.size≤w.heap.size
 block:∀ i,i<w0.heap.size → ¬ iW k p0 i→w.heap[i]?=w0.heap[i]?
 FI:∀ i,iW k p i→iW k p0 i∨w0.heap.size≤i
theorem mu.refl (w:World) (k:HK) (p:HP) : mu w k p w p:=⟨rfl,rfl,rfl,Nat.le_refl _,fun _ _ _=>rfl,fun _ h => .inl h⟩
theorem mu.step (h:mu w0 k p0 w p) (hg:w.grownBy w' row) (hr:∀ i,row=some i→iW k p i∨w0.heap.size≤i) (hp:∀ i,iW k p' i→iW k p i∨w0.heap.size≤i) : mu w0 k p0 w' p' :=
 ⟨hg.os.trans h.os,hg.tape.trans h.tape,hg.output.trans h.output,Nat.le_trans h.size hg.size,fun i hi hm=>by
  rw [hg.block i (Nat.lt_of_lt_of_le hi h.size) (fun e=>by
   rcases hr i e.symm with e|e
   ·rcases h.FI i e with e|e
    ·exact hm e
    ·omega
   ·omega)]
  exact h.block i hi hm,fun i hi=>by
  rcases hp i hi with e|e
  ·exact h.FI i e
  ·exact .inr e⟩
theorem mu.ext (h:mu w0 k p0 w p) (hx:Ext w w') : mu w0 k p0 w' p:=h.step (hx.gr none) (fun i e=>by cases e) (fun i e => .inl e)
theorem mu.trans (h:mu w0 k p0 w1 p1) (h':mu w1 k p1 w2 p2) : mu w0 k p0 w2 p2 :=
 ⟨h'.os.trans h.os,h'.tape.trans h.tape,h'.output.trans h.output,Nat.le_trans h.size h'.size,fun i hi hm=>by
  rw [h'.block i (Nat.lt_of_lt_of_le hi h.size) (fun e=>by rcases h.FI i e with e|e;exact hm e;omega)];exact h.block i hi hm,fun i hi=>by
  rcases h'.FI i hi with e|e
  ·exact h.FI i e
  ·exact .inr (Nat.le_trans h.size e)⟩
theorem mu.dD (h:mu w0 k p0 w p) (hB:aW w0 i t cs) (hn : ¬ iW k p0 i) : aW w i t cs:=(h.block i hB.lt hn).trans hB
theorem mu.not (h:mu w0 k p0 w p) (hn : ¬ iW k p0 i) (hi:i<w0.heap.size) : ¬ iW k p i:=fun e=>by rcases h.FI i e with e|e;exact hn e;omega
end
def wm (p:HP) (zi:Nat) (u:cU) : HP:=if zi=0 then ⟨u,p.u1,p.li,p.ls⟩ else ⟨p.u0,u,p.li,p.ls⟩
theorem pJ {p:HP} {zi:Nat} {u:cU}:(wm p zi u).li=p.li∧(wm p zi u).ls=p.ls:=by unfold wm;split<;>exact ⟨rfl,rfl⟩
theorem sX {k:HK} {p:HP} {zi:Nat} {u:cU} {i:Nat}:iW k (wm p zi u) i↔iW k p i:=by unfold iW;rw [pJ.1,pJ.2]
theorem HS.Mh {wb w0 w w':World} {k:HK} {p:HP} {s:ao×ao} {L:List ay} {zi:Nat} {u:cU} {z:ao} (h0:HS wb w0 k p s L) (h:HS wb w k p s L) (hz:zi<2)
 (hO:Own w' wb.heap.size 139 4 bX (some ⟨k.g,0,none⟩) 2 k.c ([p.u0,p.u1].set zi u)) (hg:w.grownBy w' (some k.g)) (hn:fc w w0.heap.size u z) : HS wb w' k (wm p zi u) (o9 s (zi:Int) z) L:=by
 have hG:=h.zs.gr hg;have hx:Ext wb w':=h.base.own h.zs.Ei hg
 have p7:=(hn.low h0.low).aw hG rfl;have hf:∀ g,aM u.Types.A u.Types.c=some g→w0.heap.size≤g:=fun g e=>hn.types.bc g e
 have TX:∀ g,aM u.aj.A u.aj.c=some g→w0.heap.size≤g:=fun g e=>hn.free.bc g e
 have Cc:∀ (j:Nat) (hj:j<p.ls.length) (g:Nat),aM p.ls[j].av.A p.ls[j].av.c=some g→g<w0.heap.size:=fun j hj g e=>h0.lt (.inr (.inr (.inr ⟨_,List.getElem_mem hj,e⟩)))
 have vN:∀ us:List cU,(∀ v∈us,v∈[p.u0,p.u1]∨v=u)→rl k.m us p.ls:=fun us hu=>⟨h.sm.dA,fun j hj g e v hv=>by
  rcases hu v hv with h1|rfl
  ·exact h.sm.types j hj g e v h1
  ·intro e2;have:=hf g e2;have:=Cc j hj g e;omega,h.sm.sep⟩
 have Nb:∀ us:List cU,(∀ v∈us,v∈[p.u0,p.u1]∨v=u)→tX k.lv us:=fun us hu v hv g e=>by
  rcases hu v hv with h1|rfl
  ·exact h.sf v h1 g e
  ·intro e2;have:=TX g e;have:=h0.live.lt_size g e2;omega
 unfold wm o9;by_cases pD:zi=0
 ·subst pD;simp only [if_true,Int.ofNat_eq_natCast,Int.natCast_zero] at *;exact ⟨h.dD.aw hG rfl,⟨hO,p7,h.zs.z1.aw hG rfl,h.zs.Ei,h.zs.pos⟩,h.dA.aw hG rfl,h.live.aw hG rfl,h.ls.aw hG rfl,vN _ (by simp),Nb _ (by simp),h.HL,hx⟩
 ·obtain rfl:zi=1:=by omega
  have e1 : ¬ ((1:Nat)=0):=by omega
  have e2 : ¬ (((1:Nat) : Int)=0):=by omega
  simp only [if_neg e1,if_neg e2] at *;exact ⟨h.dD.aw hG rfl,⟨hO,h.zs.z0.aw hG rfl,p7,h.zs.Ei,h.zs.pos⟩,h.dA.aw hG rfl,h.live.aw hG rfl,h.ls.aw hG rfl,vN _ (by simp),Nb _ (by simp),h.HL,hx⟩
theorem eH.Dc {w w':World} {lo:Nat} {li:gg} {ls:List cy} {L:List ay} (h:eH w lo li ls L) (hg:w.grownBy w' (ob li)) : r7 w w' 142:=h.row.gr hg
theorem Er {m:gg} {us:List cU} {ls Ej:List cy} (h:rl m us ls) (hs:CE Ej) (ho:∀ y∈Ej,∃ x∈ls,ob y.av=ob x.av) : rl m us Ej:=by
 refine ⟨fun j hj g e => ?_,fun j hj g e v hv => ?_,hs⟩
 ·obtain ⟨x,hx,e2⟩:=ho _ (List.getElem_mem hj);obtain ⟨i,hi,rfl⟩:=List.getElem_of_mem hx;exact h.dA i hi g (e2.symm.trans e)
 ·obtain ⟨x,hx,e2⟩:=ho _ (List.getElem_mem hj);obtain ⟨i,hi,rfl⟩:=List.getElem_of_mem hx;exact h.types i hi g (e2.symm.trans e) v hv
theorem HS.setRow {wb w w':World} {k:HK} {p:HP} {s:ao×ao} {L:List ay} {i:Nat} {y:cy} {l:ay} (h:HS wb w k p s L) (hi:i<p.ls.length) (hO:Own w' wb.heap.size 142 4 bI p.li.A p.li.n p.li.c (p.ls.set i y)) (hg:w.grownBy w' (ob p.li)) (hy:od w wb.heap.size y l)
 (ho:ob y.av=ob p.ls[i].av) : HS wb w' k ⟨p.u0,p.u1,p.li,p.ls.set i y⟩ s (L.set i l):=by
 have hG:=h.ls.Dc hg;have hx:Ext wb w':=aO h.base hg (Nat.le_refl _) h.ls.row.bc
 have hm:∀ z∈p.ls.set i y,∃ x∈p.ls,ob z.av=ob x.av:=fun z hz=>by
  rcases List.mem_or_eq_of_mem_set hz with h1|rfl
  ·exact ⟨z,h1,rfl⟩
  ·exact ⟨_,List.getElem_mem hi,ho⟩
 have dL:∀ x∈p.ls,∀ g,ob x.av=some g→g<w.heap.size:=fun x hx g e=>h.lt (.inr (.inr (.inr ⟨x,hx,e⟩)))
 refine ⟨h.dD.aw hG rfl,h.zs.aw hG rfl,h.dA.aw hG rfl,h.live.aw hG rfl,⟨hO,?_⟩,Er h.sm (xw.pR (li:=p.li) h.sm.sep dL hi (fun g e => .inl (ho ▸ e))).sep hm,h.sf,h.HL,hx⟩;exact eK.setAt (R:=od w wb.heap.size) h.ls.each (hy.aw hG rfl) (fun j h1 h2 _ hh=>hh.aw hG rfl)
theorem eK.erase {α β:Type} {R : α → β → Prop} {xs:List α} {ys:List β} (h:eK R xs ys) (i:Nat) : eK R (xs.eraseIdx i) (ys.eraseIdx i):=by
 refine ⟨by rw [List.length_eraseIdx,List.length_eraseIdx,h.len],fun j h1 h2 => ?_⟩;have hl:=h.len;rw [List.length_eraseIdx] at h1 h2;rw [List.getElem_eraseIdx,List.getElem_eraseIdx];split
 ·exact h.get j _ _
 ·exact h.get (j+1) _ _
theorem HS.Mi {wb w w1 w':World} {k:HK} {p:HP} {s:ao×ao} {L:List ay} {i:Nat} (h:HS wb w k p s L) (hO:Own w1 wb.heap.size 142 4 bI p.li.A (p.li.n-1) p.li.c (p.ls.eraseIdx i)) (hg:w.grownBy w1 (ob p.li))
 (hb:aW w' k.b 41 (cV (k.h ⟨p.u0,p.u1,⟨p.li.A,p.li.n-1,p.li.c⟩,p.ls.eraseIdx i⟩))) (r5:w1.grownBy w' (some k.b)) : HS wb w' k ⟨p.u0,p.u1,⟨p.li.A,p.li.n-1,p.li.c⟩,p.ls.eraseIdx i⟩ s (L.eraseIdx i):=by
 have hG:=h.ls.Dc hg;have EQ:=(h.dD.aw hG rfl).gr r5;have hx:Ext wb w':=(aO h.base hg (Nat.le_refl _) h.ls.row.bc).own h.HL r5
 refine ⟨hb,(h.zs.aw hG rfl).aw EQ rfl,(h.dA.aw hG rfl).aw EQ rfl,(h.live.aw hG rfl).aw EQ rfl,⟨hO.aw EQ rfl,(h.ls.each.erase i).mono fun _ _ hh=>(hh.aw hG rfl).aw EQ rfl⟩,Er h.sm ?_ (fun y hy=>⟨y,List.mem_of_mem_eraseIdx hy,rfl⟩),h.sf,h.HL,hx⟩;exact ry.2 ((ry.1 h.sm.sep).sublist (List.eraseIdx_sublist _ _))
set_option maxHeartbeats 1000000 in
theorem FJ (k:HK) (p:HP) (s:ao×ao) (L:List ay) (x:ay) (y:cy) (a:Int) (wb w0:World) (H:HS wb w0 k p s L) (hk:sI y x) (Pj:y.av = .nil) (Pk:x.av=[])
 (hs:AP L) (hn:(p.li.n+1)*48≤140737488355328) (Hg:∀ l∈L,l.av.length≤1000) :
 jw Tryz.prog 112 [.pointer (some ⟨k.b,0,none⟩),.agg (bI y).toArray,.int .i64 a] w0 fun v w' => ∃ p',HS wb w' k p' s (fQ L ⟨x.fT,x.ao,x.Ty,cd L x++[a]⟩)∧mu w0 k p w' p':=by
 obtain ⟨F,hF⟩ : ∃ F:World→Prop,F=fun v=>eV v wb.heap.size k.g k.c p.u0 p.u1 s∧Own v wb.heap.size 3 1 bK k.m.A k.m.n k.m.c k.M∧Own v wb.heap.size 165 3 aL k.lv.A k.lv.n k.lv.c k.V∧mu w0 k p v p:=⟨_,rfl⟩
 have hZ:=H.zs;have hM:=H.dA;have hV:=H.live;have hL:=H.ls;have hb:=H.dD
 have oT:Jv F w0:=by
  rw [hF];exact ⟨⟨hZ,hM,hV,mu.refl _ _ _⟩,fun v v' hx hP=>⟨hP.1.ext hx,hP.2.1.ext hx,hP.2.2.1.ext hx,hP.2.2.2.ext hx⟩⟩
 have IX:∀ (v v':World) (row:Option Nat),v.grownBy v' row→(∀ i,row=some i→i=k.b∨aM p.li.A p.li.c=some i∨w0.heap.size≤i)→F v→F v':=fun v v' row hg uO hP=>by
  rw [hF] at hP ⊢;refine ⟨hP.1.parts hg ((hZ.row.pQ hL hb rfl rfl).ne uO) ((hZ.z0.free.pQ hL hb rfl rfl).ne uO) ((hZ.z0.types.pQ hL hb rfl rfl).ne uO) ((hZ.z1.free.pQ hL hb rfl rfl).ne uO) ((hZ.z1.types.pQ hL hb rfl rfl).ne uO),hP.2.1.apart hg ((hM.pQ hL hb rfl rfl).ne uO),hP.2.2.1.apart hg ((hV.pQ hL hb rfl rfl).ne uO),hP.2.2.2.step hg (fun i e => ?_) (fun i e => .inl e)⟩;rcases uO i e with h|h|h
  ·exact .inl (.inl h)
  ·exact .inl (.inr (.inr (.inl h)))
  ·exact .inr h
 have M8:∀ (i:Nat) (hi:i<p.ls.length) (v v':World),v.grownBy v' (aM p.ls[i].av.A p.ls[i].av.c)→F v→F v':=fun i hi v v' hg hP=>by
  rw [hF] at hP ⊢;have Hw:=(hL.each.get i hi (by rw [← hL.each.len];exact hi)).bM;exact ⟨hP.1.parts hg (hZ.row.mh Hw rfl) (hZ.z0.free.mh Hw rfl) (fun j e e2=>H.sm.types i hi j e2 p.u0 (by simp) e) (hZ.z1.free.mh Hw rfl) (fun j e e2=>H.sm.types i hi j e2 p.u1 (by simp) e),hP.2.1.apart hg (fun j e e2=>H.sm.dA i hi j e2 e),hP.2.2.1.apart hg (hV.mh Hw rfl),hP.2.2.2.step hg (fun j e => .inl (.inr (.inr (.inr ⟨_,List.getElem_mem hi,e⟩)))) (fun i e => .inl e)⟩
 refine (A9 ⟨some ⟨k.g,0,none⟩,2,k.c⟩ k.m k.cp p.li k.lv L p.ls x y a F k.b wb w0 H.base H.HL hb hL hk Pj Pk H.sm.sep hs hn Hg oT IX M8).mono fun v w' hv => ?_
 obtain ⟨hx,Ad,IW,Ej,ka,Pp,hP⟩:=hv;rw [hF] at Ad;obtain ⟨Ce,Pq,zG,hK⟩:=Ad
 have hold:∀ j (hj:j<Ej.length) (g:Nat),aM Ej[j].av.A Ej[j].av.c=some g→(∃ i,∃ hi:i<p.ls.length,aM p.ls[i].av.A p.ls[i].av.c=some g)∨w0.heap.size≤g:=fun j hj g e=>by
  rcases hP.of _ (List.getElem_mem hj) g e with ⟨z,hz,e2⟩|h
  ·obtain ⟨i,hi,rfl⟩:=List.getElem_of_mem hz;exact .inl ⟨i,hi,e2⟩
  ·exact .inr h
 refine ⟨⟨p.u0,p.u1,IW,Ej⟩,⟨ka,Ce,Pq,zG,Pp,⟨fun j hj g e => ?_,fun j hj g e v hv => ?_,hP.sep⟩,H.sf,H.HL,hx⟩,hK.step (World.grownBy.refl _ none) (fun i e=>by cases e) (fun i hi => ?_)⟩
 ·rcases hold j hj g e with ⟨i,hi,e2⟩|h
  ·exact H.sm.dA i hi g e2
  ·intro e2;have:=hM.lt_size g e2;omega
 ·rcases hold j hj g e with ⟨i,hi,e2⟩|h
  ·exact H.sm.types i hi g e2 v hv
  ·intro e2;simp only [List.mem_cons,List.not_mem_nil,or_false] at hv;rcases hv with rfl|rfl
   ·have:=hZ.z0.types.lt_size g e2;omega
   ·have:=hZ.z1.types.lt_size g e2;omega
 ·rcases hi with h|h|h|⟨z,hz,h⟩
  ·exact .inl (.inl h)
  ·exact .inl (.inr (.inl h))
  ·exact (hP.row i h).imp (fun e => .inr (.inr (.inl e))) id
  ·exact (hP.of z hz i h).imp (fun e => .inr (.inr (.inr e))) id
open Go.RowKit
section
variable {P:Program} {L:Env} {w:World} {d:Option Nat} {T:TypeId} {pos:String} {af:Array Edge} {g:Option (Nat×Bool)}
theorem Es {t ty:TypeId} {x y:Operand} {i j:Int} (a b:Nat) (hx:cg L x=some (.int .i64 i)) (hy:cg L y=some (.int .i64 j)) (ha:i=(a:Int)) (hb:j=(b:Int)) (iY:a<9223372036854775808) (ka:b<9223372036854775808) :
 St P ⟨d,.binOp .and t x y ty,T,pos,af,g⟩ L w (.int .i64 ((a &&& b:Nat) : Int)) :=
 ⟨fun n A hA w' _=>by
  have e1:=hA.eval hx;have e2:=hA.eval hy;subst ha hb;generalize A.eval = ρ at *
  have dL:a &&& b<2 ^ 63:=Nat.and_lt_two_pow _ (by omega)
  have e:(BitVec.ofInt 64 (a:Int) &&& BitVec.ofInt 64 (b:Int)).toNat=a &&& b:=by
   rw [BitVec.toNat_and,BitVec.ofInt_natCast,BitVec.ofInt_natCast,BitVec.toNat_ofNat,BitVec.toNat_ofNat,Nat.mod_eq_of_lt (by omega),Nat.mod_eq_of_lt (by omega)]
  have aI:(Op.intBits .and .i64 (a:Int) (b:Int)).run P w' = .ok (.int .i64 ((a &&& b:Nat) : Int)) w':=by
   have:Op.intBits .and .i64 (a:Int) (b:Int)=(pure (.int .i64 (IntKind.i64.wrap ((BitVec.ofInt 64 (a:Int) &&& BitVec.ofInt 64 (b:Int)).toNat:Nat))) : Sem Value):=rfl
   rw [this,e,gf (by omega) (by omega)]
   rfl
  have aD:(binOp .and t (.int .i64 (a:Int)) (.int .i64 (b:Int))).run P w' = .ok (.int .i64 ((a &&& b:Nat) : Int)) w':=by
   have:binOp .and t (.int .i64 (a:Int)) (.int .i64 (b:Int))=Op.intBits .and .i64 (a:Int) (b:Int):=by simp [binOp]
   rw [this,aI]
  simp [execOp,e1,e2,eqGuard,aD]⟩
end
open Go.RowKit
def yo (f j:Int) : Int:=((f.toNat &&& j.toNat:Nat) : Int)
theorem FK:∀ f:Nat,f<16→(f &&& 1=f % 2)∧(f &&& 2=f / 2 % 2*2)∧(f &&& 4=f / 4 % 2*4)∧(f &&& 8=f / 8*8):=by decide
theorem sY {f:Int} (h : 0≤f∧f≤15) : yo f 1=f % 2∧yo f 2=f / 2 % 2*2∧yo f 4=f / 4 % 2*4∧yo f 8=f / 8*8:=by
 obtain ⟨n,rfl⟩ : ∃ n:Nat,f=n:=⟨f.toNat,by omega⟩;obtain ⟨h1,h2,h3,h4⟩:=FK n (by omega);unfold yo;simp only [Int.toNat_natCast,show (1:Int).toNat=1 from rfl,show (2:Int).toNat=2 from rfl,show (4:Int).toNat=4 from rfl,show (8:Int).toNat=8 from rfl,h1,h2,h3,h4];omega
theorem uS {P:Program} {L:Env} {w:World} {d:Option Nat} {T t ty:TypeId} {pos:String} {af:Array Edge} {g:Option (Nat×Bool)} {x y:Operand} {f j:Int} (hx:cg L x=some (.int .i64 f)) (hy:cg L y=some (.int .i64 j)) (hf : 0≤f∧f≤15) (hj : 0≤j∧j≤15) :
 St P ⟨d,.binOp .and t x y ty,T,pos,af,g⟩ L w (.int .i64 (yo f j)):=Es f.toNat j.toNat hx hy (by omega) (by omega) (by omega) (by omega)
theorem Dd (f:Int) (w:World) : bq Tryz.prog 152 [.int .i64 f] w fun v _=>v = .tuple #[.int .i64 (if 0≤gu f then gu f else 0),.bool (decide (0≤gu f))]:=by
 refine aG Tryz.func152 rfl Tryz.ntmps152 rfl ?_;have hw:=Ext.refl w;by_cases hf : 0≤f∧f≤15
 ·obtain ⟨q1,q2,q4,q8⟩:=sY hf;obtain ⟨t,ht⟩ : ∃ t,gu f=t:=⟨_,rfl⟩
  have hc:(f / 2 % 4=0∧t=0)∨(f / 2 % 4=1∧t=1)∨(f / 2 % 4=2∧t=2)∨(f / 2 % 4=3∧t = -1):=by
   unfold gu at ht;rw [if_pos hf] at ht;split at ht
   ·omega
   ·split at ht
    ·omega
    ·split at ht
     ·omega
     ·omega
  rw [ht];rcases hc with ⟨h1,rfl⟩|⟨h1,rfl⟩|⟨h1,rfl⟩|⟨h1,rfl⟩
  all_goals
   repeat' (first|refine Wz ?_|(refine SW.st (uS rfl rfl (by omega) (by decide)) rfl ?_))
   all_goals try omega
   all_goals exact ah.cb rfl rfl rfl ⟨_,rfl,hw,rfl⟩
 ·have e:gu f = -1:=by unfold gu;rw [if_neg hf]
  rw [e];repeat' (first|refine Wz ?_|refine SW.cw rfl rfl rfl (fun h => ?_) (fun h => ?_))
  all_goals try omega
  all_goals exact ah.cb rfl rfl rfl ⟨_,rfl,hw,rfl⟩
structure yq (M:List Int) (m0 m1:Int) : Prop where
 eq:M=[m0,m1]
 b0 : 0≤m0∧m0≤256
 b1 : 0≤m1∧m1≤256
theorem Mj.HM (r:gC) (u0 u1:cU) (s:ao×ao) (M:List Int) (m0 m1:Int) (zi:Nat) (f:Int) (w:World) (hm:Sl w 1 bK r.dk.A r.dk.n M) (hz:Sl w 4 bX r.bf.A r.bf.n [u0,u1]) (hM:yq M m0 m1) (h1:u1.aK=s.2.aK) (h2:u1.To=s.2.To) (hF : 0≤s.2.aK∧s.2.aK≤256) (hT:s.2.aK≤s.2.To∧s.2.To≤256) (pD:zi<2) (hf : 0≤f∧f≤15) :
 bq Tryz.prog 246 [.agg (cV r).toArray,.int .i64 (zi:Int),.int .i64 f] w fun v _=>v = .int .i64 (yi m0 m1 s zi f):=by
 refine aG Tryz.func246 rfl Tryz.ntmps246 rfl ?_;refine CW.seq (CW.region (SW.box rfl rfl fun b1 w1 hw jh aI => ?_));obtain ⟨rfl,IT,pO⟩:=hM;obtain ⟨q1,q2,q4,q8⟩:=sY hf;have hA:=hz.base;have hB:=hm.base;have hn : 2=r.bf.n:=hz.len
 have RP : 2=r.dk.n:=hm.len
 have k0 : 1<r.bf.n:=by omega
 have k1:zi<r.dk.n:=by omega
 have f0:=hz.fw k0 (j:=0) (u := .int .i64 u1.aK) rfl;have f1:=hz.fw k0 (j:=1) (u := .int .i64 u1.To) rfl;obtain ⟨mz,L8⟩ : ∃ mz,(if (zi:Int)=0 then m0 else m1)=mz:=⟨_,rfl⟩
 have TY : [m0,m1][zi]'(by simpa using pD)=mz:=by
  rcases Nat.lt_or_ge zi 1 with h|h
  ·obtain rfl:zi=0:=by omega
   rw [← L8];rfl
  ·obtain rfl:zi=1:=by omega
   rw [← L8];rfl
 have fm:=hm.one k1 (congrArg bK TY);have VF : 0≤mz∧mz≤256:=by rw [← L8];split<;>omega
 obtain ⟨v,hv⟩ : ∃ v,yi m0 m1 s zi f=v:=⟨_,rfl⟩;have M7:=hv;unfold yi at M7;rw [L8] at M7;rw [hv];have VG:f.tmod 2=f % 2:=Int.tmod_eq_emod_of_nonneg (by omega)
 have hc:(8≤f∨f<8)∧((zi=0∧f % 2=0)∨(zi=0∧f % 2=1)∨zi=1):=by omega
 obtain ⟨xf,Mk⟩:=hc;rcases xf with xf|xf<;>rcases Mk with ⟨Mk,R7⟩|⟨Mk,R7⟩|Mk
 all_goals
  repeat' (first|refine Wz ?_|((apply CW.bl mixed;(· kernel_rfl);rotate_left;intro w1 ae;replace hw:=Ext.trans hw ae;replace aI:=aI.ext ae;clear ae;rotate_right))|refine SW.st (aT hw rfl f0) rfl ?_|refine SW.st (aT hw rfl f1) rfl ?_|refine SW.st (aT hw rfl fm) rfl ?_|(refine SW.st (uS rfl rfl (by omega) (by decide)) rfl ?_)|exact SW.dF rfl)
  all_goals try omega
  refine ah.aY rfl rfl ⟨_,rfl,hw,?_⟩;congr 1
  omega
end Go.Proofs.YtbidkghlpijecaaGreatDoor
