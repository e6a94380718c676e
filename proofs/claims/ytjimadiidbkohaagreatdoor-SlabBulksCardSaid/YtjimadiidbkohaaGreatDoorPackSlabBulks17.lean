/-
  Texts of the claim SlabBulks, part 17: what its theorem leans on.
-/
import Derived.Test.YtjimadiidbkohaaGreatDoorPackSlabBulks16
import Derived.Test.YtjimadiidbkohaaGreatDoorPackSlabBulks4
import Derived.Test.YtjimadiidbkohaaGreatDoorPackSlabBulks3
import Derived.Test.YtjimadiidbkohaaGreatDoorPackSlabBulks2
import Derived.Test.YtjimadiidbkohaaGreatDoorPackSlabBulks5
import Derived.Test.YtjimadiidbkohaaGreatDoorPackSlabBulks8
import Derived.Test.YtjimadiidbkohaaGreatDoorPackSlabBulks9
import Derived.Test.YtjimadiidbkohaaGreatDoorPackSlabBulks10
import Derived.Test.YtjimadiidbkohaaGreatDoorPackSlabBulks7
import Derived.Test.YtjimadiidbkohaaGreatDoorPackSlabBulks11
set_option linter.unusedVariables false
set_option linter.unusedSimpArgs false
namespace Go.Proofs.YtjimadiidbkohaaGreatDoor
theorem mr.rO {h:Heap} {z0 z1:aq} (f:mr h z0 z1) {a:Int} {i:Nat} (ha:a=(i:Int)) (hc:dV (z0.ag++z1.ag++aS h.av) i=true) : ∀ b∈h.Live,b.At≠a:=fun b hb e=>by
 obtain ⟨l,m,e1⟩:=List.append_of_mem hb;have gd:=f.all;rw [e1,← List.append_assoc] at gd;have hf:=l9 gd;obtain ⟨j,hj,rfl⟩:=List.getElem_of_mem hb;have IW:=(f.live.each j hj).1;have hp:=bH IW.1 IW.2;obtain ⟨_,_,ho⟩:=hf;unfold dV at hc;rw [List.any_eq_true] at hc;obtain ⟨y,hy,IX⟩:=hc;unfold pX at IX;rw [Bool.and_eq_true,decide_eq_true_eq,decide_eq_true_eq] at IX
 have:fc (z0.ag++z1.ag++aS h.av++l) h.Live[j].At h.Live[j].Order=true:=by
  unfold fc;rw [List.any_eq_true];refine ⟨y,List.mem_append_left _ hy,?_⟩;rw [Bool.and_eq_true,decide_eq_true_eq,decide_eq_true_eq];omega
 rw [ho] at this;cases this
theorem pC {z:aq} (hz:bT z) {x:Block} (hx:x∈z.ag) : ∃ i:Nat,x.At=(i:Int)∧i<256∧dV z.ag i=true:=by
 obtain ⟨j,hj,rfl⟩:=List.getElem_of_mem hx;have h1:=(hz.cV j hj).1;have h2:=hz.ok;obtain ⟨o1,o2,o3,o4,o5⟩:=h2;have hp:=bH h1.1 h1.2.1;obtain ⟨b1,b2,b3,b4,b5⟩:=h1;refine ⟨z.ag[j].At.toNat,by omega,by omega,?_⟩;unfold dV;rw [List.any_eq_true];refine ⟨_,hx,?_⟩;unfold pX;rw [Bool.and_eq_true,decide_eq_true_eq,decide_eq_true_eq];omega
theorem lK {h:Heap} {z0 z1:aq} (f:mr h z0 z1) {a:Int} (ha:th (z0,z1) h.av a) : ∃ i:Nat,a=(i:Int)∧i<256∧dV (z0.ag++z1.ag++aS h.av) i=true:=by
 rcases ha with ⟨x,hx,rfl⟩|⟨x,hx,rfl⟩|⟨l,hl,hp⟩
 ·obtain ⟨i,h1,h2,h3⟩:=pC f.d.m8 hx;exact ⟨i,h1,h2,by rw [fq,fq,h3];rfl⟩
 ·obtain ⟨i,h1,h2,h3⟩:=pC f.d.l8 hx;exact ⟨i,h1,h2,by rw [fq,fq,h3];simp⟩
 ·have hm:cX a∈aS h.av:=by
   unfold aS;rw [List.mem_flatMap];exact ⟨l,hl,List.mem_map_of_mem hp⟩
  obtain ⟨j,hj,e⟩:=List.getElem_of_mem hm;have hN:=f.d.next hj;rw [e] at hN;have h1:=hN.at_;simp only [cX] at h1;refine ⟨a.toNat,by omega,by omega,?_⟩;rw [fq]
  have:dV (aS h.av) a.toNat=true:=by
   unfold dV;rw [List.any_eq_true];refine ⟨_,hm,?_⟩;unfold pX;rw [Bool.and_eq_true,decide_eq_true_eq,decide_eq_true_eq];have:pw 0=1:=by decide
   change a≤_∧_<a+pw 0
   omega
  rw [this];simp
theorem fu {h:Heap} {z0 z1:aq} (d:lC h z0 z1) : nQ (dt (z0,z1) (aS h.av)) (z0.ag++z1.ag++aS h.av):=by
 have:=d.inv (aS h.av).length (Nat.le_refl _)
 rwa [List.take_length] at this
theorem ks {h:Heap} {z0 z1:aq} (f:mr h z0 z1) {a:Int} (ha:th (dt (z0,z1) (aS h.av)) [] a) : ∃ i:Nat,a=(i:Int)∧i<256∧dV (z0.ag++z1.ag++aS h.av) i=true:=by
 have hD:=fu f.d;rcases ha with ⟨x,hx,rfl⟩|⟨x,hx,rfl⟩|⟨l,hl,hp⟩
 ·obtain ⟨i,h1,h2,h3⟩:=pC hD.m8 hx;exact ⟨i,h1,h2,by rw [← hD.B6,h3];rfl⟩
 ·obtain ⟨i,h1,h2,h3⟩:=pC hD.l8 hx;exact ⟨i,h1,h2,by rw [← hD.B6,h3];simp⟩
 ·simp at hl
theorem tm {h:Heap} {z0 z1:aq} (f:mr h z0 z1) : h.Live.length≤256:=by
 have hu:=rL f.live;rw [List.pairwise_iff_getElem] at hu
 have key:∀ (i:Nat) (hi:i<h.Live.length),(i:Int)≤h.Live[i].At:=by
  intro i;induction i with
  | zero=>intro hi;have:=(f.next hi).at_;exact this.1
  | succ i ih=>intro hi;have h1:=ih (by omega);have h2:=hu i (i+1) (by omega) hi (by omega);omega
 rcases Nat.lt_or_ge 256 h.Live.length with h1|h1
 ·have h2:=key 256 h1;have h3:=(f.next h1).at_;omega
 ·exact h1
open Go.RowKit
theorem g7.lists {m0 m1 cpu zi o t f:Int} {s:aq×aq} {L:List aA} {r:(aq×aq)×List aA×Int} (h:g7 m0 m1 cpu zi o t f s L (some r)) (hv:VS s) (hL:∀ l∈L,l.aw.length≤8) : r.2.1.length≤L.length+1 ∧ ∀ l∈r.2.1,l.aw.length≤8:=by
 cases h with
 | list ho hk hp =>
   obtain ⟨hl,_⟩:=jt hk;have e:=jj hk hl;have h8:=hL _ (List.getElem_mem hl);rw [← e] at h8;simp only;unfold rn;split
   ·exact ⟨by have:=List.length_eraseIdx_le L (a9 L ⟨cpu,zi,t,[]⟩);omega,fun l hl=>hL l (List.mem_of_mem_eraseIdx hl)⟩
   ·refine ⟨by rw [List.length_set];omega,fun l hl => ?_⟩;rcases List.mem_or_eq_of_mem_set hl with h1|rfl
    ·exact hL l h1
    ·simp only [dn,List.length_dropLast];omega
 | qI ho he ht hu=>exact ⟨by simp only;omega,hL⟩
 | @fill u r' ho hk he ht hu hr =>
   have h3:=(hr.vs (hv.qi (ht.vC hu).1)).2
   exact ⟨va hk,fun l hl=>by
    rcases u9 hk l hl with h1|rfl
    ·exact hL l h1
    ·simp only [dn];omega⟩
theorem g9.lists {m0 m1 cpu o t f:Int} {s:aq×aq} {L:List aA} {r:(aq×aq)×List aA×Int} (h:g9 m0 m1 cpu o t f s L (some r)) (hv:VS s) (hL:∀ l∈L,l.aw.length≤8) : r.2.1.length≤L.length+1 ∧ ∀ l∈r.2.1,l.aw.length≤8:=by
 cases h with
 | uh _ h=>exact h.lists hv hL
 | low _ h=>exact h.lists hv hL
theorem dJ.small {h:Heap} {cpu o f:Int} {u:Heap×Int×Int} (a:dJ h cpu o f u) (hs:h.small) : u.1.small:=by
 have hz:(Heap.zero).small:=by constructor<;>simp [Heap.zero]
 have key:∀ (z0 z1:aq) (F:mr h z0 z1) (s:aq×aq) (L:List aA) (x:Int) (t:Int),VS s→L.length≤257→(∀ l∈L,l.aw.length≤8)→(lc h s L (gp h x o t)).small:=fun z0 z1 F s L x t hv h1 h2=>by
  have KW:=kf hv.m8;have pW:=kf hv.l8;have kB:=tm F
  have Fy:(gp h x o t).length≤257:=by
   unfold gp;have sd:bF h.Live x≤h.Live.length:=List.findIdx_le_length
   rw [du _ sd];omega
  refine ⟨by simp [lc],hs.cn,?_,?_,fun z hz => ?_,fun l hl => ?_⟩
  ·simp only [lc];omega
  ·simp only [lc];omega
  ·simp only [lc,List.mem_cons,List.not_mem_nil,or_false] at hz;rcases hz with rfl|rfl
   ·omega
   ·omega
  ·have:=h2 l hl;omega
 cases a with
 | bad|range|form|room=>exact hz
 | once hb hr ht hz ha =>
   obtain ⟨z0,z1,F⟩:=jE (fP.1 hb);rw [F.d.cx] at hz;simp only [List.cons.injEq,and_true] at hz;obtain ⟨rfl,rfl⟩:=hz;have hv:=F.d.start.vs;obtain ⟨g1,g2⟩:=ha.lists hv (fun l hl=>(F.lists l hl).2);have:=F.count
   exact key _ _ F _ _ _ _ (ha.found hv).1 (by omega) g2
 | mu hb hr ht hz ha h2 =>
   obtain ⟨z0,z1,F⟩:=jE (fP.1 hb);rw [F.d.cx] at hz;simp only [List.cons.injEq,and_true] at hz;obtain ⟨rfl,rfl⟩:=hz;have hv:=(fu F.d).vs;obtain ⟨g1,g2⟩:=h2.lists hv (fun l hl=>by simp at hl);simp only [List.length_nil] at g1;exact key _ _ F _ _ _ _ (h2.found hv).1 (by omega) g2
theorem dJ.at_ {h:Heap} {cpu o f:Int} {u:Heap×Int×Int} (a:dJ h cpu o f u) (he:u.2.2=0) : 0≤u.2.1∧u.2.1<256:=by
 cases a with
 | bad|range|form|room=>simp at he
 | once hb hr ht hz ha =>
   obtain ⟨z0,z1,F⟩:=jE (fP.1 hb);rw [F.d.cx] at hz;simp only [List.cons.injEq,and_true] at hz;obtain ⟨rfl,rfl⟩:=hz;obtain ⟨i,e,h1,_⟩:=lK F (ha.found F.d.start.vs).2;simp only at e ⊢;omega
 | mu hb hr ht hz ha h2 =>
   obtain ⟨z0,z1,F⟩:=jE (fP.1 hb);rw [F.d.cx] at hz;simp only [List.cons.injEq,and_true] at hz;obtain ⟨rfl,rfl⟩:=hz;obtain ⟨i,e,h1,_⟩:=ks F (h2.found (fu F.d).vs).2;simp only at e ⊢;omega
open Go.RowKit
def gQ (a s m:Nat) (l:List Int) : Nat→List Int
 | 0=>l
 | k+1=>(gQ a s m l k).set (a+k*s) (if k+1<m then (a:Int)+((k:Int)+1)*s else -1)
def oC (a s:Nat) (l:List Int) : Nat→List Int
 | 0=>l
 | k+1=>(oC a s l k).set (a+s*k) ((a:Int)+((k:Int)+1)*s)
theorem vc (a s m:Nat) (l:List Int) : ∀ k,k<m→gQ a s m l k=oC a s l k
 | 0,_=>rfl
 | k+1,h=>by simp only [gQ,oC];rw [vc a s m l k (by omega),if_pos h,Nat.mul_comm k s]
theorem xV (a s m:Nat) (l:List Int) : gQ a s (m+1) l (m+1)=(oC a s l (m+1)).set (a+m*s) (-1):=by
 simp only [gQ,oC];rw [vc a s (m+1) l m (by omega),if_neg (by omega),Nat.mul_comm m s,List.set_set]
def ir (lo n:Nat) (l:List Int) (x s m:Int) (v:Value) (w:World) : Prop :=
 if 1≤s∧s≤64∧1≤m∧m≤n∧0≤x∧x+s*m≤n then ∃ A c,v = .tuple #[.slice A n c,.int .i64 0]∧Own w lo 3 1 bf A n c (gQ x.toNat s.toNat m.toNat l m.toNat)
 else v = .tuple #[.slice none 0 0,.int .i64 1]
theorem tp {s m n:Nat} (hs:s≤64) (hm:m≤n) : 0≤(s:Int)*m∧(s:Int)*m≤64*n:=by
 have h:s*m≤64*n:=Nat.mul_le_mul hs hm
 exact ⟨by omega,by omega⟩
theorem mh {s m k:Nat} (hk:k<m) : 0≤(k:Int)*s∧((k:Int)+1)*s=(k:Int)*s+s∧(k:Int)*s+s≤(s:Int)*m∧(s:Int)*k=(k:Int)*s:=by
 have h:(k+1)*s≤m*s:=Nat.mul_le_mul_right _ hk
 have e:((k:Int)+1)*s=(k:Int)*s+s:=by rw [Int.add_mul,Int.one_mul]
 have e2:(s:Int)*m=(m:Int)*s:=Int.mul_comm _ _
 rw [Nat.add_mul,Nat.one_mul] at h;refine ⟨by omega,e,by rw [e2];omega,Int.mul_comm _ _⟩
theorem nH (A:Option Addr) (n c:Nat) (l:List Int) (x s m:Int) (w:World) (hl:Sl w 1 bf A n l) (hn:n*8≤140737488355328) :
 bt Tryz.prog 76 [.slice A n c,.int .i64 x,.int .i64 s,.int .i64 m] w (ir w.heap.size n l x s m):=by
 refine aM Tryz.func76 rfl Tryz.ntmps76 rfl ?_;have hw:=Ext.refl w;have tM:n≤2305843009213693952:=by omega
 by_cases h1 : 1≤s∧s≤64
 ·by_cases h2 : 1≤m∧m≤n
  ·obtain ⟨s,rfl⟩:=Int.eq_ofNat_of_zero_le (a:=s) (by omega);obtain ⟨m,rfl⟩:=Int.eq_ofNat_of_zero_le (a:=m) (by omega);have hb:=tp (s:=s) (m:=m) (n:=n) (by omega) (by omega);by_cases h3 : 0≤x∧x+(s:Int)*m≤n
   ·obtain ⟨a,rfl⟩:=Int.eq_ofNat_of_zero_le h3.1;repeat' (first|refine Wz ?_|(refine SW.call rfl rfl (r7 _ _ _ _ _ _ tM) ?_;intro v w1 ab hv;subst hv;replace hw:=Ext.trans hw ab;clear ab))
    refine SW.call rfl rfl (eA _ _ _ _ _ (hl.ext hw) hn) fun v w1 ab hv => ?_
    obtain ⟨A1,c1,rfl,hO⟩:=hv;have fG:=hw.size;replace hw:=Ext.trans hw ab;replace hO:=Own.low hO fG;have rN:=hO.sl.base;refine Wz ?_
    refine CW.loop (fun k:Nat=>[(0,.slice A n c),(1,.int .i64 (a:Int)),(2,.int .i64 (s:Int)),(3,.int .i64 (m:Int)),(10,.slice A1 n c1),(40,.int .i64 (m:Int)),(41,.int .i64 (k:Int))])
     (fun k w'=>k≤m∧Ext w w'∧Own w' w.heap.size 3 1 bf A1 n c1 (gQ a s m l k)) (fun k=>m-k) 0 ⟨rfl,rfl,rfl,rfl,rfl,rfl,rfl,trivial⟩ ⟨by omega,hw,hO⟩ ?_
    clear hw hO;rintro k w' ⟨hk,hw,hO⟩
    by_cases Hr:k<m
    ·have hr:=mh (s:=s) Hr;have hp:a+k*s<n:=by omega
     by_cases qQ:k+1<m
     all_goals
      refine Wz ?_;refine SW.j8 (a+k*s) hO rfl rfl hp fun w2 gf hg => ?_
      replace hw:=aF hw hg (Nat.le_refl _) hO.aL;refine Wz ?_;refine ae.again (k+1) ⟨rfl,rfl,rfl,rfl,rfl,rfl,rfl,trivial⟩ (by omega) ⟨by omega,hw,?_⟩;simp only [gQ]
     ·rw [if_pos qQ];exact gf
     ·rw [if_neg qQ];exact gf
    ·refine Wz ?_;obtain rfl:k=m:=by omega
     refine ae.cy rfl rfl rfl ⟨_,rfl,hw,?_⟩;unfold ir;rw [if_pos (by omega)];exact ⟨A1,c1,rfl,hO⟩
   ·repeat' (first|refine Wz ?_|(refine SW.call rfl rfl (r7 _ _ _ _ _ _ tM) ?_;intro v w1 ab hv;subst hv;replace hw:=Ext.trans hw ab;clear ab))
    all_goals refine ae.cy rfl rfl rfl ⟨_,rfl,hw,?_⟩
    all_goals unfold ir
    all_goals rw [if_neg (by omega)]
  ·repeat' (first|refine Wz ?_|refine SW.bZ rfl rfl rfl (fun h => ?_) (fun h => ?_))
   all_goals refine ae.cy rfl rfl rfl ⟨_,rfl,hw,?_⟩
   all_goals unfold ir
   all_goals rw [if_neg (by omega)]
 ·repeat' (first|refine Wz ?_|refine SW.bZ rfl rfl rfl (fun h => ?_) (fun h => ?_))
  all_goals refine ae.cy rfl rfl rfl ⟨_,rfl,hw,?_⟩
  all_goals unfold ir
  all_goals rw [if_neg (by omega)]
theorem xW (A:Option Addr) (n c:Nat) (l:List Int) (x s m:Int) (w:World) (hl:Sl w 1 bf A n l) (hn:n*8≤140737488355328) :
 bt Tryz.prog 31 [.slice A n c,.int .i64 x,.int .i64 s,.int .i64 m] w (ir w.heap.size n l x s m):=by
 refine aM Tryz.func31 rfl Tryz.ntmps31 rfl ?_;have hw:=Ext.refl w;have tM:n≤2305843009213693952:=by omega
 by_cases h1 : 1≤s∧s≤64
 ·by_cases h2 : 1≤m∧m≤n
  ·obtain ⟨s,rfl⟩:=Int.eq_ofNat_of_zero_le (a:=s) (by omega);obtain ⟨m,rfl⟩:=Int.eq_ofNat_of_zero_le (a:=m) (by omega);have hb:=tp (s:=s) (m:=m) (n:=n) (by omega) (by omega);by_cases h3 : 0≤x∧x+(s:Int)*m≤n
   ·obtain ⟨a,rfl⟩:=Int.eq_ofNat_of_zero_le h3.1;obtain ⟨m,rfl⟩ : ∃ m',m=m'+1:=⟨m-1,by omega⟩;repeat' (first|refine Wz ?_|((first|refine SW.call rfl rfl (bK _ _ _ _) ?_|refine SW.call rfl rfl (lp _ _ _ _ _ _ tM) ?_);intro v w1 ab hv;subst hv;replace hw:=Ext.trans hw ab;clear ab))
    refine SW.call rfl rfl (gw _ _ _ _ _ (hl.ext hw) hn) fun v w1 ab hv => ?_
    obtain ⟨A1,c1,rfl,hO⟩:=hv;have fG:=hw.size;replace hw:=Ext.trans hw ab;replace hO:=Own.low hO fG;have rN:=hO.sl.base;refine Wz ?_
    refine CW.loop (fun k:Nat=>[(0,.slice A n c),(1,.int .i64 (a:Int)),(2,.int .i64 (s:Int)),(3,.int .i64 ((m+1:Nat) : Int)),(10,.slice A1 n c1),(11,.int .i64 (k:Int))])
     (fun k w'=>k≤m+1∧Ext w w'∧Own w' w.heap.size 3 1 bf A1 n c1 (oC a s l k)) (fun k=>m+1-k) 0 ⟨rfl,rfl,rfl,rfl,rfl,rfl,trivial⟩ ⟨by omega,hw,hO⟩ ?_
    clear hw hO;rintro k w' ⟨hk,hw,hO⟩
    by_cases Hr:k<m+1
    ·have hr:=mh (s:=s) Hr;have hp:a+s*k<n:=by have:=Nat.mul_comm k s;omega
     refine Wz ?_;refine SW.j8 (a+s*k) hO rfl rfl hp fun w2 gf hg => ?_
     replace hw:=aF hw hg (Nat.le_refl _) hO.aL;refine Wz ?_;refine ae.again (k+1) ⟨rfl,rfl,rfl,rfl,rfl,rfl,trivial⟩ (by omega) ⟨by omega,hw,?_⟩;simp only [oC];have e:(a:Int)+((k:Int)+1)*s=(a:Int)+(s:Int)*k+s:=by omega
     rw [e];exact gf
    ·obtain rfl:k=m+1:=by omega
     have hr:=mh (s:=s) (m:=m+1) (k:=m) (by omega);have e1:(s:Int)*((m+1:Nat) : Int)=(m:Int)*s+s:=by rw [Int.mul_comm];push_cast;omega
     have hp:a+m*s<n:=by omega
     repeat' (first|refine Wz ?_|refine SW.st (aZ (a+m*s) rfl rfl (by assumption) (by omega) (by omega)) rfl ?_)
     refine SW.j8 (a+m*s) hO rfl rfl hp fun w2 gf hg => ?_
     replace hw:=aF hw hg (Nat.le_refl _) hO.aL;refine Wz ?_;refine ae.cy rfl rfl rfl ⟨_,rfl,hw,?_⟩;unfold ir;rw [if_pos (by omega)];refine ⟨A1,c1,rfl,?_⟩;simp only [Int.toNat_natCast];rw [xV];exact gf
   ·repeat' (first|refine Wz ?_|((first|refine SW.call rfl rfl (bK _ _ _ _) ?_|refine SW.call rfl rfl (lp _ _ _ _ _ _ tM) ?_);intro v w1 ab hv;subst hv;replace hw:=Ext.trans hw ab;clear ab))
    all_goals refine ae.cy rfl rfl rfl ⟨_,rfl,hw,?_⟩
    all_goals unfold ir
    all_goals rw [if_neg (by omega)]
  ·repeat' (first|refine Wz ?_|(refine SW.call rfl rfl (bK _ _ _ _) ?_;intro v w1 ab hv;subst hv;replace hw:=Ext.trans hw ab;clear ab))
   all_goals refine ae.cy rfl rfl rfl ⟨_,rfl,hw,?_⟩
   all_goals unfold ir
   all_goals rw [if_neg (by omega)]
 ·repeat' (first|refine Wz ?_|(refine SW.call rfl rfl (bK _ _ _ _) ?_;intro v w1 ab hv;subst hv;replace hw:=Ext.trans hw ab;clear ab))
  all_goals refine ae.cy rfl rfl rfl ⟨_,rfl,hw,?_⟩
  all_goals unfold ir
  all_goals rw [if_neg (by omega)]
open Go.RowKit
inductive gq (ws:List Int) (size fk t:Int) : Int→Nat→Prop where
 | zero (x:Int) : gq ws size fk t x 0
 | succ {k n:Nat} (hk:k<ws.length) (ho:k8 size fk t k=true) (h:gq ws size fk t ws[k] n) : gq ws size fk t k (n+1)
theorem gq.Bx {ws:List Int} {most size fk t x:Int} {acc:List Int} {r:Option (List Int)} (h:dR ws most x acc r) : ∀ out,r=some out→(∀ a∈out,k8 size fk t a=true)→gq ws size fk t x (out.length-acc.length):=by
 induction h with
 | done out =>
   intro o e _;cases e
   rw [Nat.sub_self];exact .zero _
 | bad=>intro o e;cases e
 | @step k acc r h1 hk h3 h ih =>
   intro o e ho;have h2:=ih o e ho
   have hm:∀ {x':Int} {EV:List Int} {r':Option (List Int)},dR ws most x' EV r' → ∀ o',r'=some o'→(∀ a∈EV,a∈o')∧EV.length≤o'.length:=by
    intro x' EV r' hf;induction hf with
    | done out=>intro o' e';cases e';exact ⟨fun a h=>h,Nat.le_refl _⟩
    | bad=>intro o' e';cases e'
    | step _ _ _ _ JA =>
      intro o' e';obtain ⟨a1,a2⟩:=JA o' e';rw [List.length_append] at a2;exact ⟨fun a h=>a1 a (List.mem_append_left _ h),by omega⟩
   obtain ⟨a1,a2⟩:=hm h o e;rw [List.length_append,List.length_singleton] at a2 h2;have e2:o.length-acc.length=(o.length-(acc.length+1))+1:=by omega
   rw [e2];exact .succ hk (ho _ (a1 _ (by simp))) h2
theorem gq.EW {ws:List Int} {size fk:Int} {x:Slab} {out:List Int} (h:px ws size fk x out) : gq ws size fk x.At x.dg x.ag.toNat:=by
 have h1:=gq.Bx (t:=x.At) h.1 out rfl h.2.2;have h2:=h.2.1;have e:out.length-([] : List Int).length=x.ag.toNat:=by simp;omega
 rw [e] at h1;exact h1
theorem gq.head {ws:List Int} {size fk t x:Int} {n:Nat} (h:gq ws size fk t x (n+1)) : (0≤x∧x<(ws.length:Int))∧gq ws size fk t (ws.getD x.toNat 0) n:=by
 cases h with
 | @succ k n hk ho h =>
   refine ⟨by omega,?_⟩;have e:ws.getD ((k:Int)).toNat 0=ws[k]:=by simp [hk]
   rw [e];exact h
theorem gq.vC {ws KY:List Int} {size fk t x:Int} {n:Nat} (h:gq ws size fk t x n) (hl:KY.length=ws.length) (he:∀ (k:Nat) (hk:k<ws.length),k8 size fk t k=true→KY[k]'(by omega)=ws[k]) : gq KY size fk t x n:=by
 induction h with
 | zero=>exact .zero _
 | @succ k n hk ho h ih =>
   refine .succ (by omega) ho ?_;rw [he k hk ho];exact ih
theorem iu (a s m:Nat) (l:List Int) : ∀ k,(gQ a s m l k).length=l.length
 | 0=>rfl
 | k+1=>by simp only [gQ,List.length_set];exact iu a s m l k
theorem pD (a s m:Nat) (l:List Int) (j:Nat) : ∀ (k:Nat),(∀ i,i<k→j≠a+i*s)→(gQ a s m l k)[j]?=l[j]?
 | 0,_=>rfl
 | k+1,h=>by
   simp only [gQ];rw [List.getElem?_set,if_neg (fun e=>h k (by omega) e.symm)];exact pD a s m l j k (fun i hi=>h i (by omega))
theorem vd (a s m:Nat) (hs : 0<s) (l:List Int) (i:Nat) (hl:a+i*s<l.length) : ∀ (k:Nat),i<k→(gQ a s m l k)[a+i*s]?=some (if i+1<m then (a:Int)+((i:Int)+1)*s else -1)
 | 0,h=>by omega
 | k+1,h=>by
   simp only [gQ];rw [List.getElem?_set];by_cases e:k=i
   ·subst e;rw [if_pos rfl,if_pos (by rw [iu];exact hl)]
   ·have cG:a+k*s≠a+i*s:=fun h0=>by
     have:=Nat.eq_of_mul_eq_mul_right hs (Nat.add_left_cancel h0)
     exact e this
    rw [if_neg cG];exact vd a s m hs l i hl k (by omega)
structure NU (ws:List Int) (lv:List Block) (c:bg) (x:Slab) : Prop where
 at_ : 0≤x.At∧x.At≤255
 al:x.At % pw c.Order=0
 live:∃ b∈lv,b.At=x.At
 free : 0≤x.ag∧x.ag≤64
 walk:gq ws c.bh c.cj x.At x.dg x.ag.toNat
structure mi (s:aE) (c:bg) : Prop where
 words:s.Words.length=4096
 most:s.aa.length≤20
 lay:dF c.bh=(c.Order,c.cj,0)
 xJ:∀ (k:Nat) (h:k<c.au.length),c.au[k] = -1∨c.ah.any (xI c.au[k])=true
 next:c.ah.Pairwise fun x y=>x.At<y.At
 rp:∀ x∈c.ah,NU s.Words s.Heap.Live c x
theorem mi.of {s:aE} (hM:jm s) {i:Nat} (hi:i<s.aa.length) : mi s s.aa[i]:=by
 have hc:=(hM.each i hi).may;have hl:=gm hc.lay;refine ⟨hM.words,hM.most,hc.lay,fun k h => ?_,?_,fun x hx => ?_⟩
 ·rcases hc.xJ k h with g|⟨_,g⟩
  ·exact .inl g
  ·exact .inr g
 ·rw [List.pairwise_iff_getElem]
  have key:∀ (a b:Nat) (ha:a<s.aa[i].ah.length) (hb:b<s.aa[i].ah.length),a<b→s.aa[i].ah[a].At<s.aa[i].ah[b].At:=by
   intro a b;induction b with
   | zero=>intro _ _ h;omega
   | succ b ih =>
     intro ha hb h;have h2:=(hc.aR (b+1) hb).next (by omega);simp only [Nat.add_sub_cancel] at h2;by_cases e:a=b
     ·subst e;exact h2
     ·have:=ih ha (by omega) (by omega);omega
  exact key
 ·obtain ⟨k,hk,rfl⟩:=List.getElem_of_mem hx;have hs:=hc.aR k hk;obtain ⟨out,h⟩:=hs.chain;obtain ⟨hf,h3⟩:=hs.at_ hM.heap hl.2.1.1;obtain ⟨oV,e⟩:=pq hf;obtain ⟨g1,g2,g3,_⟩:=hM.heap.live.each _ oV;have FH:=hs.live;rw [zb hf oV] at FH;rw [e,FH] at g3;have h4:=h.1.IV (by simp;omega) out rfl;have h5:=h.2.1;exact ⟨h3,g3,⟨_,List.getElem_mem oV,e⟩,by omega,.EW h⟩
open Go.RowKit
def jU (c:bg) (x:Slab) : Bool:=decide (0<x.ag) && !decide (x.At∈c.au)
def uo (c:bg) (cpu:Nat) : Int:=idxOf (xI (c.au.getD cpu 0)) c.ah
def c7 (c:bg) (k:Nat) : Slab:=c.ah.getD k ⟨0,0,0⟩
theorem fK {c:bg} {k:Nat} (h:k<c.ah.length) : c7 c k=c.ah[k]:=by simp [c7,h]
def fZ (c:bg) (cpu:Nat) : Int:=if 0≤uo c cpu∧0<(c7 c (uo c cpu).toNat).ag then uo c cpu else idxOf (jU c) c.ah
def fv (c:bg) (cpu k:Nat) (v:Int) : bg:=⟨c.Names,c.bh,c.cj,c.Order,c.ah.set k ⟨(c7 c k).At,(c7 c k).ag-1,v⟩,c.au.set cpu (c7 c k).At⟩
def iD (c:bg) (a:Int) : Nat:=(c.ah.takeWhile fun x=>decide (x.At<a)).length
theorem kQ (c:bg) (a:Int) : iD c a≤c.ah.length:=(List.takeWhile_sublist _).length_le
def ed (c:bg) (a:Int) : bg:=⟨c.Names,c.bh,c.cj,c.Order,aU c.ah (iD c a) ⟨a,c.cj,16*a⟩,c.au⟩
def fL (s:aE) (l:List Int) : aE:=⟨l,s.Heap,s.aa⟩
def fD (n:Nat) (x s m:Int) : Prop:=1≤s∧s≤64∧1≤m∧m≤n∧0≤x∧x+s*m≤n
def ez (l:List Int) (x s m:Int) : List Int:=gQ x.toNat s.toNat m.toNat l m.toNat
structure By where
 ws:List Int
 h:Heap
 c:bg
 k:Nat
inductive jZ (s:aE) (c:bg) (cpu:Nat) : Option By×Int→Prop where
 | Aq {k:Nat} (h:fZ c cpu=k) : jZ s c cpu (some ⟨s.Words,s.Heap,c,k⟩,0)
 | room {u:Heap×Int×Int} (h:fZ c cpu<0) (ha:dJ s.Heap (cpu:Int) c.Order 0 u) (he:u.2.2≠0) : jZ s c cpu (none,u.2.2)
 | chain {u:Heap×Int×Int} (h:fZ c cpu<0) (ha:dJ s.Heap (cpu:Int) c.Order 0 u) (he:u.2.2=0) (hc : ¬ fD s.Words.length (16*u.2.1) c.bh c.cj) : jZ s c cpu (none,1)
 | new {u:Heap×Int×Int} (h:fZ c cpu<0) (ha:dJ s.Heap (cpu:Int) c.Order 0 u) (he:u.2.2=0) (hc:fD s.Words.length (16*u.2.1) c.bh c.cj) : jZ s c cpu (some ⟨ez s.Words (16*u.2.1) c.bh c.cj,u.1,ed c u.2.1,iD c u.2.1⟩,0)
theorem jZ.jK {s:aE} {c:bg} {cpu:Nat} {u v:Option By×Int} (x:jZ s c cpu u) (y:jZ s c cpu v) : u=v:=by
 cases x with
 | @Aq k h=>cases y with
   | @Aq j h' =>
     obtain rfl:k=j:=by omega
     rfl
   | room h'|chain h'|new h'=>omega
 | room h ha he=>cases y with
   | Aq h'=>omega
   | room h' iB nV=>rw [ha.jK iB]
   | chain h' iB nV|new h' iB nV=>exact absurd (by rw [ha.jK iB];exact nV) he
 | chain h ha he hc=>cases y with
   | Aq h'=>omega
   | room h' iB nV=>exact absurd (by rw [iB.jK ha];exact he) nV
   | chain h' iB nV iV=>rfl
   | new h' iB nV iV=>exact absurd (by rw [ha.jK iB];exact iV) hc
 | new h ha he hc=>cases y with
   | Aq h'=>omega
   | room h' iB nV=>exact absurd (by rw [iB.jK ha];exact he) nV
   | chain h' iB nV iV=>exact absurd (by rw [iB.jK ha];exact hc) iV
   | new h' iB nV iV=>rw [ha.jK iB]
def Ar (s:aE) (i cpu:Nat) : Option By×Int→aE×Int×Int
 | (some m,_)=>(bQ (fL s m.ws) i (m.h,fv m.c cpu m.k (m.ws.getD (c7 m.c m.k).dg.toNat 0)),(c7 m.c m.k).dg,0)
 | (none,e)=>(.zero,0,e)
theorem xX {s:aE} {i cpu:Nat} {m:Option By×Int} (hi:i<s.aa.length) (x:jZ s s.aa[i] cpu m) (hf:s.gL) (hn:(s.aa[i].ah.length+1)*24≤140737488355328) : (Ar s i cpu m).1.small:=by
 have hc:=hf.KU hi;have hs:=hf.small;have h1:=hc.small;cases x with
 | room|chain=>exact aE.kq
 | Aq h =>
   refine ⟨hs.words,hs.heap,by simp only [Ar,bQ,fL,List.length_set];exact hs.dW,fun c iV => ?_⟩;rcases List.mem_or_eq_of_mem_set iV with iV|rfl
   ·exact hs.each c iV
   ·exact ⟨h1.names,by simp only [fv,List.length_set];exact h1.aR,by simp only [fv,List.length_set];exact h1.ba⟩
 | new h ha he B4 =>
   refine ⟨by simp only [Ar,bQ,fL,ez,iu];exact hs.words,ha.small hs.heap,by simp only [Ar,bQ,fL,List.length_set];exact hs.dW,fun c iV => ?_⟩;rcases List.mem_or_eq_of_mem_set iV with iV|rfl
   ·exact hs.each c iV
   ·refine ⟨h1.names,?_,by simp only [fv,ed,List.length_set];exact h1.ba⟩;simp only [fv,ed,List.length_set];rw [du _ (kQ _ _)];exact hn
theorem As {c:bg} {a:Int} {j:Nat} (h:j<iD c a) (hj:j<c.ah.length) : c.ah[j].At<a:=by
 unfold iD at h;have h1:(c.ah.takeWhile fun x=>decide (x.At<a))[j]=c.ah[j]:=List.IsPrefix.getElem (List.takeWhile_prefix _) h
 have:=List.all_takeWhile (p:=fun x:Slab=>decide (x.At<a)) (l:=c.ah)
 rw [List.all_eq_true] at this;have:=this _ (List.getElem_mem h)
 rw [h1] at this;exact of_decide_eq_true this
theorem Dr {α:Type} {p : α → Bool}:∀ (l:List α) (x : α),l[(l.takeWhile p).length]?=some x→p x=false
 | [],x,h=>by simp at h
 | a::r,x,h=>by
   rw [List.takeWhile_cons] at h;cases e:p a with
   | false =>
     rw [e] at h;simp at h;subst h;exact e
   | true =>
     rw [e] at h;simp at h;exact Dr r x h
theorem nI {c:bg} {a:Int} {k:Nat} (hk:k≤c.ah.length) (h1:∀ (j:Nat) (hj:j<c.ah.length),j<k→c.ah[j].At<a) (h2:∀ h:k<c.ah.length,¬ c.ah[k].At<a) : iD c a=k:=by
 rcases Nat.lt_trichotomy (iD c a) k with h|h|h
 ·exfalso;have h3:iD c a<c.ah.length:=by omega
  have h4:=Dr (p:=fun x:Slab=>decide (x.At<a)) c.ah c.ah[iD c a] (List.getElem?_eq_getElem h3);exact of_decide_eq_false h4 (h1 _ h3 h)
 ·exact h
 ·exact absurd (As h (by have:=kQ c a;omega)) (h2 _)
theorem qt {s:aE} {c:bg} (hM:mi s c) : c.ah.length≤256:=by
 have hn:=hM.next;rw [List.pairwise_iff_getElem] at hn
 have key:∀ (k:Nat) (hk:k<c.ah.length),(k:Int)≤c.ah[k].At:=by
  intro k;induction k with
  | zero=>intro hk;have:=(hM.rp _ (List.getElem_mem hk)).at_;omega
  | succ k ih =>
    intro hk;have h1:=ih (by omega);have h2:=hn k (k+1) (by omega) hk (by omega);omega
 rcases Nat.lt_or_ge 256 c.ah.length with h|h
 ·have h1:=key 256 h;have h2:=(hM.rp _ (List.getElem_mem h)).at_;omega
 ·exact h
theorem ve {s:aE} {c:bg} (hM:mi s c) {cpu:Nat} (hc:cpu<c.au.length) :
 (c.au[cpu] = -1∧uo c cpu = -1)∨(0≤c.au[cpu] ∧ ∃ (k:Nat) (hk:k<c.ah.length),uo c cpu=k∧c.ah[k].At=c.au[cpu]):=by
 have ha:=hM.xJ cpu hc;have e:c.au.getD cpu 0=c.au[cpu]:=by simp [hc]
 unfold uo;rw [e];rcases ha with h|h
 ·left;refine ⟨h,(fA fun j hj => ?_).1⟩;rw [h];have:=(hM.rp _ (List.getElem_mem hj)).at_
  unfold xI;exact decide_eq_false (by omega)
 ·right;obtain ⟨k,hk,h1,_,h2⟩:=mg h;have h3:=of_decide_eq_true h1;have:=(hM.rp _ (List.getElem_mem hk)).at_
  exact ⟨by omega,k,hk,h2,h3⟩
theorem mi.first {s:aE} {c:bg} (hM:mi s c) {x:Slab} (hx:x∈c.ah) (hf : 0<x.ag) : (0≤x.dg∧x.dg<4096)∧gq s.Words c.bh c.cj x.At (s.Words.getD x.dg.toNat 0) (x.ag-1).toNat:=by
 have h:=(hM.rp x hx).walk;rw [show x.ag.toNat=(x.ag-1).toNat+1 by omega] at h;have h2:=h.head;rw [hM.words] at h2;exact h2
structure IY (s:aE) (m:By) : Prop where
 hk:m.k<m.c.ah.length
 len:m.ws.length=4096
 first : 0≤m.c.ah[m.k].dg∧m.c.ah[m.k].dg<4096
 free : 1≤m.c.ah[m.k].ag∧m.c.ah[m.k].ag≤64
theorem tq {α:Type} {l:List α} {p:Nat} {x : α} (hp:p≤l.length) (h:p<(aU l p x).length) : (aU l p x)[p]=x:=by
 have:=kg (x:=x) hp
 rw [List.getElem?_eq_getElem h] at this;exact Option.some.inj this
theorem wj {c:bg} {cpu k:Nat} (h:fZ c cpu=k) : ∃ hk:k<c.ah.length,0<c.ah[k].ag:=by
 unfold fZ at h;split at h
 ·rename_i h1;rw [h] at h1;have e:((k:Int)).toNat=k:=by omega
  rw [e] at h1
  have hk:k<c.ah.length:=by
   rcases Nat.lt_or_ge k c.ah.length with h2|h2
   ·exact h2
   ·have:c7 c k=⟨0,0,0⟩:=by simp [c7,List.getElem?_eq_none h2]
    rw [this] at h1;simp at h1
  rw [fK hk] at h1;exact ⟨hk,h1.2⟩
 ·have hg:=iL (jU c) c.ah;rw [h,decide_eq_true (by omega)] at hg;obtain ⟨j,hj,h1,_,h2⟩:=mg hg.symm;rw [h] at h2;obtain rfl:k=j:=by omega
  refine ⟨hj,?_⟩;unfold jU at h1;simp only [Bool.and_eq_true,decide_eq_true_eq] at h1;exact h1.1
theorem jZ.Fp {s:aE} {c:bg} (hM:mi s c) {cpu:Nat} {u:Option By×Int} (x:jZ s c cpu u) : ∀ m,u.1=some m→IY s m:=by
 intro m e;cases x with
 | room|chain=>cases e
 | Aq h =>
   simp only [Option.some.injEq] at e;subst e;obtain ⟨hk,hf⟩:=wj h;have:=(hM.rp _ (List.getElem_mem hk)).free
   exact ⟨hk,hM.words,(hM.first (List.getElem_mem hk) hf).1,by simp only;omega⟩
 | @new u h ha he hc =>
   simp only [Option.some.injEq] at e;subst e;have o7:=ha.at_ he;have hl:=gm hM.lay;have hp:=kQ c u.2.1
   have hk:iD c u.2.1<(ed c u.2.1).ah.length:=by
    simp only [ed];rw [du _ hp];omega
   have e:(ed c u.2.1).ah[iD c u.2.1]=⟨u.2.1,c.cj,16*u.2.1⟩:=tq hp hk
   refine ⟨hk,by simp only [ez,iu];exact hM.words,?_,?_⟩
   ·simp only [e];omega
   ·simp only [e];omega
open Go.RowKit
set_option maxHeartbeats 4000000 in
theorem iR (A:Option Addr) (n c lo:Nat) (l:List Slab) (w:World) (hO:Own w lo 48 3 a8 A n c l) (i:Nat) (hi:i≤n) (x:Slab) (b:Nat) (hB:aI w b 48 (a8 x)) (cG:aQ A c≠some b) (hn:(n+1)*24≤140737488355328) (fG:lo≤w.heap.size) :
 il Tryz.prog 77 [.slice A n c,.int .i64 (i:Int),.slice (some ⟨b,0,none⟩) 1 1] w fun v w' => ∃ A' c',v = .slice A' (n+1) c'∧Own w' lo 48 3 a8 A' (n+1) c' (aU l i x)∧w.grownBy w' (aQ A c) ∧ ∀ k,aQ A' c'=some k→aQ A c=some k∨w.heap.size≤k:=by
 refine dC Tryz.func77 rfl Tryz.ntmps77 rfl ?_;have hle:=hO.le;have kB:=hO.len;have hA:=hO.sl.base;have hw:=Ext.refl w;have kH:Sl w 3 a8 (some ⟨b,0,none⟩) 1 [x]:=aI.lj hB
 have jV:(a8 x).length=3:=rfl
 have oI:∀ q:List Slab,(q.flatMap a8).length=q.length*3:=fun q=>bc q
 have nL:∀ (q:List Slab) (v:Value),v∈q.flatMap a8→v.oneCell'=true:=fun q v hv=>by
  obtain ⟨u,_,hu⟩:=List.mem_flatMap.1 hv;exact fO.one (enc:=a8) u v hu
 by_cases ck:i=n
 ·subst ck;repeat' (first|refine Wz ?_|(refine SW.st (bi (k:=i) rfl rfl (by omega) (by omega)) rfl ?_))
  all_goals try omega
  refine SW.vL hO kH fG (by omega) rfl rfl rfl (by omega) (by omega) fun A2 c2 w2 dp => ?_
  have sM:Own w2 lo 48 3 a8 A2 (i+1) c2 (l++[x])∧w.grownBy w2 (aQ A c) ∧ ∀ k,aQ A2 c2=some k→aQ A c=some k∨w.heap.size≤k:=by
   rcases dp with ⟨rfl,rfl,h1,h2⟩|⟨h1,h2⟩
   ·exact ⟨h1,h2,fun k e => .inl e⟩
   ·exact ⟨h1.low fG,(aF (Ext.refl w) h2 (Nat.le_refl _) (fun k e=>by cases e)).gr _,fun k e => .inr (h1.aL k e)⟩
  obtain ⟨gf,hg,kV⟩:=sM;refine Wz ?_;refine ae.aO rfl rfl ⟨_,rfl,A2,c2,rfl,?_,hg,kV⟩;have e:aU l i x=l++[x]:=by unfold aU;rw [List.take_of_length_le (by omega),List.drop_eq_nil_of_le (by omega)];simp
  rw [e];exact gf
 ·by_cases jz:n+1≤c
  ·obtain ⟨g,rest,rfl,h1,h2,h3,h4,h5,h6⟩:=hO.opened (by omega);have AH:g≠b:=fun e=>cG (by rw [h6,e])
   have es:l.flatMap a8++rest=(l.take i).flatMap a8++((l.drop i).flatMap a8++rest):=by rw [← List.append_assoc,← List.flatMap_append,List.take_append_drop]
   have e1:((l.take i).flatMap a8).length=i*3:=by rw [oI];simp;omega
   have e2:((l.drop i).flatMap a8).length=(n-i)*3:=by rw [oI];simp [kB]
   have lV:=hO.sl.drop i c (by omega) (by omega);rw [if_neg (by omega)] at lV;rw [es] at h2
   have wU:∀ w',Ext w w'→(Extern.SlicesOverlaps.overlaps #[44,44] #[4] #[.slice (some ⟨b,0,none⟩) 1 1,.slice (if c=i+1 then (some ⟨g,0,none⟩) else (some (⟨g,0,none⟩ : Addr)).map (·.add ((i+1)*3))) (n+1-(i+1)) (c-(i+1))]).run Tryz.prog w' = .ok (.bool false) w':=fun w' hx=>by
    rw [if_neg (by omega),Option.map_some,c9];have b1:=hB.ext hx;have b2:=h2.ext hx;unfold aI at b1 b2
    exact Lib.run_overlaps_apart w' 44 4 48 (bw.ky (t:=44)) 3 (fun w0=>run_sizeOf (bw.size (t:=44)) w0) ⟨b,0,none⟩ ⟨g,(i+1)*3,none⟩ 1 1 _ _ (fun e=>AH e.symm) 48 48 (a8 x).toArray.size ((l.take i).flatMap a8++((l.drop i).flatMap a8++rest)).toArray.size
     (by simp only [World.shape?,b1]) (by simp only [World.shape?,b2]) (by simp [e1,e2];omega) (by simp [World.frozen?,b1]) (by simp [World.frozen?,b1])
   repeat' (first|refine Wz ?_|(refine CW.bG rfl ?_)|(refine SW.st (bi (k:=i) rfl rfl (by omega) (by omega)) rfl ?_)|(refine SW.st (dc (k:=n+1) rfl rfl (by omega)) rfl ?_)|(refine SW.st (bi (k:=i+1) rfl rfl (by omega) (by omega)) rfl ?_)|(refine SW.entry Tryz.func108 (by kernel_rfl) (by kernel_rfl) (by kernel_rfl) (e:=Extern.SlicesOverlaps.overlaps #[44,44] #[4]) (by kernel_rfl) rfl rfl (wU _ hw) ?_))
   all_goals try omega
   have uB:((n-i)+1)*3≤((l.drop i).flatMap a8++rest).length:=by rw [List.length_append,e2];omega
   have e4:(l.drop i).flatMap a8++rest=((l.drop i).flatMap a8++rest).take 3++(((l.drop i).flatMap a8++rest).drop 3).take ((n-i)*3)++((l.drop i).flatMap a8++rest).drop (3+(n-i)*3):=by
    rw [List.append_assoc,← List.drop_drop,List.take_append_drop,List.take_append_drop]
   generalize Cs:((l.drop i).flatMap a8++rest).take 3=D1 at e4
   generalize Ct:(((l.drop i).flatMap a8++rest).drop 3).take ((n-i)*3)=D2 at e4
   generalize Cu:((l.drop i).flatMap a8++rest).drop (3+(n-i)*3)=D3 at e4
   have f1:D1.length=3:=by rw [← Cs];simp only [List.length_take];omega
   have f2:D2.length=(n-i)*3:=by rw [← Ct];simp only [List.length_take,List.length_drop];omega
   have f3:D3.length+3=rest.length:=by rw [← Cu];simp only [List.length_drop,List.length_append,e2];omega
   rw [e4] at h2;refine CW.any 8 mixed (cq (by kernel_rfl)) rfl fun w1 ab aG => ?_
   replace hw:=Ext.trans hw ab;replace hO:=hO.ext ab;replace hB:=hB.ext ab;replace h2:=h2.ext ab;clear ab;refine Wa ?_;refine SA.take 4 aG rfl (by kernel_rfl) (by kernel_rfl) rfl ?_;repeat ((refine SW.st (bi (k:=i+1) rfl rfl (by omega) (by omega)) rfl ?_))
   refine SW.ai ?_;refine Wa ?_;refine SA.take 7 aG rfl (by kernel_rfl) (by kernel_rfl) rfl ?_;repeat ((refine SW.st (bi (k:=i) rfl rfl (by omega) (by omega)) rfl ?_))
   refine SW.ai ?_;refine SA.done (by kernel_rfl) ?_;refine SW.copy (k:=n-i) ((i+1)*3) ((l.drop i).flatMap a8) h2 rfl rfl rfl (by omega) e2 (by simp only [List.length_append,e1,e2,f1,f2];omega) (fun h0=>⟨by rw [if_neg (by omega)];simp [c9],(⟨g,0,none⟩ : Addr).add (i*3),by rw [if_neg (by omega)];rfl,fun j v hv=>dq (by omega) (lV.ext hw) j v hv⟩) (nL _) fun w3 mx tH => ?_
   have g1:=eW ((l.take i).flatMap a8++D1) D2 D3 ((l.drop i).flatMap a8) (by rw [e2,f2]) (o:=(i+1)*3) (by rw [List.length_append,e1,f1];omega);have g0:(l.take i).flatMap a8++(D1++D2++D3)=(l.take i).flatMap a8++D1++D2++D3:=by simp only [List.append_assoc]
   rw [g0,g1] at mx;have Es:=bP (hw.gr (aQ (some ⟨g,0,none⟩) c)) tH (.inl h6.symm);have Ia:=hB.grown tH (by simpa using fun e=>AH e.symm);repeat' (first|refine Wz ?_|(refine SW.st (bi (k:=i) rfl rfl (by omega) (by omega)) rfl ?_))
   refine SW.copy (k:=1) (i*3) (a8 x) mx rfl rfl rfl (by omega) jV (by simp only [List.length_append,e1,e2,f1,jV];omega) (fun h0=>⟨by rw [if_neg (by omega)];simp [c9],⟨b,0,none⟩,rfl,fun j v hv=>Ia.cell hv⟩) (fO.one (enc:=a8) x) fun w4 mQ vo => ?_
   have g2:=eW ((l.take i).flatMap a8) D1 ((l.drop i).flatMap a8++D3) (a8 x) (by rw [jV,f1]) (o:=i*3) e1.symm;have g3:(l.take i).flatMap a8++D1++(l.drop i).flatMap a8++D3=(l.take i).flatMap a8++D1++((l.drop i).flatMap a8++D3):=by simp only [List.append_assoc]
   have g4:(l.take i).flatMap a8++a8 x++((l.drop i).flatMap a8++D3)=(aU l i x).flatMap a8++D3:=by unfold aU;simp only [List.flatMap_append,List.flatMap_cons,List.flatMap_nil,List.append_nil,List.append_assoc]
   rw [g3,g2,g4] at mQ;have Cv:=Own.closed (n:=n+1) (c:=c) (l:=aU l i x) (by unfold aU;simp;omega) mQ (by omega) jz (by omega) h5 h1;have Cw:=bP Es vo (.inl h6.symm);refine Wz ?_;exact ae.aO rfl rfl ⟨_,rfl,_,_,rfl,Cv,Cw,fun k e => .inl e⟩
  ·have Fm:c=n:=by omega
   have lV:=hO.sl.drop i c (by omega) (by omega);have pU:=hO.sl.pre (i:=i) (by omega);repeat' (first|refine Wz ?_|(refine SW.st (bi (k:=i) rfl rfl (by omega) (by omega)) rfl ?_)|(refine SW.st (dc (k:=i) rfl rfl (by omega)) rfl ?_))
   all_goals try omega
   refine SW.vy (k:=n+1-i) pU Tryz.underlying3 rfl rfl (by omega) rfl (by omega) (by omega) (by omega) (by omega) fun g rest c2 w2 cJ tT h2 h3 h4 h5 => ?_
   have e1:((l.take i).flatMap a8).length=i*3:=by rw [oI];simp;omega
   have e2:((l.drop i).flatMap a8).length=(n-i)*3:=by rw [oI];simp [kB]
   have uB:((n-i)+1)*3≤rest.length:=by omega
   have e4:rest=rest.take 3++(rest.drop 3).take ((n-i)*3)++rest.drop (3+(n-i)*3):=by
    rw [List.append_assoc,← List.drop_drop,List.take_append_drop,List.take_append_drop]
   generalize Cs:rest.take 3=D1 at e4
   generalize Ct:(rest.drop 3).take ((n-i)*3)=D2 at e4
   generalize Cu:rest.drop (3+(n-i)*3)=D3 at e4
   have f1:D1.length=3:=by rw [← Cs];simp only [List.length_take];omega
   have f2:D2.length=(n-i)*3:=by rw [← Ct];simp only [List.length_take,List.length_drop];omega
   have f3:D3.length+((n-i)+1)*3=rest.length:=by rw [← Cu];simp only [List.length_drop];omega
   rw [e4] at h2;have dz:aQ A c≠some g:=fun e=>by have:=hO.lt_size _ e;omega
   have AH:b≠g:=by have:=hB.lt;omega
   replace lV:=lV.ext cJ;replace hB:=hB.ext cJ;replace hw:=Ext.trans hw cJ;repeat' (first|refine Wz ?_|(refine SW.st (bi (k:=i) rfl rfl (by omega) (by omega)) rfl ?_))
   refine SW.copy (k:=1) (i*3) (a8 x) h2 rfl rfl rfl (by omega) jV (by simp only [List.length_append,e1,f1,f2,jV];omega) (fun h0=>⟨by rw [if_neg (by omega)];simp [c9],⟨b,0,none⟩,rfl,fun j v hv=>hB.cell hv⟩) (fO.one (enc:=a8) x) fun w3 mx tH => ?_
   have g2:=eW ((l.take i).flatMap a8) D1 (D2++D3) (a8 x) (by rw [jV,f1]) (o:=i*3) e1.symm;have g3:(l.take i).flatMap a8++(D1++D2++D3)=(l.take i).flatMap a8++D1++(D2++D3):=by simp only [List.append_assoc]
   rw [g3,g2] at mx;have tI:Ext w w3:=hw.own tT tH
   have kI:Sl w3 3 a8 (if c=i then A else A.map (·.add (i*3))) (n-i) (l.drop i):=(hO.sl.drop i c (by omega) (by omega)).ext tI
   replace hw:=tI;refine Wz ?_;refine CW.any 8 mixed (cq (by kernel_rfl)) rfl fun w1 ab aG => ?_
   replace hw:=Ext.trans hw ab;replace mx:=mx.ext ab;replace kI:=kI.ext ab;clear ab;refine Wa ?_;refine SA.take 4 aG rfl (by kernel_rfl) (by kernel_rfl) rfl ?_;repeat ((refine SW.st (bi (k:=i+1) rfl rfl (by omega) (by omega)) rfl ?_))
   refine SW.ai ?_;refine Wa ?_;refine SA.take 7 aG rfl (by kernel_rfl) (by kernel_rfl) rfl ?_;repeat ((refine SW.st (bi (k:=i) rfl rfl (by omega) (by omega)) rfl ?_))
   refine SW.ai ?_;refine SA.done (by kernel_rfl) ?_;refine SW.copy (k:=n-i) ((i+1)*3) ((l.drop i).flatMap a8) mx rfl rfl rfl (by omega) e2 (by simp only [List.length_append,e1,e2,f2,jV];omega) (fun h0=>⟨by rw [if_neg (by omega)];simp [c9],(if c=i then A else A.map (·.add (i*3))).getD default,?_,fun j v hv=>dq (by omega) kI j v hv⟩) (nL _) fun w4 mQ vo => ?_
   ·obtain ⟨a,ha⟩:=Option.isSome_iff_exists.1 (kI.base h0);rw [ha];rfl
   ·have g4:=eW ((l.take i).flatMap a8++a8 x) D2 D3 ((l.drop i).flatMap a8) (by rw [e2,f2]) (o:=(i+1)*3) (by rw [List.length_append,e1,jV];omega);have g5:(l.take i).flatMap a8++a8 x++(D2++D3)=(l.take i).flatMap a8++a8 x++D2++D3:=by simp only [List.append_assoc]
    have g6:(l.take i).flatMap a8++a8 x++(l.drop i).flatMap a8++D3=(aU l i x).flatMap a8++D3:=by unfold aU;simp only [List.flatMap_append,List.flatMap_cons,List.flatMap_nil,List.append_nil,List.append_assoc]
    rw [g5,g4,g6] at mQ;have Cv:=Own.closed (n:=n+1) (c:=c2) (lo:=lo) (l:=aU l i x) (by unfold aU;simp;omega) mQ (by omega) (by omega) (by omega) h5 (by omega);have iS:Ext w w4:=hw.own tT vo
    have e9:i+(n+1-i)=n+1:=by omega
    refine Wz ?_;rw [e9]
    exact ae.aO rfl rfl ⟨_,rfl,_,_,rfl,Cv,iS.gr _,fun k e => .inr (by
     have:k=g:=by
      unfold aQ at e;split at e
      ·cases e
      ·simpa using e.symm
     omega)⟩
open Go.RowKit
theorem il.mono {P:Program} {f:FuncId} {args:List Value} {w:World} {R R':Value→World→Prop} (h:il P f args w R) (hr:∀ v w',R v w'→R' v w') : il P f args w R' :=
 ⟨Calls.mono h.out fun e w' ⟨v,he,hv⟩=>⟨v,he,hr v w' hv⟩⟩
structure HK where
 b:Nat
 g:Nat
 c:Nat
 m:fR
 lv:fR
 cp:Int
 M:List Int
 V:List Block
structure HP where
 u0:ct
 u1:ct
 li:fR
 ls:List bO
abbrev HK.h (k:HK) (p:HP) : eI:=⟨⟨some ⟨k.g,0,none⟩,2,k.c⟩,k.m,k.cp,p.li,k.lv⟩
structure HS (wb w:World) (k:HK) (p:HP) (s:aq×aq) (L:List aA) : Prop where
 cV:aI w k.b 27 (bm (k.h p))
 zs:ec w wb.heap.size k.g k.c p.u0 p.u1 s
 cn:Own w wb.heap.size 3 1 bf k.m.A k.m.n k.m.c k.M
 live:Own w wb.heap.size 77 3 az k.lv.A k.lv.n k.lv.c k.V
 ls:cQ w wb.heap.size p.li p.ls L
 sm:pi k.m [p.u0,p.u1] p.ls
 sf:rf k.lv [p.u0,p.u1]
 Ds:wb.heap.size≤k.b
 base:Ext wb w
def ia (k:HK) (p:HP) (i:Nat) : Prop:=i=k.b∨i=k.g∨ob p.li=some i ∨ ∃ y∈p.ls,ob y.aw=some i
section
variable {w w' w0 w1 w2 wb:World} {i t:Nat} {k:HK} {p p' p0 p1 p2:HP} {s:aq×aq} {L:List aA} {cs:List Value} {row:Option Nat}
theorem HS.ext (h:HS wb w k p s L) (hx:Ext w w') : HS wb w' k p s L:=⟨h.cV.ext hx,h.zs.ext hx,h.cn.ext hx,h.live.ext hx,h.ls.ext hx,h.sm,h.sf,h.Ds,h.base.trans hx⟩
theorem HS.IZ (h:HS wb w k p s L) {y:bO} (hy:y∈p.ls) : ∃ l∈L,kA w wb.heap.size y l:=by
 obtain ⟨j,hj,rfl⟩:=List.getElem_of_mem hy;have uE:j<L.length:=by rw [← h.ls.each.len];exact hj
 exact ⟨_,List.getElem_mem uE,h.ls.each.get j hj uE⟩
theorem HS.lt (h:HS wb w k p s L) (hi:ia k p i) : i<w.heap.size:=by
 rcases hi with rfl|rfl|hi|⟨y,hy,hi⟩
 ·exact h.cV.lt
 ·exact h.zs.row.lt_size _ h.zs.own
 ·exact h.ls.row.lt_size i hi
 ·obtain ⟨l,_,hl⟩:=h.IZ hy;exact hl.cu.lt_size i hi
theorem HS.not (h:HS wb w k p s L) (hi:w.heap.size≤i) : ¬ ia k p i:=fun hm=>by have:=h.lt hm;omega
theorem HS.low (h:HS wb w k p s L) : wb.heap.size≤w.heap.size:=Nat.le_of_lt (Nat.lt_of_le_of_lt h.Ds h.cV.lt)
structure ld (w0:World) (k:HK) (p0:HP) (w:World) (p:HP) : Prop where
 os:w.os=w0.os
 tape:w.tape=w0.tape
 output:w.output=w0.output
 size:w0.heap.size≤w.heap.size
 block:∀ i,i<w0.heap.size → ¬ ia k p0 i→w.heap[i]?=w0.heap[i]?
 Bz:∀ i,ia k p i→ia k p0 i∨w0.heap.size≤i
theorem ld.refl (w:World) (k:HK) (p:HP) : ld w k p w p:=⟨rfl,rfl,rfl,Nat.le_refl _,fun _ _ _=>rfl,fun _ h => .inl h⟩
theorem ld.step (h:ld w0 k p0 w p) (hg:w.grownBy w' row) (hr:∀ i,row=some i→ia k p i∨w0.heap.size≤i) (hp:∀ i,ia k p' i→ia k p i∨w0.heap.size≤i) : ld w0 k p0 w' p' :=
 ⟨hg.os.trans h.os,hg.tape.trans h.tape,hg.output.trans h.output,Nat.le_trans h.size hg.size,fun i hi hm=>by
  rw [hg.block i (Nat.lt_of_lt_of_le hi h.size) (fun e=>by
   rcases hr i e.symm with e|e
   ·rcases h.Bz i e with e|e
    ·exact hm e
    ·omega
   ·omega)]
  exact h.block i hi hm,fun i hi=>by
  rcases hp i hi with e|e
  ·exact h.Bz i e
  ·exact .inr e⟩
theorem ld.ext (h:ld w0 k p0 w p) (hx:Ext w w') : ld w0 k p0 w' p:=h.step (hx.gr none) (fun i e=>by cases e) (fun i e => .inl e)
theorem ld.trans (h:ld w0 k p0 w1 p1) (h':ld w1 k p1 w2 p2) : ld w0 k p0 w2 p2 :=
 ⟨h'.os.trans h.os,h'.tape.trans h.tape,h'.output.trans h.output,Nat.le_trans h.size h'.size,fun i hi hm=>by
  rw [h'.block i (Nat.lt_of_lt_of_le hi h.size) (fun e=>by rcases h.Bz i e with e|e;exact hm e;omega)];exact h.block i hi hm,fun i hi=>by
  rcases h'.Bz i hi with e|e
  ·exact h.Bz i e
  ·exact .inr (Nat.le_trans h.size e)⟩
theorem ld.cV (h:ld w0 k p0 w p) (hB:aI w0 i t cs) (hn : ¬ ia k p0 i) : aI w i t cs:=(h.block i hB.lt hn).trans hB
theorem ld.not (h:ld w0 k p0 w p) (hn : ¬ ia k p0 i) (hi:i<w0.heap.size) : ¬ ia k p i:=fun e=>by rcases h.Bz i e with e|e;exact hn e;omega
end
def ku (p:HP) (zi:Nat) (u:ct) : HP:=if zi=0 then ⟨u,p.u1,p.li,p.ls⟩ else ⟨p.u0,u,p.li,p.ls⟩
theorem jw {p:HP} {zi:Nat} {u:ct}:(ku p zi u).li=p.li∧(ku p zi u).ls=p.ls:=by unfold ku;split<;>exact ⟨rfl,rfl⟩
theorem qu {k:HK} {p:HP} {zi:Nat} {u:ct} {i:Nat}:ia k (ku p zi u) i↔ia k p i:=by unfold ia;rw [jw.1,jw.2]
theorem HS.BA {wb w0 w w':World} {k:HK} {p:HP} {s:aq×aq} {L:List aA} {zi:Nat} {u:ct} {z:aq} (h0:HS wb w0 k p s L) (h:HS wb w k p s L) (hz:zi<2)
 (hO:Own w' wb.heap.size 59 4 bo (some ⟨k.g,0,none⟩) 2 k.c ([p.u0,p.u1].set zi u)) (hg:w.grownBy w' (some k.g)) (hn:fa w w0.heap.size u z) : HS wb w' k (ku p zi u) (la s (zi:Int) z) L:=by
 have hG:=h.zs.gr hg;have hx:Ext wb w':=h.base.own h.zs.yQ hg
 have tM:=(hn.low h0.low).ay hG rfl;have hf:∀ g,aQ u.Types.A u.Types.c=some g→w0.heap.size≤g:=fun g e=>hn.types.aL g e
 have NV:∀ g,aQ u.ag.A u.ag.c=some g→w0.heap.size≤g:=fun g e=>hn.free.aL g e
 have rI:∀ (j:Nat) (hj:j<p.ls.length) (g:Nat),aQ p.ls[j].aw.A p.ls[j].aw.c=some g→g<w0.heap.size:=fun j hj g e=>h0.lt (.inr (.inr (.inr ⟨_,List.getElem_mem hj,e⟩)))
 have EI:∀ us:List ct,(∀ v∈us,v∈[p.u0,p.u1]∨v=u)→pi k.m us p.ls:=fun us hu=>⟨h.sm.cn,fun j hj g e v hv=>by
  rcases hu v hv with h1|rfl
  ·exact h.sm.types j hj g e v h1
  ·intro e2;have:=hf g e2;have:=rI j hj g e;omega,h.sm.sep⟩
 have HF:∀ us:List ct,(∀ v∈us,v∈[p.u0,p.u1]∨v=u)→rf k.lv us:=fun us hu v hv g e=>by
  rcases hu v hv with h1|rfl
  ·exact h.sf v h1 g e
  ·intro e2;have:=NV g e;have:=h0.live.lt_size g e2;omega
 unfold ku la;by_cases jc:zi=0
 ·subst jc;simp only [if_true,Int.ofNat_eq_natCast,Int.natCast_zero] at *;exact ⟨h.cV.ay hG rfl,⟨hO,tM,h.zs.z1.ay hG rfl,h.zs.yQ,h.zs.pos⟩,h.cn.ay hG rfl,h.live.ay hG rfl,h.ls.ay hG rfl,EI _ (by simp),HF _ (by simp),h.Ds,hx⟩
 ·obtain rfl:zi=1:=by omega
  have e1 : ¬ ((1:Nat)=0):=by omega
  have e2 : ¬ (((1:Nat) : Int)=0):=by omega
  simp only [if_neg e1,if_neg e2] at *;exact ⟨h.cV.ay hG rfl,⟨hO,h.zs.z0.ay hG rfl,tM,h.zs.yQ,h.zs.pos⟩,h.cn.ay hG rfl,h.live.ay hG rfl,h.ls.ay hG rfl,EI _ (by simp),HF _ (by simp),h.Ds,hx⟩
theorem cQ.zw {w w':World} {lo:Nat} {li:fR} {ls:List bO} {L:List aA} (h:cQ w lo li ls L) (hg:w.grownBy w' (ob li)) : nY w w' 62:=h.row.gr hg
theorem Au {m:fR} {us:List ct} {ls vG:List bO} (h:pi m us ls) (hs:yK vG) (ho:∀ y∈vG,∃ x∈ls,ob y.aw=ob x.aw) : pi m us vG:=by
 refine ⟨fun j hj g e => ?_,fun j hj g e v hv => ?_,hs⟩
 ·obtain ⟨x,hx,e2⟩:=ho _ (List.getElem_mem hj);obtain ⟨i,hi,rfl⟩:=List.getElem_of_mem hx;exact h.cn i hi g (e2.symm.trans e)
 ·obtain ⟨x,hx,e2⟩:=ho _ (List.getElem_mem hj);obtain ⟨i,hi,rfl⟩:=List.getElem_of_mem hx;exact h.types i hi g (e2.symm.trans e) v hv
theorem HS.setRow {wb w w':World} {k:HK} {p:HP} {s:aq×aq} {L:List aA} {i:Nat} {y:bO} {l:aA} (h:HS wb w k p s L) (hi:i<p.ls.length) (hO:Own w' wb.heap.size 62 4 bp p.li.A p.li.n p.li.c (p.ls.set i y)) (hg:w.grownBy w' (ob p.li)) (hy:kA w wb.heap.size y l)
 (ho:ob y.aw=ob p.ls[i].aw) : HS wb w' k ⟨p.u0,p.u1,p.li,p.ls.set i y⟩ s (L.set i l):=by
 have hG:=h.ls.zw hg;have hx:Ext wb w':=aF h.base hg (Nat.le_refl _) h.ls.row.aL
 have hm:∀ z∈p.ls.set i y,∃ x∈p.ls,ob z.aw=ob x.aw:=fun z hz=>by
  rcases List.mem_or_eq_of_mem_set hz with h1|rfl
  ·exact ⟨z,h1,rfl⟩
  ·exact ⟨_,List.getElem_mem hi,ho⟩
 have c8:∀ x∈p.ls,∀ g,ob x.aw=some g→g<w.heap.size:=fun x hx g e=>h.lt (.inr (.inr (.inr ⟨x,hx,e⟩)))
 refine ⟨h.cV.ay hG rfl,h.zs.ay hG rfl,h.cn.ay hG rfl,h.live.ay hG rfl,⟨hO,?_⟩,Au h.sm (uj.qi (li:=p.li) h.sm.sep c8 hi (fun g e => .inl (ho ▸ e))).sep hm,h.sf,h.Ds,hx⟩;exact eH.setAt (R:=kA w wb.heap.size) h.ls.each (hy.ay hG rfl) (fun j h1 h2 _ hh=>hh.ay hG rfl)
theorem eH.erase {α β:Type} {R : α → β → Prop} {xs:List α} {ys:List β} (h:eH R xs ys) (i:Nat) : eH R (xs.eraseIdx i) (ys.eraseIdx i):=by
 refine ⟨by rw [List.length_eraseIdx,List.length_eraseIdx,h.len],fun j h1 h2 => ?_⟩;have hl:=h.len;rw [List.length_eraseIdx] at h1 h2;rw [List.getElem_eraseIdx,List.getElem_eraseIdx];split
 ·exact h.get j _ _
 ·exact h.get (j+1) _ _
theorem HS.GW {wb w w1 w':World} {k:HK} {p:HP} {s:aq×aq} {L:List aA} {i:Nat} (h:HS wb w k p s L) (hO:Own w1 wb.heap.size 62 4 bp p.li.A (p.li.n-1) p.li.c (p.ls.eraseIdx i)) (hg:w.grownBy w1 (ob p.li))
 (hb:aI w' k.b 27 (bm (k.h ⟨p.u0,p.u1,⟨p.li.A,p.li.n-1,p.li.c⟩,p.ls.eraseIdx i⟩))) (tT:w1.grownBy w' (some k.b)) : HS wb w' k ⟨p.u0,p.u1,⟨p.li.A,p.li.n-1,p.li.c⟩,p.ls.eraseIdx i⟩ s (L.eraseIdx i):=by
 have hG:=h.ls.zw hg;have Cw:=(h.cV.ay hG rfl).gr tT;have hx:Ext wb w':=(aF h.base hg (Nat.le_refl _) h.ls.row.aL).own h.Ds tT
 refine ⟨hb,(h.zs.ay hG rfl).ay Cw rfl,(h.cn.ay hG rfl).ay Cw rfl,(h.live.ay hG rfl).ay Cw rfl,⟨hO.ay Cw rfl,(h.ls.each.erase i).mono fun _ _ hh=>(hh.ay hG rfl).ay Cw rfl⟩,Au h.sm ?_ (fun y hy=>⟨y,List.mem_of_mem_eraseIdx hy,rfl⟩),h.sf,h.Ds,hx⟩;exact po.2 ((po.1 h.sm.sep).sublist (List.eraseIdx_sublist _ _))
set_option maxHeartbeats 1000000 in
theorem BB (k:HK) (p:HP) (s:aq×aq) (L:List aA) (x:aA) (y:bO) (a:Int) (wb w0:World) (H:HS wb w0 k p s L) (hk:sJ y x) (JH:y.aw = .nil) (JI:x.aw=[])
 (hs:rH L) (hn:(p.li.n+1)*48≤140737488355328) (C2:∀ l∈L,l.aw.length≤1000) :
 il Tryz.prog 130 [.pointer (some ⟨k.b,0,none⟩),.agg (bp y).toArray,.int .i64 a] w0 fun v w' => ∃ p',HS wb w' k p' s (jM L ⟨x.dU,x.aq,x.Ty,dE L x++[a]⟩)∧ld w0 k p w' p':=by
 obtain ⟨F,hF⟩ : ∃ F:World→Prop,F=fun v=>ec v wb.heap.size k.g k.c p.u0 p.u1 s∧Own v wb.heap.size 3 1 bf k.m.A k.m.n k.m.c k.M∧Own v wb.heap.size 77 3 az k.lv.A k.lv.n k.lv.c k.V∧ld w0 k p v p:=⟨_,rfl⟩
 have hZ:=H.zs;have hM:=H.cn;have hV:=H.live;have hL:=H.ls;have hb:=H.cV
 have n8:Fu F w0:=by
  rw [hF];exact ⟨⟨hZ,hM,hV,ld.refl _ _ _⟩,fun v v' hx hP=>⟨hP.1.ext hx,hP.2.1.ext hx,hP.2.2.1.ext hx,hP.2.2.2.ext hx⟩⟩
 have GH:∀ (v v':World) (row:Option Nat),v.grownBy v' row→(∀ i,row=some i→i=k.b∨aQ p.li.A p.li.c=some i∨w0.heap.size≤i)→F v→F v':=fun v v' row hg FI hP=>by
  rw [hF] at hP ⊢;refine ⟨hP.1.parts hg ((hZ.row.yR hL hb rfl rfl).ne FI) ((hZ.z0.free.yR hL hb rfl rfl).ne FI) ((hZ.z0.types.yR hL hb rfl rfl).ne FI) ((hZ.z1.free.yR hL hb rfl rfl).ne FI) ((hZ.z1.types.yR hL hb rfl rfl).ne FI),hP.2.1.apart hg ((hM.yR hL hb rfl rfl).ne FI),hP.2.2.1.apart hg ((hV.yR hL hb rfl rfl).ne FI),hP.2.2.2.step hg (fun i e => ?_) (fun i e => .inl e)⟩;rcases FI i e with h|h|h
  ·exact .inl (.inl h)
  ·exact .inl (.inr (.inr (.inl h)))
  ·exact .inr h
 have Kz:∀ (i:Nat) (hi:i<p.ls.length) (v v':World),v.grownBy v' (aQ p.ls[i].aw.A p.ls[i].aw.c)→F v→F v':=fun i hi v v' hg hP=>by
  rw [hF] at hP ⊢;have JQ:=(hL.each.get i hi (by rw [← hL.each.len];exact hi)).cu;exact ⟨hP.1.parts hg (hZ.row.rJ JQ rfl) (hZ.z0.free.rJ JQ rfl) (fun j e e2=>H.sm.types i hi j e2 p.u0 (by simp) e) (hZ.z1.free.rJ JQ rfl) (fun j e e2=>H.sm.types i hi j e2 p.u1 (by simp) e),hP.2.1.apart hg (fun j e e2=>H.sm.cn i hi j e2 e),hP.2.2.1.apart hg (hV.rJ JQ rfl),hP.2.2.2.step hg (fun j e => .inl (.inr (.inr (.inr ⟨_,List.getElem_mem hi,e⟩)))) (fun i e => .inl e)⟩
 refine (C1 ⟨some ⟨k.g,0,none⟩,2,k.c⟩ k.m k.cp p.li k.lv L p.ls x y a F k.b wb w0 H.base H.Ds hb hL hk JH JI H.sm.sep hs hn C2 n8 GH Kz).mono fun v w' hv => ?_
 obtain ⟨hx,Dd,D7,vG,jR,BC,hP⟩:=hv;rw [hF] at Dd;obtain ⟨B7,NW,BD,hK⟩:=Dd
 have hold:∀ j (hj:j<vG.length) (g:Nat),aQ vG[j].aw.A vG[j].aw.c=some g→(∃ i,∃ hi:i<p.ls.length,aQ p.ls[i].aw.A p.ls[i].aw.c=some g)∨w0.heap.size≤g:=fun j hj g e=>by
  rcases hP.of _ (List.getElem_mem hj) g e with ⟨z,hz,e2⟩|h
  ·obtain ⟨i,hi,rfl⟩:=List.getElem_of_mem hz;exact .inl ⟨i,hi,e2⟩
  ·exact .inr h
 refine ⟨⟨p.u0,p.u1,D7,vG⟩,⟨jR,B7,NW,BD,BC,⟨fun j hj g e => ?_,fun j hj g e v hv => ?_,hP.sep⟩,H.sf,H.Ds,hx⟩,hK.step (World.grownBy.refl _ none) (fun i e=>by cases e) (fun i hi => ?_)⟩
 ·rcases hold j hj g e with ⟨i,hi,e2⟩|h
  ·exact H.sm.cn i hi g e2
  ·intro e2;have:=hM.lt_size g e2;omega
 ·rcases hold j hj g e with ⟨i,hi,e2⟩|h
  ·exact H.sm.types i hi g e2 v hv
  ·intro e2;simp only [List.mem_cons,List.not_mem_nil,or_false] at hv;rcases hv with rfl|rfl
   ·have:=hZ.z0.types.lt_size g e2;omega
   ·have:=hZ.z1.types.lt_size g e2;omega
 ·rcases hi with h|h|h|⟨z,hz,h⟩
  ·exact .inl (.inl h)
  ·exact .inl (.inr (.inl h))
  ·exact (hP.row i h).imp (fun e => .inr (.inr (.inl e))) id
  ·exact (hP.of z hz i h).imp (fun e => .inr (.inr (.inr e))) id
open Go.RowKit
section
variable {P:Program} {L:Env} {w:World} {d:Option Nat} {T:TypeId} {pos:String} {af:Array Edge} {g:Option (Nat×Bool)}
theorem EX {t ty:TypeId} {x y:Operand} {i j:Int} (a b:Nat) (hx:cd L x=some (.int .i64 i)) (hy:cd L y=some (.int .i64 j)) (ha:i=(a:Int)) (hb:j=(b:Int)) (iB:a<9223372036854775808) (jR:b<9223372036854775808) :
 St P ⟨d,.binOp .and t x y ty,T,pos,af,g⟩ L w (.int .i64 ((a &&& b:Nat) : Int)) :=
 ⟨fun n A hA w' _=>by
  have e1:=hA.eval hx;have e2:=hA.eval hy;subst ha hb;generalize A.eval = ρ at *
  have c8:a &&& b<2 ^ 63:=Nat.and_lt_two_pow _ (by omega)
  have e:(BitVec.ofInt 64 (a:Int) &&& BitVec.ofInt 64 (b:Int)).toNat=a &&& b:=by
   rw [BitVec.toNat_and,BitVec.ofInt_natCast,BitVec.ofInt_natCast,BitVec.toNat_ofNat,BitVec.toNat_ofNat,Nat.mod_eq_of_lt (by omega),Nat.mod_eq_of_lt (by omega)]
  have aB:(Op.intBits .and .i64 (a:Int) (b:Int)).run P w' = .ok (.int .i64 ((a &&& b:Nat) : Int)) w':=by
   have:Op.intBits .and .i64 (a:Int) (b:Int)=(pure (.int .i64 (IntKind.i64.wrap ((BitVec.ofInt 64 (a:Int) &&& BitVec.ofInt 64 (b:Int)).toNat:Nat))) : Sem Value):=rfl
   rw [this,e,iH (by omega) (by omega)]
   rfl
  have aK:(binOp .and t (.int .i64 (a:Int)) (.int .i64 (b:Int))).run P w' = .ok (.int .i64 ((a &&& b:Nat) : Int)) w':=by
   have:binOp .and t (.int .i64 (a:Int)) (.int .i64 (b:Int))=Op.intBits .and .i64 (a:Int) (b:Int):=by simp [binOp]
   rw [this,aB]
  simp [execOp,e1,e2,eqGuard,aK]⟩
end
open Go.RowKit
def vf (f j:Int) : Int:=((f.toNat &&& j.toNat:Nat) : Int)
theorem BE:∀ f:Nat,f<16→(f &&& 1=f % 2)∧(f &&& 2=f / 2 % 2*2)∧(f &&& 4=f / 4 % 2*4)∧(f &&& 8=f / 8*8):=by decide
theorem nJ {f:Int} (h : 0≤f∧f≤15) : vf f 1=f % 2∧vf f 2=f / 2 % 2*2∧vf f 4=f / 4 % 2*4∧vf f 8=f / 8*8:=by
 obtain ⟨n,rfl⟩ : ∃ n:Nat,f=n:=⟨f.toNat,by omega⟩;obtain ⟨h1,h2,h3,h4⟩:=BE n (by omega);unfold vf;simp only [Int.toNat_natCast,show (1:Int).toNat=1 from rfl,show (2:Int).toNat=2 from rfl,show (4:Int).toNat=4 from rfl,show (8:Int).toNat=8 from rfl,h1,h2,h3,h4];omega
theorem rP {P:Program} {L:Env} {w:World} {d:Option Nat} {T t ty:TypeId} {pos:String} {af:Array Edge} {g:Option (Nat×Bool)} {x y:Operand} {f j:Int} (hx:cd L x=some (.int .i64 f)) (hy:cd L y=some (.int .i64 j)) (hf : 0≤f∧f≤15) (hj : 0≤j∧j≤15) :
 St P ⟨d,.binOp .and t x y ty,T,pos,af,g⟩ L w (.int .i64 (vf f j)):=EX f.toNat j.toNat hx hy (by omega) (by omega) (by omega) (by omega)
theorem zx (f:Int) (w:World) : bt Tryz.prog 102 [.int .i64 f] w fun v _=>v = .tuple #[.int .i64 (if 0≤dN f then dN f else 0),.bool (decide (0≤dN f))]:=by
 refine aM Tryz.func102 rfl Tryz.ntmps102 rfl ?_;have hw:=Ext.refl w;by_cases hf : 0≤f∧f≤15
 ·obtain ⟨q1,q2,q4,q8⟩:=nJ hf;obtain ⟨t,ht⟩ : ∃ t,dN f=t:=⟨_,rfl⟩
  have hc:(f / 2 % 4=0∧t=0)∨(f / 2 % 4=1∧t=1)∨(f / 2 % 4=2∧t=2)∨(f / 2 % 4=3∧t = -1):=by
   unfold dN at ht;rw [if_pos hf] at ht;split at ht
   ·omega
   ·split at ht
    ·omega
    ·split at ht
     ·omega
     ·omega
  rw [ht];rcases hc with ⟨h1,rfl⟩|⟨h1,rfl⟩|⟨h1,rfl⟩|⟨h1,rfl⟩
  all_goals
   repeat' (first|refine Wz ?_|(refine SW.st (rP rfl rfl (by omega) (by decide)) rfl ?_))
   all_goals try omega
   all_goals exact ae.cy rfl rfl rfl ⟨_,rfl,hw,rfl⟩
 ·have e:dN f = -1:=by unfold dN;rw [if_neg hf]
  rw [e];repeat' (first|refine Wz ?_|refine SW.bZ rfl rfl rfl (fun h => ?_) (fun h => ?_))
  all_goals try omega
  all_goals exact ae.cy rfl rfl rfl ⟨_,rfl,hw,rfl⟩
theorem uq (f:Int) (w:World) : bt Tryz.prog 54 [.int .i64 f] w fun v _=>v = .int .i64 (dN f):=by
 refine aM Tryz.func54 rfl Tryz.ntmps54 rfl ?_;have hw:=Ext.refl w;by_cases hf : 0≤f∧f≤15
 ·obtain ⟨t,ht⟩ : ∃ t,dN f=t:=⟨_,rfl⟩
  have hc:(f / 2 % 4=0∧t=0)∨(f / 2 % 4=1∧t=1)∨(f / 2 % 4=2∧t=2)∨(f / 2 % 4=3∧t = -1):=by
   unfold dN at ht;rw [if_pos hf] at ht;split at ht
   ·omega
   ·split at ht
    ·omega
    ·split at ht
     ·omega
     ·omega
  rw [ht];have KZ:(f / 2).tmod 4=f / 2 % 4:=Int.tmod_eq_emod_of_nonneg (by omega)
  rcases hc with ⟨h1,rfl⟩|⟨h1,rfl⟩|⟨h1,rfl⟩|⟨h1,rfl⟩
  all_goals
   repeat' (first|refine Wz ?_|(refine SW.call rfl rfl (bK _ _ _ _) ?_;intro v w1 ab hv;subst hv;replace hw:=Ext.trans hw ab;clear ab))
   all_goals try omega
   all_goals exact ae.aO rfl rfl ⟨_,rfl,hw,rfl⟩
 ·have e:dN f = -1:=by unfold dN;rw [if_neg hf]
  rw [e];repeat' (first|refine Wz ?_|(refine SW.call rfl rfl (bK _ _ _ _) ?_;intro v w1 ab hv;subst hv;replace hw:=Ext.trans hw ab;clear ab))
  all_goals try omega
  all_goals exact ae.aO rfl rfl ⟨_,rfl,hw,rfl⟩
structure n9 (M:List Int) (m0 m1:Int) : Prop where
 eq:M=[m0,m1]
 b0 : 0≤m0∧m0≤256
 b1 : 0≤m1∧m1≤256
theorem GX.Dt (r:eI) (u0 u1:ct) (s:aq×aq) (M:List Int) (m0 m1:Int) (zi:Nat) (f:Int) (w:World) (hm:Sl w 1 bf r.bJ.A r.bJ.n M) (hz:Sl w 4 bo r.aN.A r.aN.n [u0,u1]) (hM:n9 M m0 m1) (h1:u1.aV=s.2.aV) (h2:u1.To=s.2.To) (hF : 0≤s.2.aV∧s.2.aV≤256) (hT:s.2.aV≤s.2.To∧s.2.To≤256) (jc:zi<2) (hf : 0≤f∧f≤15) :
 bt Tryz.prog 132 [.agg (bm r).toArray,.int .i64 (zi:Int),.int .i64 f] w fun v _=>v = .int .i64 (nn m0 m1 s zi f):=by
 refine aM Tryz.func132 rfl Tryz.ntmps132 rfl ?_;refine CW.seq (CW.region (SW.box rfl rfl fun b1 w1 hw ik aB => ?_));obtain ⟨rfl,Ft,pp⟩:=hM;obtain ⟨q1,q2,q4,q8⟩:=nJ hf;have hA:=hz.base;have hB:=hm.base;have hn : 2=r.aN.n:=hz.len
 have FB : 2=r.bJ.n:=hm.len
 have k0 : 1<r.aN.n:=by omega
 have k1:zi<r.bJ.n:=by omega
 have f0:=hz.dA k0 (j:=0) (u := .int .i64 u1.aV) rfl;have f1:=hz.dA k0 (j:=1) (u := .int .i64 u1.To) rfl;obtain ⟨mz,EY⟩ : ∃ mz,(if (zi:Int)=0 then m0 else m1)=mz:=⟨_,rfl⟩
 have K4 : [m0,m1][zi]'(by simpa using jc)=mz:=by
  rcases Nat.lt_or_ge zi 1 with h|h
  ·obtain rfl:zi=0:=by omega
   rw [← EY];rfl
  ·obtain rfl:zi=1:=by omega
   rw [← EY];rfl
 have fm:=hm.one k1 (congrArg bf K4);have NX : 0≤mz∧mz≤256:=by rw [← EY];split<;>omega
 obtain ⟨v,hv⟩ : ∃ v,nn m0 m1 s zi f=v:=⟨_,rfl⟩;have Bq:=hv;unfold nn at Bq;rw [EY] at Bq;rw [hv];have KZ:f.tmod 2=f % 2:=Int.tmod_eq_emod_of_nonneg (by omega)
 have hc:(8≤f∨f<8)∧((zi=0∧f % 2=0)∨(zi=0∧f % 2=1)∨zi=1):=by omega
 obtain ⟨tN,EZ⟩:=hc;rcases tN with tN|tN<;>rcases EZ with ⟨EZ,K9⟩|⟨EZ,K9⟩|EZ
 all_goals
  repeat' (first|refine Wz ?_|((apply CW.aP mixed;(· kernel_rfl);rotate_left;intro w1 ab;replace hw:=Ext.trans hw ab;replace aB:=aB.ext ab;clear ab;rotate_right))|refine SW.st (ao hw rfl f0) rfl ?_|refine SW.st (ao hw rfl f1) rfl ?_|refine SW.st (ao hw rfl fm) rfl ?_|(refine SW.st (rP rfl rfl (by omega) (by decide)) rfl ?_)|exact SW.bx rfl)
  all_goals try omega
  refine ae.aO rfl rfl ⟨_,rfl,hw,?_⟩;congr 1
  omega
theorem xY.wk (r:eI) (u0 u1:ct) (s:aq×aq) (M:List Int) (m0 m1:Int) (zi:Nat) (f:Int) (w:World) (hm:Sl w 1 bf r.bJ.A r.bJ.n M) (hz:Sl w 4 bo r.aN.A r.aN.n [u0,u1]) (hM:n9 M m0 m1) (h1:u1.aV=s.2.aV) (h2:u1.To=s.2.To) (hF : 0≤s.2.aV∧s.2.aV≤256) (hT:s.2.aV≤s.2.To∧s.2.To≤256) (jc:zi<2) (hf : 0≤f∧f≤15) :
 bt Tryz.prog 117 [.agg (bm r).toArray,.int .i64 (zi:Int),.int .i64 f] w fun v _=>v = .int .i64 (nn m0 m1 s zi f):=by
 refine aM Tryz.func117 rfl Tryz.ntmps117 rfl ?_;refine CW.seq (CW.region (SW.box rfl rfl fun b1 w1 hw ik aB => ?_));obtain ⟨rfl,Ft,pp⟩:=hM;obtain ⟨q1,q2,q4,q8⟩:=nJ hf;have hA:=hz.base;have hB:=hm.base;have hn : 2=r.aN.n:=hz.len
 have FB : 2=r.bJ.n:=hm.len
 have k0 : 1<r.aN.n:=by omega
 have k1:zi<r.bJ.n:=by omega
 have f0:=hz.dA k0 (j:=0) (u := .int .i64 u1.aV) rfl;have f1:=hz.dA k0 (j:=1) (u := .int .i64 u1.To) rfl;obtain ⟨mz,EY⟩ : ∃ mz,(if (zi:Int)=0 then m0 else m1)=mz:=⟨_,rfl⟩
 have K4 : [m0,m1][zi]'(by simpa using jc)=mz:=by
  rcases Nat.lt_or_ge zi 1 with h|h
  ·obtain rfl:zi=0:=by omega
   rw [← EY];rfl
  ·obtain rfl:zi=1:=by omega
   rw [← EY];rfl
 have fm:=hm.one k1 (congrArg bf K4);have NX : 0≤mz∧mz≤256:=by rw [← EY];split<;>omega
 obtain ⟨v,hv⟩ : ∃ v,nn m0 m1 s zi f=v:=⟨_,rfl⟩;have Bq:=hv;unfold nn at Bq;rw [EY] at Bq;rw [hv];have KZ:f.tmod 2=f % 2:=Int.tmod_eq_emod_of_nonneg (by omega)
 have hc:(8≤f∨f<8)∧((zi=0∧f % 2=0)∨(zi=0∧f % 2=1)∨zi=1):=by omega
 obtain ⟨tN,EZ⟩:=hc;rcases tN with tN|tN<;>rcases EZ with ⟨EZ,K9⟩|⟨EZ,K9⟩|EZ
 all_goals
  repeat' (first|refine Wz ?_|((apply CW.aP mixed;(· kernel_rfl);rotate_left;intro w1 ab;replace hw:=Ext.trans hw ab;replace aB:=aB.ext ab;clear ab;rotate_right))|refine SW.st (ao hw rfl f0) rfl ?_|refine SW.st (ao hw rfl f1) rfl ?_|refine SW.st (ao hw rfl fm) rfl ?_|exact SW.bx rfl)
  all_goals try omega
  refine ae.aO rfl rfl ⟨_,rfl,hw,?_⟩;congr 1
  omega
end Go.Proofs.YtjimadiidbkohaaGreatDoor
