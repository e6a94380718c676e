/-
  Texts of the claim SlabAllocs, part 17: what its theorem leans on.
-/
import Derived.Test.YtjimadiidbkohaaGreatDoorPackSlabAllocs16
import Derived.Test.YtjimadiidbkohaaGreatDoorPackSlabAllocs4
import Derived.Test.YtjimadiidbkohaaGreatDoorPackSlabAllocs3
import Derived.Test.YtjimadiidbkohaaGreatDoorPackSlabAllocs2
import Derived.Test.YtjimadiidbkohaaGreatDoorPackSlabAllocs5
import Derived.Test.YtjimadiidbkohaaGreatDoorPackSlabAllocs8
import Derived.Test.YtjimadiidbkohaaGreatDoorPackSlabAllocs9
import Derived.Test.YtjimadiidbkohaaGreatDoorPackSlabAllocs10
import Derived.Test.YtjimadiidbkohaaGreatDoorPackSlabAllocs7
import Derived.Test.YtjimadiidbkohaaGreatDoorPackSlabAllocs11
set_option linter.unusedVariables false
set_option linter.unusedSimpArgs false
namespace Go.Proofs.YtjimadiidbkohaaGreatDoor
open Go.RowKit
theorem ij.lists {m0 m1 cpu zi o t f:Int} {s:aq×aq} {L:List aB} {r:(aq×aq)×List aB×Int} (h:ij m0 m1 cpu zi o t f s L (some r)) (hv:VS s) (hL:∀ l∈L,l.aw.length≤8) : r.2.1.length≤L.length+1 ∧ ∀ l∈r.2.1,l.aw.length≤8:=by
 cases h with
 | list ho hk hp =>
   obtain ⟨hl,_⟩:=je hk;have e:=iS hk hl;have h8:=hL _ (List.getElem_mem hl);rw [← e] at h8;simp only;unfold re;split
   ·exact ⟨by have:=List.length_eraseIdx_le L (a8 L ⟨cpu,zi,t,[]⟩);omega,fun l hl=>hL l (List.mem_of_mem_eraseIdx hl)⟩
   ·refine ⟨by rw [List.length_set];omega,fun l hl => ?_⟩;rcases List.mem_or_eq_of_mem_set hl with h1|rfl
    ·exact hL l h1
    ·simp only [dk,List.length_dropLast];omega
 | uC ho he ht hu=>exact ⟨by simp only;omega,hL⟩
 | @fill u r' ho hk he ht hu hr =>
   have h3:=(hr.vs (hv.pZ (ht.yf hu).1)).2
   exact ⟨uQ hk,fun l hl=>by
    rcases uP hk l hl with h1|rfl
    ·exact hL l h1
    ·simp only [dk];omega⟩
theorem ik.lists {m0 m1 cpu o t f:Int} {s:aq×aq} {L:List aB} {r:(aq×aq)×List aB×Int} (h:ik m0 m1 cpu o t f s L (some r)) (hv:VS s) (hL:∀ l∈L,l.aw.length≤8) : r.2.1.length≤L.length+1 ∧ ∀ l∈r.2.1,l.aw.length≤8:=by
 cases h with
 | vr _ h=>exact h.lists hv hL
 | low _ h=>exact h.lists hv hL
theorem dP.small {h:Heap} {cpu o f:Int} {u:Heap×Int×Int} (a:dP h cpu o f u) (hs:h.small) : u.1.small:=by
 have hz:(Heap.zero).small:=by constructor<;>simp [Heap.zero]
 have key:∀ (z0 z1:aq) (F:mg h z0 z1) (s:aq×aq) (L:List aB) (x:Int) (t:Int),VS s→L.length≤257→(∀ l∈L,l.aw.length≤8)→(kV h s L (gB h x o t)).small:=fun z0 z1 F s L x t hv h1 h2=>by
  have Kv:=j3 hv.nG;have wy:=j3 hv.ms;have ma:=ta F
  have E5:(gB h x o t).length≤257:=by
   unfold gB;have rZ:bE h.Live x≤h.Live.length:=List.findIdx_le_length
   rw [dq _ rZ];omega
  refine ⟨by simp [kV],hs.cj,?_,?_,fun z hz => ?_,fun l hl => ?_⟩
  ·simp only [kV];omega
  ·simp only [kV];omega
  ·simp only [kV,List.mem_cons,List.not_mem_nil,or_false] at hz;rcases hz with rfl|rfl
   ·omega
   ·omega
  ·have:=h2 l hl;omega
 cases a with
 | bad|range|form|room=>exact hz
 | once hb hr ht hz ha =>
   obtain ⟨z0,z1,F⟩:=lq (ia.1 hb);rw [F.d.cK] at hz;simp only [List.cons.injEq,and_true] at hz;obtain ⟨rfl,rfl⟩:=hz;have hv:=F.d.start.vs;obtain ⟨g1,g2⟩:=ha.lists hv (fun l hl=>(F.lists l hl).2);have:=F.count
   exact key _ _ F _ _ _ _ (ha.found hv).1 (by omega) g2
 | nb hb hr ht hz ha h2 =>
   obtain ⟨z0,z1,F⟩:=lq (ia.1 hb);rw [F.d.cK] at hz;simp only [List.cons.injEq,and_true] at hz;obtain ⟨rfl,rfl⟩:=hz;have hv:=(fY F.d).vs;obtain ⟨g1,g2⟩:=h2.lists hv (fun l hl=>by simp at hl);simp only [List.length_nil] at g1;exact key _ _ F _ _ _ _ (h2.found hv).1 (by omega) g2
theorem dP.at_ {h:Heap} {cpu o f:Int} {u:Heap×Int×Int} (a:dP h cpu o f u) (he:u.2.2=0) : 0≤u.2.1∧u.2.1<256:=by
 cases a with
 | bad|range|form|room=>simp at he
 | once hb hr ht hz ha =>
   obtain ⟨z0,z1,F⟩:=lq (ia.1 hb);rw [F.d.cK] at hz;simp only [List.cons.injEq,and_true] at hz;obtain ⟨rfl,rfl⟩:=hz;obtain ⟨i,e,h1,_⟩:=nv F (ha.found F.d.start.vs).2;simp only at e ⊢;omega
 | nb hb hr ht hz ha h2 =>
   obtain ⟨z0,z1,F⟩:=lq (ia.1 hb);rw [F.d.cK] at hz;simp only [List.cons.injEq,and_true] at hz;obtain ⟨rfl,rfl⟩:=hz;obtain ⟨i,e,h1,_⟩:=lZ F (h2.found (fY F.d).vs).2;simp only at e ⊢;omega
open Go.RowKit
def ke (a s m:Nat) (l:List Int) : Nat→List Int
 | 0=>l
 | k+1=>(ke a s m l k).set (a+k*s) (if k+1<m then (a:Int)+((k:Int)+1)*s else -1)
def ov (a s:Nat) (l:List Int) : Nat→List Int
 | 0=>l
 | k+1=>(ov a s l k).set (a+s*k) ((a:Int)+((k:Int)+1)*s)
theorem uR (a s m:Nat) (l:List Int) : ∀ k,k<m→ke a s m l k=ov a s l k
 | 0,_=>rfl
 | k+1,h=>by simp only [ke,ov];rw [uR a s m l k (by omega),if_pos h,Nat.mul_comm k s]
theorem xv (a s m:Nat) (l:List Int) : ke a s (m+1) l (m+1)=(ov a s l (m+1)).set (a+m*s) (-1):=by
 simp only [ke,ov];rw [uR a s (m+1) l m (by omega),if_neg (by omega),Nat.mul_comm m s,List.set_set]
def gU (lo n:Nat) (l:List Int) (x s m:Int) (v:Value) (w:World) : Prop :=
 if 1≤s∧s≤64∧1≤m∧m≤n∧0≤x∧x+s*m≤n then ∃ A c,v = .tuple #[.slice A n c,.int .i64 0]∧Own w lo 3 1 bh A n c (ke x.toNat s.toNat m.toNat l m.toNat)
 else v = .tuple #[.slice none 0 0,.int .i64 1]
theorem tc {s m n:Nat} (hs:s≤64) (hm:m≤n) : 0≤(s:Int)*m∧(s:Int)*m≤64*n:=by
 have h:s*m≤64*n:=Nat.mul_le_mul hs hm
 exact ⟨by omega,by omega⟩
theorem l6 {s m k:Nat} (hk:k<m) : 0≤(k:Int)*s∧((k:Int)+1)*s=(k:Int)*s+s∧(k:Int)*s+s≤(s:Int)*m∧(s:Int)*k=(k:Int)*s:=by
 have h:(k+1)*s≤m*s:=Nat.mul_le_mul_right _ hk
 have e:((k:Int)+1)*s=(k:Int)*s+s:=by rw [Int.add_mul,Int.one_mul]
 have e2:(s:Int)*m=(m:Int)*s:=Int.mul_comm _ _
 rw [Nat.add_mul,Nat.one_mul] at h;refine ⟨by omega,e,by rw [e2];omega,Int.mul_comm _ _⟩
theorem nw (A:Option Addr) (n c:Nat) (l:List Int) (x s m:Int) (w:World) (hl:Sl w 1 bh A n l) (hn:n*8≤140737488355328) :
 bt Tryz.prog 76 [.slice A n c,.int .i64 x,.int .i64 s,.int .i64 m] w (gU w.heap.size n l x s m):=by
 refine aL Tryz.func76 rfl Tryz.ntmps76 rfl ?_;have hw:=Ext.refl w;have tD:n≤2305843009213693952:=by omega
 by_cases h1 : 1≤s∧s≤64
 ·by_cases h2 : 1≤m∧m≤n
  ·obtain ⟨s,rfl⟩:=Int.eq_ofNat_of_zero_le (a:=s) (by omega);obtain ⟨m,rfl⟩:=Int.eq_ofNat_of_zero_le (a:=m) (by omega);have hb:=tc (s:=s) (m:=m) (n:=n) (by omega) (by omega);by_cases h3 : 0≤x∧x+(s:Int)*m≤n
   ·obtain ⟨a,rfl⟩:=Int.eq_ofNat_of_zero_le h3.1;repeat' (first|refine Wz ?_|(refine SW.call rfl rfl (rU _ _ _ _ _ _ tD) ?_;intro v w1 ab hv;subst hv;replace hw:=Ext.trans hw ab;clear ab))
    refine SW.call rfl rfl (ef _ _ _ _ _ (hl.ext hw) hn) fun v w1 ab hv => ?_
    obtain ⟨A1,c1,rfl,hO⟩:=hv;have fC:=hw.size;replace hw:=Ext.trans hw ab;replace hO:=Own.low hO fC;have rE:=hO.sl.base;refine Wz ?_
    refine CW.loop (fun k:Nat=>[(0,.slice A n c),(1,.int .i64 (a:Int)),(2,.int .i64 (s:Int)),(3,.int .i64 (m:Int)),(10,.slice A1 n c1),(40,.int .i64 (m:Int)),(41,.int .i64 (k:Int))])
     (fun k w'=>k≤m∧Ext w w'∧Own w' w.heap.size 3 1 bh A1 n c1 (ke a s m l k)) (fun k=>m-k) 0 ⟨rfl,rfl,rfl,rfl,rfl,rfl,rfl,trivial⟩ ⟨by omega,hw,hO⟩ ?_
    clear hw hO;rintro k w' ⟨hk,hw,hO⟩
    by_cases Jd:k<m
    ·have hr:=l6 (s:=s) Jd;have hp:a+k*s<n:=by omega
     by_cases qH:k+1<m
     all_goals
      refine Wz ?_;refine SW.jX (a+k*s) hO rfl rfl hp fun w2 gx hg => ?_
      replace hw:=aE hw hg (Nat.le_refl _) hO.aM;refine Wz ?_;refine ae.again (k+1) ⟨rfl,rfl,rfl,rfl,rfl,rfl,rfl,trivial⟩ (by omega) ⟨by omega,hw,?_⟩;simp only [ke]
     ·rw [if_pos qH];exact gx
     ·rw [if_neg qH];exact gx
    ·refine Wz ?_;obtain rfl:k=m:=by omega
     refine ae.cu rfl rfl rfl ⟨_,rfl,hw,?_⟩;unfold gU;rw [if_pos (by omega)];exact ⟨A1,c1,rfl,hO⟩
   ·repeat' (first|refine Wz ?_|(refine SW.call rfl rfl (rU _ _ _ _ _ _ tD) ?_;intro v w1 ab hv;subst hv;replace hw:=Ext.trans hw ab;clear ab))
    all_goals refine ae.cu rfl rfl rfl ⟨_,rfl,hw,?_⟩
    all_goals unfold gU
    all_goals rw [if_neg (by omega)]
  ·repeat' (first|refine Wz ?_|refine SW.cb rfl rfl rfl (fun h => ?_) (fun h => ?_))
   all_goals refine ae.cu rfl rfl rfl ⟨_,rfl,hw,?_⟩
   all_goals unfold gU
   all_goals rw [if_neg (by omega)]
 ·repeat' (first|refine Wz ?_|refine SW.cb rfl rfl rfl (fun h => ?_) (fun h => ?_))
  all_goals refine ae.cu rfl rfl rfl ⟨_,rfl,hw,?_⟩
  all_goals unfold gU
  all_goals rw [if_neg (by omega)]
theorem xw (A:Option Addr) (n c:Nat) (l:List Int) (x s m:Int) (w:World) (hl:Sl w 1 bh A n l) (hn:n*8≤140737488355328) :
 bt Tryz.prog 31 [.slice A n c,.int .i64 x,.int .i64 s,.int .i64 m] w (gU w.heap.size n l x s m):=by
 refine aL Tryz.func31 rfl Tryz.ntmps31 rfl ?_;have hw:=Ext.refl w;have tD:n≤2305843009213693952:=by omega
 by_cases h1 : 1≤s∧s≤64
 ·by_cases h2 : 1≤m∧m≤n
  ·obtain ⟨s,rfl⟩:=Int.eq_ofNat_of_zero_le (a:=s) (by omega);obtain ⟨m,rfl⟩:=Int.eq_ofNat_of_zero_le (a:=m) (by omega);have hb:=tc (s:=s) (m:=m) (n:=n) (by omega) (by omega);by_cases h3 : 0≤x∧x+(s:Int)*m≤n
   ·obtain ⟨a,rfl⟩:=Int.eq_ofNat_of_zero_le h3.1;obtain ⟨m,rfl⟩ : ∃ m',m=m'+1:=⟨m-1,by omega⟩;repeat' (first|refine Wz ?_|((first|refine SW.call rfl rfl (bM _ _ _ _) ?_|refine SW.call rfl rfl (k9 _ _ _ _ _ _ tD) ?_);intro v w1 ab hv;subst hv;replace hw:=Ext.trans hw ab;clear ab))
    refine SW.call rfl rfl (gd _ _ _ _ _ (hl.ext hw) hn) fun v w1 ab hv => ?_
    obtain ⟨A1,c1,rfl,hO⟩:=hv;have fC:=hw.size;replace hw:=Ext.trans hw ab;replace hO:=Own.low hO fC;have rE:=hO.sl.base;refine Wz ?_
    refine CW.loop (fun k:Nat=>[(0,.slice A n c),(1,.int .i64 (a:Int)),(2,.int .i64 (s:Int)),(3,.int .i64 ((m+1:Nat) : Int)),(10,.slice A1 n c1),(11,.int .i64 (k:Int))])
     (fun k w'=>k≤m+1∧Ext w w'∧Own w' w.heap.size 3 1 bh A1 n c1 (ov a s l k)) (fun k=>m+1-k) 0 ⟨rfl,rfl,rfl,rfl,rfl,rfl,trivial⟩ ⟨by omega,hw,hO⟩ ?_
    clear hw hO;rintro k w' ⟨hk,hw,hO⟩
    by_cases Jd:k<m+1
    ·have hr:=l6 (s:=s) Jd;have hp:a+s*k<n:=by have:=Nat.mul_comm k s;omega
     refine Wz ?_;refine SW.jX (a+s*k) hO rfl rfl hp fun w2 gx hg => ?_
     replace hw:=aE hw hg (Nat.le_refl _) hO.aM;refine Wz ?_;refine ae.again (k+1) ⟨rfl,rfl,rfl,rfl,rfl,rfl,trivial⟩ (by omega) ⟨by omega,hw,?_⟩;simp only [ov];have e:(a:Int)+((k:Int)+1)*s=(a:Int)+(s:Int)*k+s:=by omega
     rw [e];exact gx
    ·obtain rfl:k=m+1:=by omega
     have hr:=l6 (s:=s) (m:=m+1) (k:=m) (by omega);have e1:(s:Int)*((m+1:Nat) : Int)=(m:Int)*s+s:=by rw [Int.mul_comm];push_cast;omega
     have hp:a+m*s<n:=by omega
     repeat' (first|refine Wz ?_|refine SW.st (aY (a+m*s) rfl rfl (by assumption) (by omega) (by omega)) rfl ?_)
     refine SW.jX (a+m*s) hO rfl rfl hp fun w2 gx hg => ?_
     replace hw:=aE hw hg (Nat.le_refl _) hO.aM;refine Wz ?_;refine ae.cu rfl rfl rfl ⟨_,rfl,hw,?_⟩;unfold gU;rw [if_pos (by omega)];refine ⟨A1,c1,rfl,?_⟩;simp only [Int.toNat_natCast];rw [xv];exact gx
   ·repeat' (first|refine Wz ?_|((first|refine SW.call rfl rfl (bM _ _ _ _) ?_|refine SW.call rfl rfl (k9 _ _ _ _ _ _ tD) ?_);intro v w1 ab hv;subst hv;replace hw:=Ext.trans hw ab;clear ab))
    all_goals refine ae.cu rfl rfl rfl ⟨_,rfl,hw,?_⟩
    all_goals unfold gU
    all_goals rw [if_neg (by omega)]
  ·repeat' (first|refine Wz ?_|(refine SW.call rfl rfl (bM _ _ _ _) ?_;intro v w1 ab hv;subst hv;replace hw:=Ext.trans hw ab;clear ab))
   all_goals refine ae.cu rfl rfl rfl ⟨_,rfl,hw,?_⟩
   all_goals unfold gU
   all_goals rw [if_neg (by omega)]
 ·repeat' (first|refine Wz ?_|(refine SW.call rfl rfl (bM _ _ _ _) ?_;intro v w1 ab hv;subst hv;replace hw:=Ext.trans hw ab;clear ab))
  all_goals refine ae.cu rfl rfl rfl ⟨_,rfl,hw,?_⟩
  all_goals unfold gU
  all_goals rw [if_neg (by omega)]
open Go.RowKit
inductive iW (ws:List Int) (size jd t:Int) : Int→Nat→Prop where
 | zero (x:Int) : iW ws size jd t x 0
 | succ {k n:Nat} (hk:k<ws.length) (ho:mv size jd t k=true) (h:iW ws size jd t ws[k] n) : iW ws size jd t k (n+1)
theorem iW.A8 {ws:List Int} {most size jd t x:Int} {acc:List Int} {r:Option (List Int)} (h:dJ ws most x acc r) : ∀ out,r=some out→(∀ a∈out,mv size jd t a=true)→iW ws size jd t x (out.length-acc.length):=by
 induction h with
 | done out =>
   intro o e _;cases e
   rw [Nat.sub_self];exact .zero _
 | bad=>intro o e;cases e
 | @step k acc r h1 hk h3 h ih =>
   intro o e ho;have h2:=ih o e ho
   have hm:∀ {x':Int} {Eu:List Int} {r':Option (List Int)},dJ ws most x' Eu r' → ∀ o',r'=some o'→(∀ a∈Eu,a∈o')∧Eu.length≤o'.length:=by
    intro x' Eu r' hf;induction hf with
    | done out=>intro o' e';cases e';exact ⟨fun a h=>h,Nat.le_refl _⟩
    | bad=>intro o' e';cases e'
    | step _ _ _ _ Jb =>
      intro o' e';obtain ⟨a1,a2⟩:=Jb o' e';rw [List.length_append] at a2;exact ⟨fun a h=>a1 a (List.mem_append_left _ h),by omega⟩
   obtain ⟨a1,a2⟩:=hm h o e;rw [List.length_append,List.length_singleton] at a2 h2;have e2:o.length-acc.length=(o.length-(acc.length+1))+1:=by omega
   rw [e2];exact .succ hk (ho _ (a1 _ (by simp))) h2
theorem iW.Ev {ws:List Int} {size jd:Int} {x:Slab} {out:List Int} (h:pi ws size jd x out) : iW ws size jd x.At x.fR x.ag.toNat:=by
 have h1:=iW.A8 (t:=x.At) h.1 out rfl h.2.2;have h2:=h.2.1;have e:out.length-([] : List Int).length=x.ag.toNat:=by simp;omega
 rw [e] at h1;exact h1
theorem iW.head {ws:List Int} {size jd t x:Int} {n:Nat} (h:iW ws size jd t x (n+1)) : (0≤x∧x<(ws.length:Int))∧iW ws size jd t (ws.getD x.toNat 0) n:=by
 cases h with
 | @succ k n hk ho h =>
   refine ⟨by omega,?_⟩;have e:ws.getD ((k:Int)).toNat 0=ws[k]:=by simp [hk]
   rw [e];exact h
theorem ow (a s m:Nat) (l:List Int) : ∀ k,(ke a s m l k).length=l.length
 | 0=>rfl
 | k+1=>by simp only [ke,List.length_set];exact ow a s m l k
structure Nu (ws:List Int) (lv:List Block) (c:bd) (x:Slab) : Prop where
 at_ : 0≤x.At∧x.At≤255
 al:x.At % pw c.Order=0
 live:∃ b∈lv,b.At=x.At
 free : 0≤x.ag∧x.ag≤64
 walk:iW ws c.bf c.ck x.At x.fR x.ag.toNat
structure nJ (s:aF) (c:bd) : Prop where
 words:s.Words.length=4096
 most:s.aa.length≤20
 lay:dX c.bf=(c.Order,c.ck,0)
 AR:∀ (k:Nat) (h:k<c.au.length),c.au[k] = -1∨c.ai.any (zV c.au[k])=true
 next:c.ai.Pairwise fun x y=>x.At<y.At
 yV:∀ x∈c.ai,Nu s.Words s.Heap.Live c x
theorem nJ.of {s:aF} (hM:jW s) {i:Nat} (hi:i<s.aa.length) : nJ s s.aa[i]:=by
 have hc:=(hM.each i hi).may;have hl:=iU hc.lay;refine ⟨hM.words,hM.most,hc.lay,fun k h => ?_,?_,fun x hx => ?_⟩
 ·rcases hc.AR k h with g|⟨_,g⟩
  ·exact .inl g
  ·exact .inr g
 ·rw [List.pairwise_iff_getElem]
  have key:∀ (a b:Nat) (ha:a<s.aa[i].ai.length) (hb:b<s.aa[i].ai.length),a<b→s.aa[i].ai[a].At<s.aa[i].ai[b].At:=by
   intro a b;induction b with
   | zero=>intro _ _ h;omega
   | succ b ih =>
     intro ha hb h;have h2:=(hc.aR (b+1) hb).next (by omega);simp only [Nat.add_sub_cancel] at h2;by_cases e:a=b
     ·subst e;exact h2
     ·have:=ih ha (by omega) (by omega);omega
  exact key
 ·obtain ⟨k,hk,rfl⟩:=List.getElem_of_mem hx;have hs:=hc.aR k hk;obtain ⟨out,h⟩:=hs.chain;obtain ⟨hf,h3⟩:=hs.at_ hM.heap hl.2.1.1;obtain ⟨oO,e⟩:=pe hf;obtain ⟨g1,g2,g3,_⟩:=hM.heap.live.each _ oO;have Ff:=hs.live;rw [yH hf oO] at Ff;rw [e,Ff] at g3;have h4:=h.1.Ix (by simp;omega) out rfl;have h5:=h.2.1;exact ⟨h3,g3,⟨_,List.getElem_mem oO,e⟩,by omega,.Ev h⟩
open Go.RowKit
def jH (c:bd) (x:Slab) : Bool:=decide (0<x.ag) && !decide (x.At∈c.au)
def ub (c:bd) (cpu:Nat) : Int:=idxOf (zV (c.au.getD cpu 0)) c.ai
def fg (c:bd) (k:Nat) : Slab:=c.ai.getD k ⟨0,0,0⟩
theorem fZ {c:bd} {k:Nat} (h:k<c.ai.length) : fg c k=c.ai[k]:=by simp [fg,h]
def fL (c:bd) (cpu:Nat) : Int:=if 0≤ub c cpu∧0<(fg c (ub c cpu).toNat).ag then ub c cpu else idxOf (jH c) c.ai
def kf (c:bd) (cpu k:Nat) (v:Int) : bd:=⟨c.Names,c.bf,c.ck,c.Order,c.ai.set k ⟨(fg c k).At,(fg c k).ag-1,v⟩,c.au.set cpu (fg c k).At⟩
def lC (c:bd) (a:Int) : Nat:=(c.ai.takeWhile fun x=>decide (x.At<a)).length
theorem l7 (c:bd) (a:Int) : lC c a≤c.ai.length:=(List.takeWhile_sublist _).length_le
def eG (c:bd) (a:Int) : bd:=⟨c.Names,c.bf,c.ck,c.Order,aV c.ai (lC c a) ⟨a,c.ck,16*a⟩,c.au⟩
def iE (s:aF) (l:List Int) : aF:=⟨l,s.Heap,s.aa⟩
def gh (n:Nat) (x s m:Int) : Prop:=1≤s∧s≤64∧1≤m∧m≤n∧0≤x∧x+s*m≤n
def iX (l:List Int) (x s m:Int) : List Int:=ke x.toNat s.toNat m.toNat l m.toNat
structure DH where
 ws:List Int
 h:Heap
 c:bd
 k:Nat
inductive ks (s:aF) (c:bd) (cpu:Nat) : Option DH×Int→Prop where
 | CZ {k:Nat} (h:fL c cpu=k) : ks s c cpu (some ⟨s.Words,s.Heap,c,k⟩,0)
 | room {u:Heap×Int×Int} (h:fL c cpu<0) (ha:dP s.Heap (cpu:Int) c.Order 0 u) (he:u.2.2≠0) : ks s c cpu (none,u.2.2)
 | chain {u:Heap×Int×Int} (h:fL c cpu<0) (ha:dP s.Heap (cpu:Int) c.Order 0 u) (he:u.2.2=0) (hc : ¬ gh s.Words.length (16*u.2.1) c.bf c.ck) : ks s c cpu (none,1)
 | new {u:Heap×Int×Int} (h:fL c cpu<0) (ha:dP s.Heap (cpu:Int) c.Order 0 u) (he:u.2.2=0) (hc:gh s.Words.length (16*u.2.1) c.bf c.ck) : ks s c cpu (some ⟨iX s.Words (16*u.2.1) c.bf c.ck,u.1,eG c u.2.1,lC c u.2.1⟩,0)
theorem ks.km {s:aF} {c:bd} {cpu:Nat} {u v:Option DH×Int} (x:ks s c cpu u) (y:ks s c cpu v) : u=v:=by
 cases x with
 | @CZ k h=>cases y with
   | @CZ j h' =>
     obtain rfl:k=j:=by omega
     rfl
   | room h'|chain h'|new h'=>omega
 | room h ha he=>cases y with
   | CZ h'=>omega
   | room h' ie nO=>rw [ha.km ie]
   | chain h' ie nO|new h' ie nO=>exact absurd (by rw [ha.km ie];exact nO) he
 | chain h ha he hc=>cases y with
   | CZ h'=>omega
   | room h' ie nO=>exact absurd (by rw [ie.km ha];exact he) nO
   | chain h' ie nO j4=>rfl
   | new h' ie nO j4=>exact absurd (by rw [ha.km ie];exact j4) hc
 | new h ha he hc=>cases y with
   | CZ h'=>omega
   | room h' ie nO=>exact absurd (by rw [ie.km ha];exact he) nO
   | chain h' ie nO j4=>exact absurd (by rw [ie.km ha];exact hc) j4
   | new h' ie nO j4=>rw [ha.km ie]
def kg (s:aF) (i cpu:Nat) : Option DH×Int→aF×Int×Int
 | (some m,_)=>(cm (iE s m.ws) i (m.h,kf m.c cpu m.k (m.ws.getD (fg m.c m.k).fR.toNat 0)),(fg m.c m.k).fR,0)
 | (none,e)=>(.zero,0,e)
theorem xx {s:aF} {i cpu:Nat} {m:Option DH×Int} (hi:i<s.aa.length) (x:ks s s.aa[i] cpu m) (hf:s.lA) (hn:(s.aa[i].ai.length+1)*24≤140737488355328) : (kg s i cpu m).1.small:=by
 have hc:=hf.Kt hi;have hs:=hf.small;have h1:=hc.small;cases x with
 | room|chain=>exact aF.lX
 | CZ h =>
   refine ⟨hs.words,hs.heap,by simp only [kg,cm,iE,List.length_set];exact hs.dN,fun c j4 => ?_⟩;rcases List.mem_or_eq_of_mem_set j4 with j4|rfl
   ·exact hs.each c j4
   ·exact ⟨h1.names,by simp only [kf,List.length_set];exact h1.aR,by simp only [kf,List.length_set];exact h1.a9⟩
 | new h ha he BB =>
   refine ⟨by simp only [kg,cm,iE,iX,ow];exact hs.words,ha.small hs.heap,by simp only [kg,cm,iE,List.length_set];exact hs.dN,fun c j4 => ?_⟩;rcases List.mem_or_eq_of_mem_set j4 with j4|rfl
   ·exact hs.each c j4
   ·refine ⟨h1.names,?_,by simp only [kf,eG,List.length_set];exact h1.a9⟩;simp only [kf,eG,List.length_set];rw [dq _ (l7 _ _)];exact hn
inductive nK (s:aF) (n:ByteArray) (cpu:Int) : aF×Int×Int→Prop where
 | ask (h:lY s n cpu≠0) : nK s n cpu (.zero,0,lY s n cpu)
 | Ew {i:Nat} {m:Option DH×Int} (h:lY s n cpu=0) (e:idxOf (iV n) s.aa=i) (hi:i<s.aa.length) (hm:ks s s.aa[i] cpu.toNat m) : nK s n cpu (kg s i cpu.toNat m)
theorem nK.km {s:aF} {n:ByteArray} {cpu:Int} {u v:aF×Int×Int} (x:nK s n cpu u) (y:nK s n cpu v) : u=v:=by
 cases x with
 | ask h=>cases y with
   | ask=>rfl
   | Ew h'=>exact absurd h' h
 | @Ew i _ h e hi hm=>cases y with
   | ask h'=>exact absurd h h'
   | @Ew j _ h' e' hj Nv =>
     obtain rfl:i=j:=by omega
     rw [hm.km Nv]
theorem Ex {c:bd} {a:Int} {j:Nat} (h:j<lC c a) (hj:j<c.ai.length) : c.ai[j].At<a:=by
 unfold lC at h;have h1:(c.ai.takeWhile fun x=>decide (x.At<a))[j]=c.ai[j]:=List.IsPrefix.getElem (List.takeWhile_prefix _) h
 have:=List.all_takeWhile (p:=fun x:Slab=>decide (x.At<a)) (l:=c.ai)
 rw [List.all_eq_true] at this;have:=this _ (List.getElem_mem h)
 rw [h1] at this;exact of_decide_eq_true this
theorem Fg {α:Type} {p : α → Bool}:∀ (l:List α) (x : α),l[(l.takeWhile p).length]?=some x→p x=false
 | [],x,h=>by simp at h
 | a::r,x,h=>by
   rw [List.takeWhile_cons] at h;cases e:p a with
   | false =>
     rw [e] at h;simp at h;subst h;exact e
   | true =>
     rw [e] at h;simp at h;exact Fg r x h
theorem ny {c:bd} {a:Int} {k:Nat} (hk:k≤c.ai.length) (h1:∀ (j:Nat) (hj:j<c.ai.length),j<k→c.ai[j].At<a) (h2:∀ h:k<c.ai.length,¬ c.ai[k].At<a) : lC c a=k:=by
 rcases Nat.lt_trichotomy (lC c a) k with h|h|h
 ·exfalso;have h3:lC c a<c.ai.length:=by omega
  have h4:=Fg (p:=fun x:Slab=>decide (x.At<a)) c.ai c.ai[lC c a] (List.getElem?_eq_getElem h3);exact of_decide_eq_false h4 (h1 _ h3 h)
 ·exact h
 ·exact absurd (Ex h (by have:=l7 c a;omega)) (h2 _)
theorem qg {s:aF} {c:bd} (hM:nJ s c) : c.ai.length≤256:=by
 have hn:=hM.next;rw [List.pairwise_iff_getElem] at hn
 have key:∀ (k:Nat) (hk:k<c.ai.length),(k:Int)≤c.ai[k].At:=by
  intro k;induction k with
  | zero=>intro hk;have:=(hM.yV _ (List.getElem_mem hk)).at_;omega
  | succ k ih =>
    intro hk;have h1:=ih (by omega);have h2:=hn k (k+1) (by omega) hk (by omega);omega
 rcases Nat.lt_or_ge 256 c.ai.length with h|h
 ·have h1:=key 256 h;have h2:=(hM.yV _ (List.getElem_mem h)).at_;omega
 ·exact h
theorem uS {s:aF} {c:bd} (hM:nJ s c) {cpu:Nat} (hc:cpu<c.au.length) :
 (c.au[cpu] = -1∧ub c cpu = -1)∨(0≤c.au[cpu] ∧ ∃ (k:Nat) (hk:k<c.ai.length),ub c cpu=k∧c.ai[k].At=c.au[cpu]):=by
 have ha:=hM.AR cpu hc;have e:c.au.getD cpu 0=c.au[cpu]:=by simp [hc]
 unfold ub;rw [e];rcases ha with h|h
 ·left;refine ⟨h,(fj fun j hj => ?_).1⟩;rw [h];have:=(hM.yV _ (List.getElem_mem hj)).at_
  unfold zV;exact decide_eq_false (by omega)
 ·right;obtain ⟨k,hk,h1,_,h2⟩:=jN h;have h3:=of_decide_eq_true h1;have:=(hM.yV _ (List.getElem_mem hk)).at_
  exact ⟨by omega,k,hk,h2,h3⟩
theorem nJ.first {s:aF} {c:bd} (hM:nJ s c) {x:Slab} (hx:x∈c.ai) (hf : 0<x.ag) : (0≤x.fR∧x.fR<4096)∧iW s.Words c.bf c.ck x.At (s.Words.getD x.fR.toNat 0) (x.ag-1).toNat:=by
 have h:=(hM.yV x hx).walk;rw [show x.ag.toNat=(x.ag-1).toNat+1 by omega] at h;have h2:=h.head;rw [hM.words] at h2;exact h2
structure IA (s:aF) (m:DH) : Prop where
 hk:m.k<m.c.ai.length
 len:m.ws.length=4096
 first : 0≤m.c.ai[m.k].fR∧m.c.ai[m.k].fR<4096
 free : 1≤m.c.ai[m.k].ag∧m.c.ai[m.k].ag≤64
theorem td {α:Type} {l:List α} {p:Nat} {x : α} (hp:p≤l.length) (h:p<(aV l p x).length) : (aV l p x)[p]=x:=by
 have:=j5 (x:=x) hp
 rw [List.getElem?_eq_getElem h] at this;exact Option.some.inj this
theorem vS {c:bd} {cpu k:Nat} (h:fL c cpu=k) : ∃ hk:k<c.ai.length,0<c.ai[k].ag:=by
 unfold fL at h;split at h
 ·rename_i h1;rw [h] at h1;have e:((k:Int)).toNat=k:=by omega
  rw [e] at h1
  have hk:k<c.ai.length:=by
   rcases Nat.lt_or_ge k c.ai.length with h2|h2
   ·exact h2
   ·have:fg c k=⟨0,0,0⟩:=by simp [fg,List.getElem?_eq_none h2]
    rw [this] at h1;simp at h1
  rw [fZ hk] at h1;exact ⟨hk,h1.2⟩
 ·have hg:=iz (jH c) c.ai;rw [h,decide_eq_true (by omega)] at hg;obtain ⟨j,hj,h1,_,h2⟩:=jN hg.symm;rw [h] at h2;obtain rfl:k=j:=by omega
  refine ⟨hj,?_⟩;unfold jH at h1;simp only [Bool.and_eq_true,decide_eq_true_eq] at h1;exact h1.1
theorem ks.FV {s:aF} {c:bd} (hM:nJ s c) {cpu:Nat} {u:Option DH×Int} (x:ks s c cpu u) : ∀ m,u.1=some m→IA s m:=by
 intro m e;cases x with
 | room|chain=>cases e
 | CZ h =>
   simp only [Option.some.injEq] at e;subst e;obtain ⟨hk,hf⟩:=vS h;have:=(hM.yV _ (List.getElem_mem hk)).free
   exact ⟨hk,hM.words,(hM.first (List.getElem_mem hk) hf).1,by simp only;omega⟩
 | @new u h ha he hc =>
   simp only [Option.some.injEq] at e;subst e;have ur:=ha.at_ he;have hl:=iU hM.lay;have hp:=l7 c u.2.1
   have hk:lC c u.2.1<(eG c u.2.1).ai.length:=by
    simp only [eG];rw [dq _ hp];omega
   have e:(eG c u.2.1).ai[lC c u.2.1]=⟨u.2.1,c.ck,16*u.2.1⟩:=td hp hk
   refine ⟨hk,by simp only [iX,ow];exact hM.words,?_,?_⟩
   ·simp only [e];omega
   ·simp only [e];omega
open Go.RowKit
set_option maxHeartbeats 4000000 in
theorem iF (A:Option Addr) (n c lo:Nat) (l:List Slab) (w:World) (hO:Own w lo 48 3 aZ A n c l) (i:Nat) (hi:i≤n) (x:Slab) (b:Nat) (hB:aJ w b 48 (aZ x)) (cG:aT A c≠some b) (hn:(n+1)*24≤140737488355328) (fC:lo≤w.heap.size) :
 gL Tryz.prog 77 [.slice A n c,.int .i64 (i:Int),.slice (some ⟨b,0,none⟩) 1 1] w fun v w' => ∃ A' c',v = .slice A' (n+1) c'∧Own w' lo 48 3 aZ A' (n+1) c' (aV l i x)∧w.grownBy w' (aT A c) ∧ ∀ k,aT A' c'=some k→aT A c=some k∨w.heap.size≤k:=by
 refine dw Tryz.func77 rfl Tryz.ntmps77 rfl ?_;have hle:=hO.le;have ma:=hO.len;have hA:=hO.sl.base;have hw:=Ext.refl w;have kz:Sl w 3 aZ (some ⟨b,0,none⟩) 1 [x]:=aJ.mb hB
 have jI:(aZ x).length=3:=rfl
 have oB:∀ q:List Slab,(q.flatMap aZ).length=q.length*3:=fun q=>ba q
 have nB:∀ (q:List Slab) (v:Value),v∈q.flatMap aZ→v.oneCell'=true:=fun q v hv=>by
  obtain ⟨u,_,hu⟩:=List.mem_flatMap.1 hv;exact fB.one (enc:=aZ) u v hu
 by_cases cf:i=n
 ·subst cf;repeat' (first|refine Wz ?_|(refine SW.st (bg (k:=i) rfl rfl (by omega) (by omega)) rfl ?_))
  all_goals try omega
  refine SW.vv hO kz fC (by omega) rfl rfl rfl (by omega) (by omega) fun A2 c2 w2 cy => ?_
  have sD:Own w2 lo 48 3 aZ A2 (i+1) c2 (l++[x])∧w.grownBy w2 (aT A c) ∧ ∀ k,aT A2 c2=some k→aT A c=some k∨w.heap.size≤k:=by
   rcases cy with ⟨rfl,rfl,h1,h2⟩|⟨h1,h2⟩
   ·exact ⟨h1,h2,fun k e => .inl e⟩
   ·exact ⟨h1.low fC,(aE (Ext.refl w) h2 (Nat.le_refl _) (fun k e=>by cases e)).gr _,fun k e => .inr (h1.aM k e)⟩
  obtain ⟨gx,hg,kN⟩:=sD;refine Wz ?_;refine ae.aN rfl rfl ⟨_,rfl,A2,c2,rfl,?_,hg,kN⟩;have e:aV l i x=l++[x]:=by unfold aV;rw [List.take_of_length_le (by omega),List.drop_eq_nil_of_le (by omega)];simp
  rw [e];exact gx
 ·by_cases jk:n+1≤c
  ·obtain ⟨g,rest,rfl,h1,h2,h3,h4,h5,h6⟩:=hO.opened (by omega);have Af:g≠b:=fun e=>cG (by rw [h6,e])
   have es:l.flatMap aZ++rest=(l.take i).flatMap aZ++((l.drop i).flatMap aZ++rest):=by rw [← List.append_assoc,← List.flatMap_append,List.take_append_drop]
   have e1:((l.take i).flatMap aZ).length=i*3:=by rw [oB];simp;omega
   have e2:((l.drop i).flatMap aZ).length=(n-i)*3:=by rw [oB];simp [ma]
   have lK:=hO.sl.drop i c (by omega) (by omega);rw [if_neg (by omega)] at lK;rw [es] at h2
   have wx:∀ w',Ext w w'→(Extern.SlicesOverlaps.overlaps #[44,44] #[4] #[.slice (some ⟨b,0,none⟩) 1 1,.slice (if c=i+1 then (some ⟨g,0,none⟩) else (some (⟨g,0,none⟩ : Addr)).map (·.add ((i+1)*3))) (n+1-(i+1)) (c-(i+1))]).run Tryz.prog w' = .ok (.bool false) w':=fun w' hx=>by
    rw [if_neg (by omega),Option.map_some,c7];have b1:=hB.ext hx;have b2:=h2.ext hx;unfold aJ at b1 b2
    exact Lib.run_overlaps_apart w' 44 4 48 (bw.ko (t:=44)) 3 (fun w0=>run_sizeOf (bw.size (t:=44)) w0) ⟨b,0,none⟩ ⟨g,(i+1)*3,none⟩ 1 1 _ _ (fun e=>Af e.symm) 48 48 (aZ x).toArray.size ((l.take i).flatMap aZ++((l.drop i).flatMap aZ++rest)).toArray.size
     (by simp only [World.shape?,b1]) (by simp only [World.shape?,b2]) (by simp [e1,e2];omega) (by simp [World.frozen?,b1]) (by simp [World.frozen?,b1])
   repeat' (first|refine Wz ?_|(refine CW.bF rfl ?_)|(refine SW.st (bg (k:=i) rfl rfl (by omega) (by omega)) rfl ?_)|(refine SW.st (da (k:=n+1) rfl rfl (by omega)) rfl ?_)|(refine SW.st (bg (k:=i+1) rfl rfl (by omega) (by omega)) rfl ?_)|(refine SW.entry Tryz.func108 (by kernel_rfl) (by kernel_rfl) (by kernel_rfl) (e:=Extern.SlicesOverlaps.overlaps #[44,44] #[4]) (by kernel_rfl) rfl rfl (wx _ hw) ?_))
   all_goals try omega
   have ui:((n-i)+1)*3≤((l.drop i).flatMap aZ++rest).length:=by rw [List.length_append,e2];omega
   have e4:(l.drop i).flatMap aZ++rest=((l.drop i).flatMap aZ++rest).take 3++(((l.drop i).flatMap aZ++rest).drop 3).take ((n-i)*3)++((l.drop i).flatMap aZ++rest).drop (3+(n-i)*3):=by
    rw [List.append_assoc,← List.drop_drop,List.take_append_drop,List.take_append_drop]
   generalize B0:((l.drop i).flatMap aZ++rest).take 3=D1 at e4
   generalize B1:(((l.drop i).flatMap aZ++rest).drop 3).take ((n-i)*3)=D2 at e4
   generalize B3:((l.drop i).flatMap aZ++rest).drop (3+(n-i)*3)=D3 at e4
   have f1:D1.length=3:=by rw [← B0];simp only [List.length_take];omega
   have f2:D2.length=(n-i)*3:=by rw [← B1];simp only [List.length_take,List.length_drop];omega
   have f3:D3.length+3=rest.length:=by rw [← B3];simp only [List.length_drop,List.length_append,e2];omega
   rw [e4] at h2;refine CW.any 8 mixed (cl (by kernel_rfl)) rfl fun w1 ab aG => ?_
   replace hw:=Ext.trans hw ab;replace hO:=hO.ext ab;replace hB:=hB.ext ab;replace h2:=h2.ext ab;clear ab;refine Wa ?_;refine SA.take 4 aG rfl (by kernel_rfl) (by kernel_rfl) rfl ?_;repeat ((refine SW.st (bg (k:=i+1) rfl rfl (by omega) (by omega)) rfl ?_))
   refine SW.ah ?_;refine Wa ?_;refine SA.take 7 aG rfl (by kernel_rfl) (by kernel_rfl) rfl ?_;repeat ((refine SW.st (bg (k:=i) rfl rfl (by omega) (by omega)) rfl ?_))
   refine SW.ah ?_;refine SA.done (by kernel_rfl) ?_;refine SW.copy (k:=n-i) ((i+1)*3) ((l.drop i).flatMap aZ) h2 rfl rfl rfl (by omega) e2 (by simp only [List.length_append,e1,e2,f1,f2];omega) (fun h0=>⟨by rw [if_neg (by omega)];simp [c7],(⟨g,0,none⟩ : Addr).add (i*3),by rw [if_neg (by omega)];rfl,fun j v hv=>dm (by omega) (lK.ext hw) j v hv⟩) (nB _) fun w3 mi tx => ?_
   have g1:=eJ ((l.take i).flatMap aZ++D1) D2 D3 ((l.drop i).flatMap aZ) (by rw [e2,f2]) (o:=(i+1)*3) (by rw [List.length_append,e1,f1];omega);have g0:(l.take i).flatMap aZ++(D1++D2++D3)=(l.take i).flatMap aZ++D1++D2++D3:=by simp only [List.append_assoc]
   rw [g0,g1] at mi;have DZ:=bO (hw.gr (aT (some ⟨g,0,none⟩) c)) tx (.inl h6.symm);have HF:=hB.grown tx (by simpa using fun e=>Af e.symm);repeat' (first|refine Wz ?_|(refine SW.st (bg (k:=i) rfl rfl (by omega) (by omega)) rfl ?_))
   refine SW.copy (k:=1) (i*3) (aZ x) mi rfl rfl rfl (by omega) jI (by simp only [List.length_append,e1,e2,f1,jI];omega) (fun h0=>⟨by rw [if_neg (by omega)];simp [c7],⟨b,0,none⟩,rfl,fun j v hv=>HF.cell hv⟩) (fB.one (enc:=aZ) x) fun w4 mI u5 => ?_
   have g2:=eJ ((l.take i).flatMap aZ) D1 ((l.drop i).flatMap aZ++D3) (aZ x) (by rw [jI,f1]) (o:=i*3) e1.symm;have g3:(l.take i).flatMap aZ++D1++(l.drop i).flatMap aZ++D3=(l.take i).flatMap aZ++D1++((l.drop i).flatMap aZ++D3):=by simp only [List.append_assoc]
   have g4:(l.take i).flatMap aZ++aZ x++((l.drop i).flatMap aZ++D3)=(aV l i x).flatMap aZ++D3:=by unfold aV;simp only [List.flatMap_append,List.flatMap_cons,List.flatMap_nil,List.append_nil,List.append_assoc]
   rw [g3,g2,g4] at mI;have B4:=Own.closed (n:=n+1) (c:=c) (l:=aV l i x) (by unfold aV;simp;omega) mI (by omega) jk (by omega) h5 h1;have B5:=bO DZ u5 (.inl h6.symm);refine Wz ?_;exact ae.aN rfl rfl ⟨_,rfl,_,_,rfl,B4,B5,fun k e => .inl e⟩
  ·have EX:c=n:=by omega
   have lK:=hO.sl.drop i c (by omega) (by omega);have pM:=hO.sl.pre (i:=i) (by omega);repeat' (first|refine Wz ?_|(refine SW.st (bg (k:=i) rfl rfl (by omega) (by omega)) rfl ?_)|(refine SW.st (da (k:=i) rfl rfl (by omega)) rfl ?_))
   all_goals try omega
   refine SW.vg (k:=n+1-i) pM Tryz.underlying3 rfl rfl (by omega) rfl (by omega) (by omega) (by omega) (by omega) fun g rest c2 w2 cw tH h2 h3 h4 h5 => ?_
   have e1:((l.take i).flatMap aZ).length=i*3:=by rw [oB];simp;omega
   have e2:((l.drop i).flatMap aZ).length=(n-i)*3:=by rw [oB];simp [ma]
   have ui:((n-i)+1)*3≤rest.length:=by omega
   have e4:rest=rest.take 3++(rest.drop 3).take ((n-i)*3)++rest.drop (3+(n-i)*3):=by
    rw [List.append_assoc,← List.drop_drop,List.take_append_drop,List.take_append_drop]
   generalize B0:rest.take 3=D1 at e4
   generalize B1:(rest.drop 3).take ((n-i)*3)=D2 at e4
   generalize B3:rest.drop (3+(n-i)*3)=D3 at e4
   have f1:D1.length=3:=by rw [← B0];simp only [List.length_take];omega
   have f2:D2.length=(n-i)*3:=by rw [← B1];simp only [List.length_take,List.length_drop];omega
   have f3:D3.length+((n-i)+1)*3=rest.length:=by rw [← B3];simp only [List.length_drop];omega
   rw [e4] at h2;have dt:aT A c≠some g:=fun e=>by have:=hO.lt_size _ e;omega
   have Af:b≠g:=by have:=hB.lt;omega
   replace lK:=lK.ext cw;replace hB:=hB.ext cw;replace hw:=Ext.trans hw cw;repeat' (first|refine Wz ?_|(refine SW.st (bg (k:=i) rfl rfl (by omega) (by omega)) rfl ?_))
   refine SW.copy (k:=1) (i*3) (aZ x) h2 rfl rfl rfl (by omega) jI (by simp only [List.length_append,e1,f1,f2,jI];omega) (fun h0=>⟨by rw [if_neg (by omega)];simp [c7],⟨b,0,none⟩,rfl,fun j v hv=>hB.cell hv⟩) (fB.one (enc:=aZ) x) fun w3 mi tx => ?_
   have g2:=eJ ((l.take i).flatMap aZ) D1 (D2++D3) (aZ x) (by rw [jI,f1]) (o:=i*3) e1.symm;have g3:(l.take i).flatMap aZ++(D1++D2++D3)=(l.take i).flatMap aZ++D1++(D2++D3):=by simp only [List.append_assoc]
   rw [g3,g2] at mi;have tz:Ext w w3:=hw.own tH tx
   have kA:Sl w3 3 aZ (if c=i then A else A.map (·.add (i*3))) (n-i) (l.drop i):=(hO.sl.drop i c (by omega) (by omega)).ext tz
   replace hw:=tz;refine Wz ?_;refine CW.any 8 mixed (cl (by kernel_rfl)) rfl fun w1 ab aG => ?_
   replace hw:=Ext.trans hw ab;replace mi:=mi.ext ab;replace kA:=kA.ext ab;clear ab;refine Wa ?_;refine SA.take 4 aG rfl (by kernel_rfl) (by kernel_rfl) rfl ?_;repeat ((refine SW.st (bg (k:=i+1) rfl rfl (by omega) (by omega)) rfl ?_))
   refine SW.ah ?_;refine Wa ?_;refine SA.take 7 aG rfl (by kernel_rfl) (by kernel_rfl) rfl ?_;repeat ((refine SW.st (bg (k:=i) rfl rfl (by omega) (by omega)) rfl ?_))
   refine SW.ah ?_;refine SA.done (by kernel_rfl) ?_;refine SW.copy (k:=n-i) ((i+1)*3) ((l.drop i).flatMap aZ) mi rfl rfl rfl (by omega) e2 (by simp only [List.length_append,e1,e2,f2,jI];omega) (fun h0=>⟨by rw [if_neg (by omega)];simp [c7],(if c=i then A else A.map (·.add (i*3))).getD default,?_,fun j v hv=>dm (by omega) kA j v hv⟩) (nB _) fun w4 mI u5 => ?_
   ·obtain ⟨a,ha⟩:=Option.isSome_iff_exists.1 (kA.base h0);rw [ha];rfl
   ·have g4:=eJ ((l.take i).flatMap aZ++aZ x) D2 D3 ((l.drop i).flatMap aZ) (by rw [e2,f2]) (o:=(i+1)*3) (by rw [List.length_append,e1,jI];omega);have g5:(l.take i).flatMap aZ++aZ x++(D2++D3)=(l.take i).flatMap aZ++aZ x++D2++D3:=by simp only [List.append_assoc]
    have g6:(l.take i).flatMap aZ++aZ x++(l.drop i).flatMap aZ++D3=(aV l i x).flatMap aZ++D3:=by unfold aV;simp only [List.flatMap_append,List.flatMap_cons,List.flatMap_nil,List.append_nil,List.append_assoc]
    rw [g5,g4,g6] at mI;have B4:=Own.closed (n:=n+1) (c:=c2) (lo:=lo) (l:=aV l i x) (by unfold aV;simp;omega) mI (by omega) (by omega) (by omega) h5 (by omega);have iG:Ext w w4:=hw.own tH u5
    have e9:i+(n+1-i)=n+1:=by omega
    refine Wz ?_;rw [e9]
    exact ae.aN rfl rfl ⟨_,rfl,_,_,rfl,B4,iG.gr _,fun k e => .inr (by
     have:k=g:=by
      unfold aT at e;split at e
      ·cases e
      ·simpa using e.symm
     omega)⟩
open Go.RowKit
theorem gL.mono {P:Program} {f:FuncId} {args:List Value} {w:World} {R R':Value→World→Prop} (h:gL P f args w R) (hr:∀ v w',R v w'→R' v w') : gL P f args w R' :=
 ⟨Calls.mono h.out fun e w' ⟨v,he,hv⟩=>⟨v,he,hr v w' hv⟩⟩
structure HK where
 b:Nat
 g:Nat
 c:Nat
 m:fE
 lv:fE
 cp:Int
 M:List Int
 V:List Block
structure HP where
 u0:cq
 u1:cq
 li:fE
 ls:List bL
abbrev HK.h (k:HK) (p:HP) : ez:=⟨⟨some ⟨k.g,0,none⟩,2,k.c⟩,k.m,k.cp,p.li,k.lv⟩
structure HS (wb w:World) (k:HK) (p:HP) (s:aq×aq) (L:List aB) : Prop where
 cU:aJ w k.b 27 (bm (k.h p))
 zs:dR w wb.heap.size k.g k.c p.u0 p.u1 s
 cj:Own w wb.heap.size 3 1 bh k.m.A k.m.n k.m.c k.M
 live:Own w wb.heap.size 77 3 az k.lv.A k.lv.n k.lv.c k.V
 ls:cJ w wb.heap.size p.li p.ls L
 sm:o7 k.m [p.u0,p.u1] p.ls
 sf:qY k.lv [p.u0,p.u1]
 C0:wb.heap.size≤k.b
 base:Ext wb w
def gC (k:HK) (p:HP) (i:Nat) : Prop:=i=k.b∨i=k.g∨ob p.li=some i ∨ ∃ y∈p.ls,ob y.aw=some i
section
variable {w w' w0 w1 w2 wb:World} {i t:Nat} {k:HK} {p p' p0 p1 p2:HP} {s:aq×aq} {L:List aB} {cs:List Value} {row:Option Nat}
theorem HS.ext (h:HS wb w k p s L) (hx:Ext w w') : HS wb w' k p s L:=⟨h.cU.ext hx,h.zs.ext hx,h.cj.ext hx,h.live.ext hx,h.ls.ext hx,h.sm,h.sf,h.C0,h.base.trans hx⟩
theorem HS.IB (h:HS wb w k p s L) {y:bL} (hy:y∈p.ls) : ∃ l∈L,kr w wb.heap.size y l:=by
 obtain ⟨j,hj,rfl⟩:=List.getElem_of_mem hy;have ul:j<L.length:=by rw [← h.ls.each.len];exact hj
 exact ⟨_,List.getElem_mem ul,h.ls.each.get j hj ul⟩
theorem HS.lt (h:HS wb w k p s L) (hi:gC k p i) : i<w.heap.size:=by
 rcases hi with rfl|rfl|hi|⟨y,hy,hi⟩
 ·exact h.cU.lt
 ·exact h.zs.row.lt_size _ h.zs.own
 ·exact h.ls.row.lt_size i hi
 ·obtain ⟨l,_,hl⟩:=h.IB hy;exact hl.cr.lt_size i hi
theorem HS.not (h:HS wb w k p s L) (hi:w.heap.size≤i) : ¬ gC k p i:=fun hm=>by have:=h.lt hm;omega
theorem HS.low (h:HS wb w k p s L) : wb.heap.size≤w.heap.size:=Nat.le_of_lt (Nat.lt_of_le_of_lt h.C0 h.cU.lt)
structure kW (w0:World) (k:HK) (p0:HP) (w:World) (p:HP) : Prop where
 os:w.os=w0.os
 tape:w.tape=w0.tape
 output:w.output=w0.output
 size:w0.heap.size≤w.heap.size
 block:∀ i,i<w0.heap.size → ¬ gC k p0 i→w.heap[i]?=w0.heap[i]?
 A9:∀ i,gC k p i→gC k p0 i∨w0.heap.size≤i
theorem kW.refl (w:World) (k:HK) (p:HP) : kW w k p w p:=⟨rfl,rfl,rfl,Nat.le_refl _,fun _ _ _=>rfl,fun _ h => .inl h⟩
theorem kW.step (h:kW w0 k p0 w p) (hg:w.grownBy w' row) (hr:∀ i,row=some i→gC k p i∨w0.heap.size≤i) (hp:∀ i,gC k p' i→gC k p i∨w0.heap.size≤i) : kW w0 k p0 w' p' :=
 ⟨hg.os.trans h.os,hg.tape.trans h.tape,hg.output.trans h.output,Nat.le_trans h.size hg.size,fun i hi hm=>by
  rw [hg.block i (Nat.lt_of_lt_of_le hi h.size) (fun e=>by
   rcases hr i e.symm with e|e
   ·rcases h.A9 i e with e|e
    ·exact hm e
    ·omega
   ·omega)]
  exact h.block i hi hm,fun i hi=>by
  rcases hp i hi with e|e
  ·exact h.A9 i e
  ·exact .inr e⟩
theorem kW.ext (h:kW w0 k p0 w p) (hx:Ext w w') : kW w0 k p0 w' p:=h.step (hx.gr none) (fun i e=>by cases e) (fun i e => .inl e)
theorem kW.trans (h:kW w0 k p0 w1 p1) (h':kW w1 k p1 w2 p2) : kW w0 k p0 w2 p2 :=
 ⟨h'.os.trans h.os,h'.tape.trans h.tape,h'.output.trans h.output,Nat.le_trans h.size h'.size,fun i hi hm=>by
  rw [h'.block i (Nat.lt_of_lt_of_le hi h.size) (fun e=>by rcases h.A9 i e with e|e;exact hm e;omega)];exact h.block i hi hm,fun i hi=>by
  rcases h'.A9 i hi with e|e
  ·exact h.A9 i e
  ·exact .inr (Nat.le_trans h.size e)⟩
theorem kW.cU (h:kW w0 k p0 w p) (hB:aJ w0 i t cs) (hn : ¬ gC k p0 i) : aJ w i t cs:=(h.block i hB.lt hn).trans hB
theorem kW.not (h:kW w0 k p0 w p) (hn : ¬ gC k p0 i) (hi:i<w0.heap.size) : ¬ gC k p i:=fun e=>by rcases h.A9 i e with e|e;exact hn e;omega
end
def kh (p:HP) (zi:Nat) (u:cq) : HP:=if zi=0 then ⟨u,p.u1,p.li,p.ls⟩ else ⟨p.u0,u,p.li,p.ls⟩
theorem jh {p:HP} {zi:Nat} {u:cq}:(kh p zi u).li=p.li∧(kh p zi u).ls=p.ls:=by unfold kh;split<;>exact ⟨rfl,rfl⟩
theorem qi {k:HK} {p:HP} {zi:Nat} {u:cq} {i:Nat}:gC k (kh p zi u) i↔gC k p i:=by unfold gC;rw [jh.1,jh.2]
theorem HS.Ba {wb w0 w w':World} {k:HK} {p:HP} {s:aq×aq} {L:List aB} {zi:Nat} {u:cq} {z:aq} (h0:HS wb w0 k p s L) (h:HS wb w k p s L) (hz:zi<2)
 (hO:Own w' wb.heap.size 59 4 bo (some ⟨k.g,0,none⟩) 2 k.c ([p.u0,p.u1].set zi u)) (hg:w.grownBy w' (some k.g)) (hn:eV w w0.heap.size u z) : HS wb w' k (kh p zi u) (kU s (zi:Int) z) L:=by
 have hG:=h.zs.gr hg;have hx:Ext wb w':=h.base.own h.zs.yo hg
 have tD:=(hn.low h0.low).ay hG rfl;have hf:∀ g,aT u.Types.A u.Types.c=some g→w0.heap.size≤g:=fun g e=>hn.types.aM g e
 have Nw:∀ g,aT u.ag.A u.ag.c=some g→w0.heap.size≤g:=fun g e=>hn.free.aM g e
 have sB:∀ (j:Nat) (hj:j<p.ls.length) (g:Nat),aT p.ls[j].aw.A p.ls[j].aw.c=some g→g<w0.heap.size:=fun j hj g e=>h0.lt (.inr (.inr (.inr ⟨_,List.getElem_mem hj,e⟩)))
 have Gi:∀ us:List cq,(∀ v∈us,v∈[p.u0,p.u1]∨v=u)→o7 k.m us p.ls:=fun us hu=>⟨h.sm.cj,fun j hj g e v hv=>by
  rcases hu v hv with h1|rfl
  ·exact h.sm.types j hj g e v h1
  ·intro e2;have:=hf g e2;have:=sB j hj g e;omega,h.sm.sep⟩
 have Hk:∀ us:List cq,(∀ v∈us,v∈[p.u0,p.u1]∨v=u)→qY k.lv us:=fun us hu v hv g e=>by
  rcases hu v hv with h1|rfl
  ·exact h.sf v h1 g e
  ·intro e2;have:=Nw g e;have:=h0.live.lt_size g e2;omega
 unfold kh kU;by_cases iM:zi=0
 ·subst iM;simp only [if_true,Int.ofNat_eq_natCast,Int.natCast_zero] at *;exact ⟨h.cU.ay hG rfl,⟨hO,tD,h.zs.z1.ay hG rfl,h.zs.yo,h.zs.pos⟩,h.cj.ay hG rfl,h.live.ay hG rfl,h.ls.ay hG rfl,Gi _ (by simp),Hk _ (by simp),h.C0,hx⟩
 ·obtain rfl:zi=1:=by omega
  have e1 : ¬ ((1:Nat)=0):=by omega
  have e2 : ¬ (((1:Nat) : Int)=0):=by omega
  simp only [if_neg e1,if_neg e2] at *;exact ⟨h.cU.ay hG rfl,⟨hO,h.zs.z0.ay hG rfl,tD,h.zs.yo,h.zs.pos⟩,h.cj.ay hG rfl,h.live.ay hG rfl,h.ls.ay hG rfl,Gi _ (by simp),Hk _ (by simp),h.C0,hx⟩
theorem cJ.yW {w w':World} {lo:Nat} {li:fE} {ls:List bL} {L:List aB} (h:cJ w lo li ls L) (hg:w.grownBy w' (ob li)) : n9 w w' 62:=h.row.gr hg
theorem zY {m:fE} {us:List cq} {ls vo:List bL} (h:o7 m us ls) (hs:yh vo) (ho:∀ y∈vo,∃ x∈ls,ob y.aw=ob x.aw) : o7 m us vo:=by
 refine ⟨fun j hj g e => ?_,fun j hj g e v hv => ?_,hs⟩
 ·obtain ⟨x,hx,e2⟩:=ho _ (List.getElem_mem hj);obtain ⟨i,hi,rfl⟩:=List.getElem_of_mem hx;exact h.cj i hi g (e2.symm.trans e)
 ·obtain ⟨x,hx,e2⟩:=ho _ (List.getElem_mem hj);obtain ⟨i,hi,rfl⟩:=List.getElem_of_mem hx;exact h.types i hi g (e2.symm.trans e) v hv
theorem HS.setRow {wb w w':World} {k:HK} {p:HP} {s:aq×aq} {L:List aB} {i:Nat} {y:bL} {l:aB} (h:HS wb w k p s L) (hi:i<p.ls.length) (hO:Own w' wb.heap.size 62 4 bp p.li.A p.li.n p.li.c (p.ls.set i y)) (hg:w.grownBy w' (ob p.li)) (hy:kr w wb.heap.size y l)
 (ho:ob y.aw=ob p.ls[i].aw) : HS wb w' k ⟨p.u0,p.u1,p.li,p.ls.set i y⟩ s (L.set i l):=by
 have hG:=h.ls.yW hg;have hx:Ext wb w':=aE h.base hg (Nat.le_refl _) h.ls.row.aM
 have hm:∀ z∈p.ls.set i y,∃ x∈p.ls,ob z.aw=ob x.aw:=fun z hz=>by
  rcases List.mem_or_eq_of_mem_set hz with h1|rfl
  ·exact ⟨z,h1,rfl⟩
  ·exact ⟨_,List.getElem_mem hi,ho⟩
 have c9:∀ x∈p.ls,∀ g,ob x.aw=some g→g<w.heap.size:=fun x hx g e=>h.lt (.inr (.inr (.inr ⟨x,hx,e⟩)))
 refine ⟨h.cU.ay hG rfl,h.zs.ay hG rfl,h.cj.ay hG rfl,h.live.ay hG rfl,⟨hO,?_⟩,zY h.sm (tX.pZ (li:=p.li) h.sm.sep c9 hi (fun g e => .inl (ho ▸ e))).sep hm,h.sf,h.C0,hx⟩;exact ey.setAt (R:=kr w wb.heap.size) h.ls.each (hy.ay hG rfl) (fun j h1 h2 _ hh=>hh.ay hG rfl)
theorem ey.erase {α β:Type} {R : α → β → Prop} {xs:List α} {ys:List β} (h:ey R xs ys) (i:Nat) : ey R (xs.eraseIdx i) (ys.eraseIdx i):=by
 refine ⟨by rw [List.length_eraseIdx,List.length_eraseIdx,h.len],fun j h1 h2 => ?_⟩;have hl:=h.len;rw [List.length_eraseIdx] at h1 h2;rw [List.getElem_eraseIdx,List.getElem_eraseIdx];split
 ·exact h.get j _ _
 ·exact h.get (j+1) _ _
theorem HS.Gw {wb w w1 w':World} {k:HK} {p:HP} {s:aq×aq} {L:List aB} {i:Nat} (h:HS wb w k p s L) (hO:Own w1 wb.heap.size 62 4 bp p.li.A (p.li.n-1) p.li.c (p.ls.eraseIdx i)) (hg:w.grownBy w1 (ob p.li))
 (hb:aJ w' k.b 27 (bm (k.h ⟨p.u0,p.u1,⟨p.li.A,p.li.n-1,p.li.c⟩,p.ls.eraseIdx i⟩))) (tH:w1.grownBy w' (some k.b)) : HS wb w' k ⟨p.u0,p.u1,⟨p.li.A,p.li.n-1,p.li.c⟩,p.ls.eraseIdx i⟩ s (L.eraseIdx i):=by
 have hG:=h.ls.yW hg;have B5:=(h.cU.ay hG rfl).gr tH;have hx:Ext wb w':=(aE h.base hg (Nat.le_refl _) h.ls.row.aM).own h.C0 tH
 refine ⟨hb,(h.zs.ay hG rfl).ay B5 rfl,(h.cj.ay hG rfl).ay B5 rfl,(h.live.ay hG rfl).ay B5 rfl,⟨hO.ay B5 rfl,(h.ls.each.erase i).mono fun _ _ hh=>(hh.ay hG rfl).ay B5 rfl⟩,zY h.sm ?_ (fun y hy=>⟨y,List.mem_of_mem_eraseIdx hy,rfl⟩),h.sf,h.C0,hx⟩;exact pb.2 ((pb.1 h.sm.sep).sublist (List.eraseIdx_sublist _ _))
set_option maxHeartbeats 1000000 in
theorem Bb (k:HK) (p:HP) (s:aq×aq) (L:List aB) (x:aB) (y:bL) (a:Int) (wb w0:World) (H:HS wb w0 k p s L) (hk:sy y x) (Jj:y.aw = .nil) (Jk:x.aw=[])
 (hs:rz L) (hn:(p.li.n+1)*48≤140737488355328) (CA:∀ l∈L,l.aw.length≤1000) :
 gL Tryz.prog 130 [.pointer (some ⟨k.b,0,none⟩),.agg (bp y).toArray,.int .i64 a] w0 fun v w' => ∃ p',HS wb w' k p' s (jx L ⟨x.dL,x.aq,x.Ty,dA L x++[a]⟩)∧kW w0 k p w' p':=by
 obtain ⟨F,hF⟩ : ∃ F:World→Prop,F=fun v=>dR v wb.heap.size k.g k.c p.u0 p.u1 s∧Own v wb.heap.size 3 1 bh k.m.A k.m.n k.m.c k.M∧Own v wb.heap.size 77 3 az k.lv.A k.lv.n k.lv.c k.V∧kW w0 k p v p:=⟨_,rfl⟩
 have hZ:=H.zs;have hM:=H.cj;have hV:=H.live;have hL:=H.ls;have hb:=H.cU
 have nU:E2 F w0:=by
  rw [hF];exact ⟨⟨hZ,hM,hV,kW.refl _ _ _⟩,fun v v' hx hP=>⟨hP.1.ext hx,hP.2.1.ext hx,hP.2.2.1.ext hx,hP.2.2.2.ext hx⟩⟩
 have Gh:∀ (v v':World) (row:Option Nat),v.grownBy v' row→(∀ i,row=some i→i=k.b∨aT p.li.A p.li.c=some i∨w0.heap.size≤i)→F v→F v':=fun v v' row hg Fh hP=>by
  rw [hF] at hP ⊢;refine ⟨hP.1.parts hg ((hZ.row.yq hL hb rfl rfl).ne Fh) ((hZ.z0.free.yq hL hb rfl rfl).ne Fh) ((hZ.z0.types.yq hL hb rfl rfl).ne Fh) ((hZ.z1.free.yq hL hb rfl rfl).ne Fh) ((hZ.z1.types.yq hL hb rfl rfl).ne Fh),hP.2.1.apart hg ((hM.yq hL hb rfl rfl).ne Fh),hP.2.2.1.apart hg ((hV.yq hL hb rfl rfl).ne Fh),hP.2.2.2.step hg (fun i e => ?_) (fun i e => .inl e)⟩;rcases Fh i e with h|h|h
  ·exact .inl (.inl h)
  ·exact .inl (.inr (.inr (.inl h)))
  ·exact .inr h
 have J8:∀ (i:Nat) (hi:i<p.ls.length) (v v':World),v.grownBy v' (aT p.ls[i].aw.A p.ls[i].aw.c)→F v→F v':=fun i hi v v' hg hP=>by
  rw [hF] at hP ⊢;have Js:=(hL.each.get i hi (by rw [← hL.each.len];exact hi)).cr;exact ⟨hP.1.parts hg (hZ.row.rA Js rfl) (hZ.z0.free.rA Js rfl) (fun j e e2=>H.sm.types i hi j e2 p.u0 (by simp) e) (hZ.z1.free.rA Js rfl) (fun j e e2=>H.sm.types i hi j e2 p.u1 (by simp) e),hP.2.1.apart hg (fun j e e2=>H.sm.cj i hi j e2 e),hP.2.2.1.apart hg (hV.rA Js rfl),hP.2.2.2.step hg (fun j e => .inl (.inr (.inr (.inr ⟨_,List.getElem_mem hi,e⟩)))) (fun i e => .inl e)⟩
 refine (Cz ⟨some ⟨k.g,0,none⟩,2,k.c⟩ k.m k.cp p.li k.lv L p.ls x y a F k.b wb w0 H.base H.C0 hb hL hk Jj Jk H.sm.sep hs hn CA nU Gh J8).mono fun v w' hv => ?_
 obtain ⟨hx,CL,DB,vo,jE,Bc,hP⟩:=hv;rw [hF] at CL;obtain ⟨BE,Nx,Bd,hK⟩:=CL
 have hold:∀ j (hj:j<vo.length) (g:Nat),aT vo[j].aw.A vo[j].aw.c=some g→(∃ i,∃ hi:i<p.ls.length,aT p.ls[i].aw.A p.ls[i].aw.c=some g)∨w0.heap.size≤g:=fun j hj g e=>by
  rcases hP.of _ (List.getElem_mem hj) g e with ⟨z,hz,e2⟩|h
  ·obtain ⟨i,hi,rfl⟩:=List.getElem_of_mem hz;exact .inl ⟨i,hi,e2⟩
  ·exact .inr h
 refine ⟨⟨p.u0,p.u1,DB,vo⟩,⟨jE,BE,Nx,Bd,Bc,⟨fun j hj g e => ?_,fun j hj g e v hv => ?_,hP.sep⟩,H.sf,H.C0,hx⟩,hK.step (World.grownBy.refl _ none) (fun i e=>by cases e) (fun i hi => ?_)⟩
 ·rcases hold j hj g e with ⟨i,hi,e2⟩|h
  ·exact H.sm.cj i hi g e2
  ·intro e2;have:=hM.lt_size g e2;omega
 ·rcases hold j hj g e with ⟨i,hi,e2⟩|h
  ·exact H.sm.types i hi g e2 v hv
  ·intro e2;simp only [List.mem_cons,List.not_mem_nil,or_false] at hv;rcases hv with rfl|rfl
   ·have:=hZ.z0.types.lt_size g e2;omega
   ·have:=hZ.z1.types.lt_size g e2;omega
 ·rcases hi with h|h|h|⟨z,hz,h⟩
  ·exact .inl (.inl h)
  ·exact .inl (.inr (.inl h))
  ·exact (hP.row i h).imp (fun e => .inr (.inr (.inl e))) id
  ·exact (hP.of z hz i h).imp (fun e => .inr (.inr (.inr e))) id
open Go.RowKit
section
variable {P:Program} {L:Env} {w:World} {d:Option Nat} {T:TypeId} {pos:String} {af:Array Edge} {g:Option (Nat×Bool)}
theorem Ey {t ty:TypeId} {x y:Operand} {i j:Int} (a b:Nat) (hx:ca L x=some (.int .i64 i)) (hy:ca L y=some (.int .i64 j)) (ha:i=(a:Int)) (hb:j=(b:Int)) (ie:a<9223372036854775808) (jE:b<9223372036854775808) :
 St P ⟨d,.binOp .and t x y ty,T,pos,af,g⟩ L w (.int .i64 ((a &&& b:Nat) : Int)) :=
 ⟨fun n A hA w' _=>by
  have e1:=hA.eval hx;have e2:=hA.eval hy;subst ha hb;generalize A.eval = ρ at *
  have c9:a &&& b<2 ^ 63:=Nat.and_lt_two_pow _ (by omega)
  have e:(BitVec.ofInt 64 (a:Int) &&& BitVec.ofInt 64 (b:Int)).toNat=a &&& b:=by
   rw [BitVec.toNat_and,BitVec.ofInt_natCast,BitVec.ofInt_natCast,BitVec.toNat_ofNat,BitVec.toNat_ofNat,Nat.mod_eq_of_lt (by omega),Nat.mod_eq_of_lt (by omega)]
  have aA:(Op.intBits .and .i64 (a:Int) (b:Int)).run P w' = .ok (.int .i64 ((a &&& b:Nat) : Int)) w':=by
   have:Op.intBits .and .i64 (a:Int) (b:Int)=(pure (.int .i64 (IntKind.i64.wrap ((BitVec.ofInt 64 (a:Int) &&& BitVec.ofInt 64 (b:Int)).toNat:Nat))) : Sem Value):=rfl
   rw [this,e,ir (by omega) (by omega)]
   rfl
  have aK:(binOp .and t (.int .i64 (a:Int)) (.int .i64 (b:Int))).run P w' = .ok (.int .i64 ((a &&& b:Nat) : Int)) w':=by
   have:binOp .and t (.int .i64 (a:Int)) (.int .i64 (b:Int))=Op.intBits .and .i64 (a:Int) (b:Int):=by simp [binOp]
   rw [this,aA]
  simp [execOp,e1,e2,eqGuard,aK]⟩
end
open Go.RowKit
def uT (f j:Int) : Int:=((f.toNat &&& j.toNat:Nat) : Int)
theorem Be:∀ f:Nat,f<16→(f &&& 1=f % 2)∧(f &&& 2=f / 2 % 2*2)∧(f &&& 4=f / 4 % 2*4)∧(f &&& 8=f / 8*8):=by decide
theorem nz {f:Int} (h : 0≤f∧f≤15) : uT f 1=f % 2∧uT f 2=f / 2 % 2*2∧uT f 4=f / 4 % 2*4∧uT f 8=f / 8*8:=by
 obtain ⟨n,rfl⟩ : ∃ n:Nat,f=n:=⟨f.toNat,by omega⟩;obtain ⟨h1,h2,h3,h4⟩:=Be n (by omega);unfold uT;simp only [Int.toNat_natCast,show (1:Int).toNat=1 from rfl,show (2:Int).toNat=2 from rfl,show (4:Int).toNat=4 from rfl,show (8:Int).toNat=8 from rfl,h1,h2,h3,h4];omega
theorem rF {P:Program} {L:Env} {w:World} {d:Option Nat} {T t ty:TypeId} {pos:String} {af:Array Edge} {g:Option (Nat×Bool)} {x y:Operand} {f j:Int} (hx:ca L x=some (.int .i64 f)) (hy:ca L y=some (.int .i64 j)) (hf : 0≤f∧f≤15) (hj : 0≤j∧j≤15) :
 St P ⟨d,.binOp .and t x y ty,T,pos,af,g⟩ L w (.int .i64 (uT f j)):=Ey f.toNat j.toNat hx hy (by omega) (by omega) (by omega) (by omega)
theorem yX (f:Int) (w:World) : bt Tryz.prog 102 [.int .i64 f] w fun v _=>v = .tuple #[.int .i64 (if 0≤dH f then dH f else 0),.bool (decide (0≤dH f))]:=by
 refine aL Tryz.func102 rfl Tryz.ntmps102 rfl ?_;have hw:=Ext.refl w;by_cases hf : 0≤f∧f≤15
 ·obtain ⟨q1,q2,q4,q8⟩:=nz hf;obtain ⟨t,ht⟩ : ∃ t,dH f=t:=⟨_,rfl⟩
  have hc:(f / 2 % 4=0∧t=0)∨(f / 2 % 4=1∧t=1)∨(f / 2 % 4=2∧t=2)∨(f / 2 % 4=3∧t = -1):=by
   unfold dH at ht;rw [if_pos hf] at ht;split at ht
   ·omega
   ·split at ht
    ·omega
    ·split at ht
     ·omega
     ·omega
  rw [ht];rcases hc with ⟨h1,rfl⟩|⟨h1,rfl⟩|⟨h1,rfl⟩|⟨h1,rfl⟩
  all_goals
   repeat' (first|refine Wz ?_|(refine SW.st (rF rfl rfl (by omega) (by decide)) rfl ?_))
   all_goals try omega
   all_goals exact ae.cu rfl rfl rfl ⟨_,rfl,hw,rfl⟩
 ·have e:dH f = -1:=by unfold dH;rw [if_neg hf]
  rw [e];repeat' (first|refine Wz ?_|refine SW.cb rfl rfl rfl (fun h => ?_) (fun h => ?_))
  all_goals try omega
  all_goals exact ae.cu rfl rfl rfl ⟨_,rfl,hw,rfl⟩
theorem uc (f:Int) (w:World) : bt Tryz.prog 54 [.int .i64 f] w fun v _=>v = .int .i64 (dH f):=by
 refine aL Tryz.func54 rfl Tryz.ntmps54 rfl ?_;have hw:=Ext.refl w;by_cases hf : 0≤f∧f≤15
 ·obtain ⟨t,ht⟩ : ∃ t,dH f=t:=⟨_,rfl⟩
  have hc:(f / 2 % 4=0∧t=0)∨(f / 2 % 4=1∧t=1)∨(f / 2 % 4=2∧t=2)∨(f / 2 % 4=3∧t = -1):=by
   unfold dH at ht;rw [if_pos hf] at ht;split at ht
   ·omega
   ·split at ht
    ·omega
    ·split at ht
     ·omega
     ·omega
  rw [ht];have Kx:(f / 2).tmod 4=f / 2 % 4:=Int.tmod_eq_emod_of_nonneg (by omega)
  rcases hc with ⟨h1,rfl⟩|⟨h1,rfl⟩|⟨h1,rfl⟩|⟨h1,rfl⟩
  all_goals
   repeat' (first|refine Wz ?_|(refine SW.call rfl rfl (bM _ _ _ _) ?_;intro v w1 ab hv;subst hv;replace hw:=Ext.trans hw ab;clear ab))
   all_goals try omega
   all_goals exact ae.aN rfl rfl ⟨_,rfl,hw,rfl⟩
 ·have e:dH f = -1:=by unfold dH;rw [if_neg hf]
  rw [e];repeat' (first|refine Wz ?_|(refine SW.call rfl rfl (bM _ _ _ _) ?_;intro v w1 ab hv;subst hv;replace hw:=Ext.trans hw ab;clear ab))
  all_goals try omega
  all_goals exact ae.aN rfl rfl ⟨_,rfl,hw,rfl⟩
structure nV (M:List Int) (m0 m1:Int) : Prop where
 eq:M=[m0,m1]
 b0 : 0≤m0∧m0≤256
 b1 : 0≤m1∧m1≤256
theorem Gx.C1 (r:ez) (u0 u1:cq) (s:aq×aq) (M:List Int) (m0 m1:Int) (zi:Nat) (f:Int) (w:World) (hm:Sl w 1 bh r.bH.A r.bH.n M) (hz:Sl w 4 bo r.aQ.A r.aQ.n [u0,u1]) (hM:nV M m0 m1) (h1:u1.aW=s.2.aW) (h2:u1.To=s.2.To) (hF : 0≤s.2.aW∧s.2.aW≤256) (hT:s.2.aW≤s.2.To∧s.2.To≤256) (iM:zi<2) (hf : 0≤f∧f≤15) :
 bt Tryz.prog 132 [.agg (bm r).toArray,.int .i64 (zi:Int),.int .i64 f] w fun v _=>v = .int .i64 (na m0 m1 s zi f):=by
 refine aL Tryz.func132 rfl Tryz.ntmps132 rfl ?_;refine CW.seq (CW.region (SW.box rfl rfl fun b1 w1 hw gK aA => ?_));obtain ⟨rfl,E1,pd⟩:=hM;obtain ⟨q1,q2,q4,q8⟩:=nz hf;have hA:=hz.base;have hB:=hm.base;have hn : 2=r.aQ.n:=hz.len
 have E8 : 2=r.bH.n:=hm.len
 have k0 : 1<r.aQ.n:=by omega
 have k1:zi<r.bH.n:=by omega
 have f0:=hz.dv k0 (j:=0) (u := .int .i64 u1.aW) rfl;have f1:=hz.dv k0 (j:=1) (u := .int .i64 u1.To) rfl;obtain ⟨mz,Ez⟩ : ∃ mz,(if (zi:Int)=0 then m0 else m1)=mz:=⟨_,rfl⟩
 have Ky : [m0,m1][zi]'(by simpa using iM)=mz:=by
  rcases Nat.lt_or_ge zi 1 with h|h
  ·obtain rfl:zi=0:=by omega
   rw [← Ez];rfl
  ·obtain rfl:zi=1:=by omega
   rw [← Ez];rfl
 have fm:=hm.one k1 (congrArg bh Ky);have Ny : 0≤mz∧mz≤256:=by rw [← Ez];split<;>omega
 obtain ⟨v,hv⟩ : ∃ v,na m0 m1 s zi f=v:=⟨_,rfl⟩;have AV:=hv;unfold na at AV;rw [Ez] at AV;rw [hv];have Kx:f.tmod 2=f % 2:=Int.tmod_eq_emod_of_nonneg (by omega)
 have hc:(8≤f∨f<8)∧((zi=0∧f % 2=0)∨(zi=0∧f % 2=1)∨zi=1):=by omega
 obtain ⟨sh,EA⟩:=hc;rcases sh with sh|sh<;>rcases EA with ⟨EA,Kz⟩|⟨EA,Kz⟩|EA
 all_goals
  repeat' (first|refine Wz ?_|((apply CW.aO mixed;(· kernel_rfl);rotate_left;intro w1 ab;replace hw:=Ext.trans hw ab;replace aA:=aA.ext ab;clear ab;rotate_right))|refine SW.st (ao hw rfl f0) rfl ?_|refine SW.st (ao hw rfl f1) rfl ?_|refine SW.st (ao hw rfl fm) rfl ?_|(refine SW.st (rF rfl rfl (by omega) (by decide)) rfl ?_)|exact SW.bx rfl)
  all_goals try omega
  refine ae.aN rfl rfl ⟨_,rfl,hw,?_⟩;congr 1
  omega
theorem xy.vT (r:ez) (u0 u1:cq) (s:aq×aq) (M:List Int) (m0 m1:Int) (zi:Nat) (f:Int) (w:World) (hm:Sl w 1 bh r.bH.A r.bH.n M) (hz:Sl w 4 bo r.aQ.A r.aQ.n [u0,u1]) (hM:nV M m0 m1) (h1:u1.aW=s.2.aW) (h2:u1.To=s.2.To) (hF : 0≤s.2.aW∧s.2.aW≤256) (hT:s.2.aW≤s.2.To∧s.2.To≤256) (iM:zi<2) (hf : 0≤f∧f≤15) :
 bt Tryz.prog 117 [.agg (bm r).toArray,.int .i64 (zi:Int),.int .i64 f] w fun v _=>v = .int .i64 (na m0 m1 s zi f):=by
 refine aL Tryz.func117 rfl Tryz.ntmps117 rfl ?_;refine CW.seq (CW.region (SW.box rfl rfl fun b1 w1 hw gK aA => ?_));obtain ⟨rfl,E1,pd⟩:=hM;obtain ⟨q1,q2,q4,q8⟩:=nz hf;have hA:=hz.base;have hB:=hm.base;have hn : 2=r.aQ.n:=hz.len
 have E8 : 2=r.bH.n:=hm.len
 have k0 : 1<r.aQ.n:=by omega
 have k1:zi<r.bH.n:=by omega
 have f0:=hz.dv k0 (j:=0) (u := .int .i64 u1.aW) rfl;have f1:=hz.dv k0 (j:=1) (u := .int .i64 u1.To) rfl;obtain ⟨mz,Ez⟩ : ∃ mz,(if (zi:Int)=0 then m0 else m1)=mz:=⟨_,rfl⟩
 have Ky : [m0,m1][zi]'(by simpa using iM)=mz:=by
  rcases Nat.lt_or_ge zi 1 with h|h
  ·obtain rfl:zi=0:=by omega
   rw [← Ez];rfl
  ·obtain rfl:zi=1:=by omega
   rw [← Ez];rfl
 have fm:=hm.one k1 (congrArg bh Ky);have Ny : 0≤mz∧mz≤256:=by rw [← Ez];split<;>omega
 obtain ⟨v,hv⟩ : ∃ v,na m0 m1 s zi f=v:=⟨_,rfl⟩;have AV:=hv;unfold na at AV;rw [Ez] at AV;rw [hv];have Kx:f.tmod 2=f % 2:=Int.tmod_eq_emod_of_nonneg (by omega)
 have hc:(8≤f∨f<8)∧((zi=0∧f % 2=0)∨(zi=0∧f % 2=1)∨zi=1):=by omega
 obtain ⟨sh,EA⟩:=hc;rcases sh with sh|sh<;>rcases EA with ⟨EA,Kz⟩|⟨EA,Kz⟩|EA
 all_goals
  repeat' (first|refine Wz ?_|((apply CW.aO mixed;(· kernel_rfl);rotate_left;intro w1 ab;replace hw:=Ext.trans hw ab;replace aA:=aA.ext ab;clear ab;rotate_right))|refine SW.st (ao hw rfl f0) rfl ?_|refine SW.st (ao hw rfl f1) rfl ?_|refine SW.st (ao hw rfl fm) rfl ?_|exact SW.bx rfl)
  all_goals try omega
  refine ae.aN rfl rfl ⟨_,rfl,hw,?_⟩;congr 1
  omega
end Go.Proofs.YtjimadiidbkohaaGreatDoor
