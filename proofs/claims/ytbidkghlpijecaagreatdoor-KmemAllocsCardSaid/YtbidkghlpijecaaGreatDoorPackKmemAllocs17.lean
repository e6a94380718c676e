/-
  Texts of the claim KmemAllocs, part 17: what its theorem leans on.
-/
import Derived.Test.YtbidkghlpijecaaGreatDoorPackKmemAllocs3
import Derived.Test.YtbidkghlpijecaaGreatDoorPackKmemAllocs2
import Derived.Test.YtbidkghlpijecaaGreatDoorPackKmemAllocs16
import Derived.Test.YtbidkghlpijecaaGreatDoorPackKmemAllocs5
import Derived.Test.YtbidkghlpijecaaGreatDoorPackKmemAllocs8
import Derived.Test.YtbidkghlpijecaaGreatDoorPackKmemAllocs11
import Derived.Test.YtbidkghlpijecaaGreatDoorPackKmemAllocs12
import Derived.Test.YtbidkghlpijecaaGreatDoorPackKmemAllocs7
import Derived.Test.YtbidkghlpijecaaGreatDoorPackKmemAllocs15
set_option linter.unusedVariables false
set_option linter.unusedSimpArgs false
namespace Go.Proofs.YtbidkghlpijecaaGreatDoor
open Go.RowKit
def kq (a s m:Nat) (l:List Int) : Nat→List Int
 | 0=>l
 | k+1=>(kq a s m l k).set (a+k*s) (if k+1<m then (a:Int)+((k:Int)+1)*s else -1)
def oL (a s:Nat) (l:List Int) : Nat→List Int
 | 0=>l
 | k+1=>(oL a s l k).set (a+s*k) ((a:Int)+((k:Int)+1)*s)
theorem vk (a s m:Nat) (l:List Int) : ∀ k,k<m→kq a s m l k=oL a s l k
 | 0,_=>rfl
 | k+1,h=>by simp only [kq,oL];rw [vk a s m l k (by omega),if_pos h,Nat.mul_comm k s]
theorem xX (a s m:Nat) (l:List Int) : kq a s (m+1) l (m+1)=(oL a s l (m+1)).set (a+m*s) (-1):=by
 simp only [kq,oL];rw [vk a s (m+1) l m (by omega),if_neg (by omega),Nat.mul_comm m s,List.set_set]
def ia (lo n:Nat) (l:List Int) (x s m:Int) (v:Value) (w:World) : Prop :=
 if 1≤s∧s≤64∧1≤m∧m≤n∧0≤x∧x+s*m≤n then ∃ A c,v = .tuple #[.slice A n c,.int .i64 0]∧Own w lo 3 1 bd A n c (kq x.toNat s.toNat m.toNat l m.toNat)
 else v = .tuple #[.slice none 0 0,.int .i64 1]
theorem tH {s m n:Nat} (hs:s≤64) (hm:m≤n) : 0≤(s:Int)*m∧(s:Int)*m≤64*n:=by
 have h:s*m≤64*n:=Nat.mul_le_mul hs hm
 exact ⟨by omega,by omega⟩
theorem mg {s m k:Nat} (hk:k<m) : 0≤(k:Int)*s∧((k:Int)+1)*s=(k:Int)*s+s∧(k:Int)*s+s≤(s:Int)*m∧(s:Int)*k=(k:Int)*s:=by
 have h:(k+1)*s≤m*s:=Nat.mul_le_mul_right _ hk
 have e:((k:Int)+1)*s=(k:Int)*s+s:=by rw [Int.add_mul,Int.one_mul]
 have e2:(s:Int)*m=(m:Int)*s:=Int.mul_comm _ _
 rw [Nat.add_mul,Nat.one_mul] at h;refine ⟨by omega,e,by rw [e2];omega,Int.mul_comm _ _⟩
theorem nK (A:Option Addr) (n c:Nat) (l:List Int) (x s m:Int) (w:World) (hl:Sl w 1 bd A n l) (hn:n*8≤140737488355328) :
 bo Tryz.prog 262 [.slice A n c,.int .i64 x,.int .i64 s,.int .i64 m] w (ia w.heap.size n l x s m):=by
 refine aI Tryz.func262 rfl Tryz.ntmps262 rfl ?_;have hw:=Ext.refl w;have lO:n≤2305843009213693952:=by omega
 by_cases h1 : 1≤s∧s≤64
 ·by_cases h2 : 1≤m∧m≤n
  ·obtain ⟨s,rfl⟩:=Int.eq_ofNat_of_zero_le (a:=s) (by omega);obtain ⟨m,rfl⟩:=Int.eq_ofNat_of_zero_le (a:=m) (by omega);have hb:=tH (s:=s) (m:=m) (n:=n) (by omega) (by omega);by_cases h3 : 0≤x∧x+(s:Int)*m≤n
   ·obtain ⟨a,rfl⟩:=Int.eq_ofNat_of_zero_le h3.1;repeat' (first|refine Wz ?_|(refine SW.call rfl rfl (sq _ _ _ _ _ _ lO) ?_;intro v w1 ab hv;subst hv;replace hw:=Ext.trans hw ab;clear ab))
    refine SW.call rfl rfl (eu _ _ _ _ _ (hl.ext hw) hn) fun v w1 ab hv => ?_
    obtain ⟨A1,c1,rfl,hO⟩:=hv;have fy:=hw.size;replace hw:=Ext.trans hw ab;replace hO:=Own.low hO fy;have rX:=hO.sl.base;refine Wz ?_
    refine CW.loop (fun k:Nat=>[(0,.slice A n c),(1,.int .i64 (a:Int)),(2,.int .i64 (s:Int)),(3,.int .i64 (m:Int)),(10,.slice A1 n c1),(40,.int .i64 (m:Int)),(41,.int .i64 (k:Int))])
     (fun k w'=>k≤m∧Ext w w'∧Own w' w.heap.size 3 1 bd A1 n c1 (kq a s m l k)) (fun k=>m-k) 0 ⟨rfl,rfl,rfl,rfl,rfl,rfl,rfl,trivial⟩ ⟨by omega,hw,hO⟩ ?_
    clear hw hO;rintro k w' ⟨hk,hw,hO⟩
    by_cases J7:k<m
    ·have hr:=mg (s:=s) J7;have hp:a+k*s<n:=by omega
     by_cases rb:k+1<m
     all_goals
      refine Wz ?_;refine SW.j4 (a+k*s) hO rfl rfl hp fun w2 gB hg => ?_
      replace hw:=aF hw hg (Nat.le_refl _) hO.aM;refine Wz ?_;refine ae.again (k+1) ⟨rfl,rfl,rfl,rfl,rfl,rfl,rfl,trivial⟩ (by omega) ⟨by omega,hw,?_⟩;simp only [kq]
     ·rw [if_pos rb];exact gB
     ·rw [if_neg rb];exact gB
    ·refine Wz ?_;obtain rfl:k=m:=by omega
     refine ae.cx rfl rfl rfl ⟨_,rfl,hw,?_⟩;unfold ia;rw [if_pos (by omega)];exact ⟨A1,c1,rfl,hO⟩
   ·repeat' (first|refine Wz ?_|(refine SW.call rfl rfl (sq _ _ _ _ _ _ lO) ?_;intro v w1 ab hv;subst hv;replace hw:=Ext.trans hw ab;clear ab))
    all_goals refine ae.cx rfl rfl rfl ⟨_,rfl,hw,?_⟩
    all_goals unfold ia
    all_goals rw [if_neg (by omega)]
  ·repeat' (first|refine Wz ?_|refine SW.cV rfl rfl rfl (fun h => ?_) (fun h => ?_))
   all_goals refine ae.cx rfl rfl rfl ⟨_,rfl,hw,?_⟩
   all_goals unfold ia
   all_goals rw [if_neg (by omega)]
 ·repeat' (first|refine Wz ?_|refine SW.cV rfl rfl rfl (fun h => ?_) (fun h => ?_))
  all_goals refine ae.cx rfl rfl rfl ⟨_,rfl,hw,?_⟩
  all_goals unfold ia
  all_goals rw [if_neg (by omega)]
theorem xY (A:Option Addr) (n c:Nat) (l:List Int) (x s m:Int) (w:World) (hl:Sl w 1 bd A n l) (hn:n*8≤140737488355328) :
 bo Tryz.prog 217 [.slice A n c,.int .i64 x,.int .i64 s,.int .i64 m] w (ia w.heap.size n l x s m):=by
 refine aI Tryz.func217 rfl Tryz.ntmps217 rfl ?_;have hw:=Ext.refl w;have lO:n≤2305843009213693952:=by omega
 by_cases h1 : 1≤s∧s≤64
 ·by_cases h2 : 1≤m∧m≤n
  ·obtain ⟨s,rfl⟩:=Int.eq_ofNat_of_zero_le (a:=s) (by omega);obtain ⟨m,rfl⟩:=Int.eq_ofNat_of_zero_le (a:=m) (by omega);have hb:=tH (s:=s) (m:=m) (n:=n) (by omega) (by omega);by_cases h3 : 0≤x∧x+(s:Int)*m≤n
   ·obtain ⟨a,rfl⟩:=Int.eq_ofNat_of_zero_le h3.1;obtain ⟨m,rfl⟩ : ∃ m',m=m'+1:=⟨m-1,by omega⟩;repeat' (first|refine Wz ?_|((first|refine SW.call rfl rfl (bP _ _ _ _) ?_|refine SW.call rfl rfl (lj _ _ _ _ _ _ lO) ?_);intro v w1 ab hv;subst hv;replace hw:=Ext.trans hw ab;clear ab))
    refine SW.call rfl rfl (gf _ _ _ _ _ (hl.ext hw) hn) fun v w1 ab hv => ?_
    obtain ⟨A1,c1,rfl,hO⟩:=hv;have fy:=hw.size;replace hw:=Ext.trans hw ab;replace hO:=Own.low hO fy;have rX:=hO.sl.base;refine Wz ?_
    refine CW.loop (fun k:Nat=>[(0,.slice A n c),(1,.int .i64 (a:Int)),(2,.int .i64 (s:Int)),(3,.int .i64 ((m+1:Nat) : Int)),(10,.slice A1 n c1),(11,.int .i64 (k:Int))])
     (fun k w'=>k≤m+1∧Ext w w'∧Own w' w.heap.size 3 1 bd A1 n c1 (oL a s l k)) (fun k=>m+1-k) 0 ⟨rfl,rfl,rfl,rfl,rfl,rfl,trivial⟩ ⟨by omega,hw,hO⟩ ?_
    clear hw hO;rintro k w' ⟨hk,hw,hO⟩
    by_cases J7:k<m+1
    ·have hr:=mg (s:=s) J7;have hp:a+s*k<n:=by have:=Nat.mul_comm k s;omega
     refine Wz ?_;refine SW.j4 (a+s*k) hO rfl rfl hp fun w2 gB hg => ?_
     replace hw:=aF hw hg (Nat.le_refl _) hO.aM;refine Wz ?_;refine ae.again (k+1) ⟨rfl,rfl,rfl,rfl,rfl,rfl,trivial⟩ (by omega) ⟨by omega,hw,?_⟩;simp only [oL];have e:(a:Int)+((k:Int)+1)*s=(a:Int)+(s:Int)*k+s:=by omega
     rw [e];exact gB
    ·obtain rfl:k=m+1:=by omega
     have hr:=mg (s:=s) (m:=m+1) (k:=m) (by omega);have e1:(s:Int)*((m+1:Nat) : Int)=(m:Int)*s+s:=by rw [Int.mul_comm];push_cast;omega
     have hp:a+m*s<n:=by omega
     repeat' (first|refine Wz ?_|refine SW.st (bc (a+m*s) rfl rfl (by assumption) (by omega) (by omega)) rfl ?_)
     refine SW.j4 (a+m*s) hO rfl rfl hp fun w2 gB hg => ?_
     replace hw:=aF hw hg (Nat.le_refl _) hO.aM;refine Wz ?_;refine ae.cx rfl rfl rfl ⟨_,rfl,hw,?_⟩;unfold ia;rw [if_pos (by omega)];refine ⟨A1,c1,rfl,?_⟩;simp only [Int.toNat_natCast];rw [xX];exact gB
   ·repeat' (first|refine Wz ?_|((first|refine SW.call rfl rfl (bP _ _ _ _) ?_|refine SW.call rfl rfl (lj _ _ _ _ _ _ lO) ?_);intro v w1 ab hv;subst hv;replace hw:=Ext.trans hw ab;clear ab))
    all_goals refine ae.cx rfl rfl rfl ⟨_,rfl,hw,?_⟩
    all_goals unfold ia
    all_goals rw [if_neg (by omega)]
  ·repeat' (first|refine Wz ?_|(refine SW.call rfl rfl (bP _ _ _ _) ?_;intro v w1 ab hv;subst hv;replace hw:=Ext.trans hw ab;clear ab))
   all_goals refine ae.cx rfl rfl rfl ⟨_,rfl,hw,?_⟩
   all_goals unfold ia
   all_goals rw [if_neg (by omega)]
 ·repeat' (first|refine Wz ?_|(refine SW.call rfl rfl (bP _ _ _ _) ?_;intro v w1 ab hv;subst hv;replace hw:=Ext.trans hw ab;clear ab))
  all_goals refine ae.cx rfl rfl rfl ⟨_,rfl,hw,?_⟩
  all_goals unfold ia
  all_goals rw [if_neg (by omega)]
open Go.RowKit
inductive jb (ws:List Int) (size ji t:Int) : Int→Nat→Prop where
 | zero (x:Int) : jb ws size ji t x 0
 | succ {k n:Nat} (hk:k<ws.length) (ho:mI size ji t k=true) (h:jb ws size ji t ws[k] n) : jb ws size ji t k (n+1)
theorem jb.BL {ws:List Int} {most size ji t x:Int} {acc:List Int} {r:Option (List Int)} (h:dN ws most x acc r) : ∀ out,r=some out→(∀ a∈out,mI size ji t a=true)→jb ws size ji t x (out.length-acc.length):=by
 induction h with
 | done out =>
   intro o e _;cases e
   rw [Nat.sub_self];exact .zero _
 | bad=>intro o e;cases e
 | @step k acc r h1 hk h3 h ih =>
   intro o e ho;have h2:=ih o e ho
   have hm:∀ {x':Int} {Fe:List Int} {r':Option (List Int)},dN ws most x' Fe r' → ∀ o',r'=some o'→(∀ a∈Fe,a∈o')∧Fe.length≤o'.length:=by
    intro x' Fe r' hf;induction hf with
    | done out=>intro o' e';cases e';exact ⟨fun a h=>h,Nat.le_refl _⟩
    | bad=>intro o' e';cases e'
    | step _ _ _ _ J5 =>
      intro o' e';obtain ⟨a1,a2⟩:=J5 o' e';rw [List.length_append] at a2;exact ⟨fun a h=>a1 a (List.mem_append_left _ h),by omega⟩
   obtain ⟨a1,a2⟩:=hm h o e;rw [List.length_append,List.length_singleton] at a2 h2;have e2:o.length-acc.length=(o.length-(acc.length+1))+1:=by omega
   rw [e2];exact .succ hk (ho _ (a1 _ (by simp))) h2
theorem jb.Ff {ws:List Int} {size ji:Int} {x:Slab} {out:List Int} (h:pA ws size ji x out) : jb ws size ji x.At x.fT x.ag.toNat:=by
 have h1:=jb.BL (t:=x.At) h.1 out rfl h.2.2;have h2:=h.2.1;have e:out.length-([] : List Int).length=x.ag.toNat:=by simp;omega
 rw [e] at h1;exact h1
theorem jb.head {ws:List Int} {size ji t x:Int} {n:Nat} (h:jb ws size ji t x (n+1)) : (0≤x∧x<(ws.length:Int))∧jb ws size ji t (ws.getD x.toNat 0) n:=by
 cases h with
 | @succ k n hk ho h =>
   refine ⟨by omega,?_⟩;have e:ws.getD ((k:Int)).toNat 0=ws[k]:=by simp [hk]
   rw [e];exact h
theorem oM (a s m:Nat) (l:List Int) : ∀ k,(kq a s m l k).length=l.length
 | 0=>rfl
 | k+1=>by simp only [kq,List.length_set];exact oM a s m l k
structure Ow (ws:List Int) (lv:List Block) (c:bf) (x:Slab) : Prop where
 at_ : 0≤x.At∧x.At≤255
 al:x.At % pw c.Order=0
 live:∃ b∈lv,b.At=x.At
 free : 0≤x.ag∧x.ag≤64
 walk:jb ws c.bg c.cm x.At x.fT x.ag.toNat
structure nX (s:aE) (c:bf) : Prop where
 words:s.Words.length=4096
 most:s.aa.length≤20
 lay:dZ c.bg=(c.Order,c.cm,0)
 Bl:∀ (k:Nat) (h:k<c.au.length),c.au[k] = -1∨c.ai.any (Au c.au[k])=true
 next:c.ai.Pairwise fun x y=>x.At<y.At
 zD:∀ x∈c.ai,Ow s.Words s.Heap.Live c x
theorem nX.of {s:aE} (hM:j1 s) {i:Nat} (hi:i<s.aa.length) : nX s s.aa[i]:=by
 have hc:=(hM.each i hi).may;have hl:=iZ hc.lay;refine ⟨hM.words,hM.most,hc.lay,fun k h => ?_,?_,fun x hx => ?_⟩
 ·rcases hc.Bl k h with g|⟨_,g⟩
  ·exact .inl g
  ·exact .inr g
 ·rw [List.pairwise_iff_getElem]
  have key:∀ (a b:Nat) (ha:a<s.aa[i].ai.length) (hb:b<s.aa[i].ai.length),a<b→s.aa[i].ai[a].At<s.aa[i].ai[b].At:=by
   intro a b;induction b with
   | zero=>intro _ _ h;omega
   | succ b ih =>
     intro ha hb h;have h2:=(hc.aS (b+1) hb).next (by omega);simp only [Nat.add_sub_cancel] at h2;by_cases e:a=b
     ·subst e;exact h2
     ·have:=ih ha (by omega) (by omega);omega
  exact key
 ·obtain ⟨k,hk,rfl⟩:=List.getElem_of_mem hx;have hs:=hc.aS k hk;obtain ⟨out,h⟩:=hs.chain;obtain ⟨hf,h3⟩:=hs.at_ hM.heap hl.2.1.1;obtain ⟨oR,e⟩:=py hf;obtain ⟨g1,g2,g3,_⟩:=hM.heap.live.each _ oR;have F2:=hs.live;rw [za hf oR] at F2;rw [e,F2] at g3;have h4:=h.1.Jl (by simp;omega) out rfl;have h5:=h.2.1;exact ⟨h3,g3,⟨_,List.getElem_mem oR,e⟩,by omega,.Ff h⟩
open Go.RowKit
def jN (c:bf) (x:Slab) : Bool:=decide (0<x.ag) && !decide (x.At∈c.au)
def uD (c:bf) (cpu:Nat) : Int:=idxOf (Au (c.au.getD cpu 0)) c.ai
def fj (c:bf) (k:Nat) : Slab:=c.ai.getD k ⟨0,0,0⟩
theorem gb {c:bf} {k:Nat} (h:k<c.ai.length) : fj c k=c.ai[k]:=by simp [fj,h]
def fM (c:bf) (cpu:Nat) : Int:=if 0≤uD c cpu∧0<(fj c (uD c cpu).toNat).ag then uD c cpu else idxOf (jN c) c.ai
def kr (c:bf) (cpu k:Nat) (v:Int) : bf:=⟨c.Names,c.bg,c.cm,c.Order,c.ai.set k ⟨(fj c k).At,(fj c k).ag-1,v⟩,c.au.set cpu (fj c k).At⟩
def lI (c:bf) (a:Int) : Nat:=(c.ai.takeWhile fun x=>decide (x.At<a)).length
theorem mh (c:bf) (a:Int) : lI c a≤c.ai.length:=(List.takeWhile_sublist _).length_le
def eI (c:bf) (a:Int) : bf:=⟨c.Names,c.bg,c.cm,c.Order,aV c.ai (lI c a) ⟨a,c.cm,16*a⟩,c.au⟩
def iI (s:aE) (l:List Int) : aE:=⟨l,s.Heap,s.aa⟩
def gj (n:Nat) (x s m:Int) : Prop:=1≤s∧s≤64∧1≤m∧m≤n∧0≤x∧x+s*m≤n
def jc (l:List Int) (x s m:Int) : List Int:=kq x.toNat s.toNat m.toNat l m.toNat
structure Es where
 ws:List Int
 h:Heap
 c:bf
 k:Nat
inductive kz (s:aE) (c:bf) (cpu:Nat) : Option Es×Int→Prop where
 | DE {k:Nat} (h:fM c cpu=k) : kz s c cpu (some ⟨s.Words,s.Heap,c,k⟩,0)
 | room {u:Heap×Int×Int} (h:fM c cpu<0) (ha:di s.Heap (cpu:Int) c.Order 0 u) (he:u.2.2≠0) : kz s c cpu (none,u.2.2)
 | chain {u:Heap×Int×Int} (h:fM c cpu<0) (ha:di s.Heap (cpu:Int) c.Order 0 u) (he:u.2.2=0) (hc : ¬ gj s.Words.length (16*u.2.1) c.bg c.cm) : kz s c cpu (none,1)
 | new {u:Heap×Int×Int} (h:fM c cpu<0) (ha:di s.Heap (cpu:Int) c.Order 0 u) (he:u.2.2=0) (hc:gj s.Words.length (16*u.2.1) c.bg c.cm) : kz s c cpu (some ⟨jc s.Words (16*u.2.1) c.bg c.cm,u.1,eI c u.2.1,lI c u.2.1⟩,0)
theorem kz.jy {s:aE} {c:bf} {cpu:Nat} {u v:Option Es×Int} (x:kz s c cpu u) (y:kz s c cpu v) : u=v:=by
 cases x with
 | @DE k h=>cases y with
   | @DE j h' =>
     obtain rfl:k=j:=by omega
     rfl
   | room h'|chain h'|new h'=>omega
 | room h ha he=>cases y with
   | DE h'=>omega
   | room h' gh lM=>rw [ha.jy gh]
   | chain h' gh lM|new h' gh lM=>exact absurd (by rw [ha.jy gh];exact lM) he
 | chain h ha he hc=>cases y with
   | DE h'=>omega
   | room h' gh lM=>exact absurd (by rw [gh.jy ha];exact he) lM
   | chain h' gh lM kb=>rfl
   | new h' gh lM kb=>exact absurd (by rw [ha.jy gh];exact kb) hc
 | new h ha he hc=>cases y with
   | DE h'=>omega
   | room h' gh lM=>exact absurd (by rw [gh.jy ha];exact he) lM
   | chain h' gh lM kb=>exact absurd (by rw [gh.jy ha];exact hc) kb
   | new h' gh lM kb=>rw [ha.jy gh]
def ks (s:aE) (i cpu:Nat) : Option Es×Int→aE×Int×Int
 | (some m,_)=>(ct (iI s m.ws) i (m.h,kr m.c cpu m.k (m.ws.getD (fj m.c m.k).fT.toNat 0)),(fj m.c m.k).fT,0)
 | (none,e)=>(.zero,0,e)
theorem xZ {s:aE} {i cpu:Nat} {m:Option Es×Int} (hi:i<s.aa.length) (x:kz s s.aa[i] cpu m) (hf:s.kh) (hn:(s.aa[i].ai.length+1)*24≤140737488355328) : (ks s i cpu m).1.small:=by
 have hc:=hf.Lx hi;have hs:=hf.small;have h1:=hc.small;cases x with
 | room|chain=>exact aE.km
 | DE h =>
   refine ⟨hs.words,hs.heap,by simp only [ks,ct,iI,List.length_set];exact hs.dn,fun c kb => ?_⟩;rcases List.mem_or_eq_of_mem_set kb with kb|rfl
   ·exact hs.each c kb
   ·exact ⟨h1.names,by simp only [kr,List.length_set];exact h1.aS,by simp only [kr,List.length_set];exact h1.a8⟩
 | new h ha he Cj =>
   refine ⟨by simp only [ks,ct,iI,jc,oM];exact hs.words,ha.small hs.heap,by simp only [ks,ct,iI,List.length_set];exact hs.dn,fun c kb => ?_⟩;rcases List.mem_or_eq_of_mem_set kb with kb|rfl
   ·exact hs.each c kb
   ·refine ⟨h1.names,?_,by simp only [kr,eI,List.length_set];exact h1.a8⟩;simp only [kr,eI,List.length_set];rw [du _ (mh _ _)];exact hn
inductive mi (s:aE) (n:ByteArray) (cpu:Int) : aE×Int×Int→Prop where
 | ask (h:me s n cpu≠0) : mi s n cpu (.zero,0,me s n cpu)
 | Fg {i:Nat} {m:Option Es×Int} (h:me s n cpu=0) (e:idxOf (ja n) s.aa=i) (hi:i<s.aa.length) (hm:kz s s.aa[i] cpu.toNat m) : mi s n cpu (ks s i cpu.toNat m)
theorem mi.jy {s:aE} {n:ByteArray} {cpu:Int} {u v:aE×Int×Int} (x:mi s n cpu u) (y:mi s n cpu v) : u=v:=by
 cases x with
 | ask h=>cases y with
   | ask=>rfl
   | Fg h'=>exact absurd h' h
 | @Fg i _ h e hi hm=>cases y with
   | ask h'=>exact absurd h h'
   | @Fg j _ h' e' hj Ox =>
     obtain rfl:i=j:=by omega
     rw [hm.jy Ox]
theorem Fh {c:bf} {a:Int} {j:Nat} (h:j<lI c a) (hj:j<c.ai.length) : c.ai[j].At<a:=by
 unfold lI at h;have h1:(c.ai.takeWhile fun x=>decide (x.At<a))[j]=c.ai[j]:=List.IsPrefix.getElem (List.takeWhile_prefix _) h
 have:=List.all_takeWhile (p:=fun x:Slab=>decide (x.At<a)) (l:=c.ai)
 rw [List.all_eq_true] at this;have:=this _ (List.getElem_mem h)
 rw [h1] at this;exact of_decide_eq_true this
theorem F3 {α:Type} {p : α → Bool}:∀ (l:List α) (x : α),l[(l.takeWhile p).length]?=some x→p x=false
 | [],x,h=>by simp at h
 | a::r,x,h=>by
   rw [List.takeWhile_cons] at h;cases e:p a with
   | false =>
     rw [e] at h;simp at h;subst h;exact e
   | true =>
     rw [e] at h;simp at h;exact F3 r x h
theorem nL {c:bf} {a:Int} {k:Nat} (hk:k≤c.ai.length) (h1:∀ (j:Nat) (hj:j<c.ai.length),j<k→c.ai[j].At<a) (h2:∀ h:k<c.ai.length,¬ c.ai[k].At<a) : lI c a=k:=by
 rcases Nat.lt_trichotomy (lI c a) k with h|h|h
 ·exfalso;have h3:lI c a<c.ai.length:=by omega
  have h4:=F3 (p:=fun x:Slab=>decide (x.At<a)) c.ai c.ai[lI c a] (List.getElem?_eq_getElem h3);exact of_decide_eq_false h4 (h1 _ h3 h)
 ·exact h
 ·exact absurd (Fh h (by have:=mh c a;omega)) (h2 _)
theorem qD {s:aE} {c:bf} (hM:nX s c) : c.ai.length≤256:=by
 have hn:=hM.next;rw [List.pairwise_iff_getElem] at hn
 have key:∀ (k:Nat) (hk:k<c.ai.length),(k:Int)≤c.ai[k].At:=by
  intro k;induction k with
  | zero=>intro hk;have:=(hM.zD _ (List.getElem_mem hk)).at_;omega
  | succ k ih =>
    intro hk;have h1:=ih (by omega);have h2:=hn k (k+1) (by omega) hk (by omega);omega
 rcases Nat.lt_or_ge 256 c.ai.length with h|h
 ·have h1:=key 256 h;have h2:=(hM.zD _ (List.getElem_mem h)).at_;omega
 ·exact h
theorem vl {s:aE} {c:bf} (hM:nX s c) {cpu:Nat} (hc:cpu<c.au.length) :
 (c.au[cpu] = -1∧uD c cpu = -1)∨(0≤c.au[cpu] ∧ ∃ (k:Nat) (hk:k<c.ai.length),uD c cpu=k∧c.ai[k].At=c.au[cpu]):=by
 have ha:=hM.Bl cpu hc;have e:c.au.getD cpu 0=c.au[cpu]:=by simp [hc]
 unfold uD;rw [e];rcases ha with h|h
 ·left;refine ⟨h,(fq fun j hj => ?_).1⟩;rw [h];have:=(hM.zD _ (List.getElem_mem hj)).at_
  unfold Au;exact decide_eq_false (by omega)
 ·right;obtain ⟨k,hk,h1,_,h2⟩:=jT h;have h3:=of_decide_eq_true h1;have:=(hM.zD _ (List.getElem_mem hk)).at_
  exact ⟨by omega,k,hk,h2,h3⟩
theorem nX.first {s:aE} {c:bf} (hM:nX s c) {x:Slab} (hx:x∈c.ai) (hf : 0<x.ag) : (0≤x.fT∧x.fT<4096)∧jb s.Words c.bg c.cm x.At (s.Words.getD x.fT.toNat 0) (x.ag-1).toNat:=by
 have h:=(hM.zD x hx).walk;rw [show x.ag.toNat=(x.ag-1).toNat+1 by omega] at h;have h2:=h.head;rw [hM.words] at h2;exact h2
structure Jr (s:aE) (m:Es) : Prop where
 hk:m.k<m.c.ai.length
 len:m.ws.length=4096
 first : 0≤m.c.ai[m.k].fT∧m.c.ai[m.k].fT<4096
 free : 1≤m.c.ai[m.k].ag∧m.c.ai[m.k].ag≤64
theorem tI {α:Type} {l:List α} {p:Nat} {x : α} (hp:p≤l.length) (h:p<(aV l p x).length) : (aV l p x)[p]=x:=by
 have:=kd (x:=x) hp
 rw [List.getElem?_eq_getElem h] at this;exact Option.some.inj this
theorem wv {c:bf} {cpu k:Nat} (h:fM c cpu=k) : ∃ hk:k<c.ai.length,0<c.ai[k].ag:=by
 unfold fM at h;split at h
 ·rename_i h1;rw [h] at h1;have e:((k:Int)).toNat=k:=by omega
  rw [e] at h1
  have hk:k<c.ai.length:=by
   rcases Nat.lt_or_ge k c.ai.length with h2|h2
   ·exact h2
   ·have:fj c k=⟨0,0,0⟩:=by simp [fj,List.getElem?_eq_none h2]
    rw [this] at h1;simp at h1
  rw [gb hk] at h1;exact ⟨hk,h1.2⟩
 ·have hg:=iC (jN c) c.ai;rw [h,decide_eq_true (by omega)] at hg;obtain ⟨j,hj,h1,_,h2⟩:=jT hg.symm;rw [h] at h2;obtain rfl:k=j:=by omega
  refine ⟨hj,?_⟩;unfold jN at h1;simp only [Bool.and_eq_true,decide_eq_true_eq] at h1;exact h1.1
theorem kz.GH {s:aE} {c:bf} (hM:nX s c) {cpu:Nat} {u:Option Es×Int} (x:kz s c cpu u) : ∀ m,u.1=some m→Jr s m:=by
 intro m e;cases x with
 | room|chain=>cases e
 | DE h =>
   simp only [Option.some.injEq] at e;subst e;obtain ⟨hk,hf⟩:=wv h;have:=(hM.zD _ (List.getElem_mem hk)).free
   exact ⟨hk,hM.words,(hM.first (List.getElem_mem hk) hf).1,by simp only;omega⟩
 | @new u h ha he hc =>
   simp only [Option.some.injEq] at e;subst e;have qO:=ha.at_ he;have hl:=iZ hM.lay;have hp:=mh c u.2.1
   have hk:lI c u.2.1<(eI c u.2.1).ai.length:=by
    simp only [eI];rw [du _ hp];omega
   have e:(eI c u.2.1).ai[lI c u.2.1]=⟨u.2.1,c.cm,16*u.2.1⟩:=tI hp hk
   refine ⟨hk,by simp only [jc,oM];exact hM.words,?_,?_⟩
   ·simp only [e];omega
   ·simp only [e];omega
open Go.RowKit
set_option maxHeartbeats 4000000 in
theorem iJ (A:Option Addr) (n c lo:Nat) (l:List Slab) (w:World) (hO:Own w lo 91 3 aY A n c l) (i:Nat) (hi:i≤n) (x:Slab) (b:Nat) (hB:aJ w b 91 (aY x)) (cG:aU A c≠some b) (hn:(n+1)*24≤140737488355328) (fy:lo≤w.heap.size) :
 gX Tryz.prog 263 [.slice A n c,.int .i64 (i:Int),.slice (some ⟨b,0,none⟩) 1 1] w fun v w' => ∃ A' c',v = .slice A' (n+1) c'∧Own w' lo 91 3 aY A' (n+1) c' (aV l i x)∧w.grownBy w' (aU A c) ∧ ∀ k,aU A' c'=some k→aU A c=some k∨w.heap.size≤k:=by
 refine dB Tryz.func263 rfl Tryz.ntmps263 rfl ?_;have hle:=hO.le;have mn:=hO.len;have hA:=hO.sl.base;have hw:=Ext.refl w;have jx:Sl w 3 aY (some ⟨b,0,none⟩) 1 [x]:=aJ.mo hB
 have jO:(aY x).length=3:=rfl
 have oQ:∀ q:List Slab,(q.flatMap aY).length=q.length*3:=fun q=>a9 q
 have nO:∀ (q:List Slab) (v:Value),v∈q.flatMap aY→v.oneCell'=true:=fun q v hv=>by
  obtain ⟨u,_,hu⟩:=List.mem_flatMap.1 hv;exact fw.one (enc:=aY) u v hu
 by_cases cf:i=n
 ·subst cf;repeat' (first|refine Wz ?_|(refine SW.st (bh (k:=i) rfl rfl (by omega) (by omega)) rfl ?_))
  all_goals try omega
  refine SW.v9 hO jx fy (by omega) rfl rfl rfl (by omega) (by omega) fun A2 c2 w2 cU => ?_
  have s8:Own w2 lo 91 3 aY A2 (i+1) c2 (l++[x])∧w.grownBy w2 (aU A c) ∧ ∀ k,aU A2 c2=some k→aU A c=some k∨w.heap.size≤k:=by
   rcases cU with ⟨rfl,rfl,h1,h2⟩|⟨h1,h2⟩
   ·exact ⟨h1,h2,fun k e => .inl e⟩
   ·exact ⟨h1.low fy,(aF (Ext.refl w) h2 (Nat.le_refl _) (fun k e=>by cases e)).gr _,fun k e => .inr (h1.aM k e)⟩
  obtain ⟨gB,hg,kU⟩:=s8;refine Wz ?_;refine ae.aO rfl rfl ⟨_,rfl,A2,c2,rfl,?_,hg,kU⟩;have e:aV l i x=l++[x]:=by unfold aV;rw [List.take_of_length_le (by omega),List.drop_eq_nil_of_le (by omega)];simp
  rw [e];exact gB
 ·by_cases jq:n+1≤c
  ·obtain ⟨g,rest,rfl,h1,h2,h3,h4,h5,h6⟩:=hO.opened (by omega);have AM:g≠b:=fun e=>cG (by rw [h6,e])
   have es:l.flatMap aY++rest=(l.take i).flatMap aY++((l.drop i).flatMap aY++rest):=by rw [← List.append_assoc,← List.flatMap_append,List.take_append_drop]
   have e1:((l.take i).flatMap aY).length=i*3:=by rw [oQ];simp;omega
   have e2:((l.drop i).flatMap aY).length=(n-i)*3:=by rw [oQ];simp [mn]
   have lT:=hO.sl.drop i c (by omega) (by omega);rw [if_neg (by omega)] at lT;rw [es] at h2
   have wU:∀ w',Ext w w'→(Extern.SlicesOverlaps.overlaps #[87,87] #[4] #[.slice (some ⟨b,0,none⟩) 1 1,.slice (if c=i+1 then (some ⟨g,0,none⟩) else (some (⟨g,0,none⟩ : Addr)).map (·.add ((i+1)*3))) (n+1-(i+1)) (c-(i+1))]).run Tryz.prog w' = .ok (.bool false) w':=fun w' hx=>by
    rw [if_neg (by omega),Option.map_some,c7];have b1:=hB.ext hx;have b2:=h2.ext hx;unfold aJ at b1 b2
    exact Lib.run_overlaps_apart w' 87 4 91 (bu.j3 (t:=87)) 3 (fun w0=>run_sizeOf (bu.size (t:=87)) w0) ⟨b,0,none⟩ ⟨g,(i+1)*3,none⟩ 1 1 _ _ (fun e=>AM e.symm) 91 91 (aY x).toArray.size ((l.take i).flatMap aY++((l.drop i).flatMap aY++rest)).toArray.size
     (by simp only [World.shape?,b1]) (by simp only [World.shape?,b2]) (by simp [e1,e2];omega) (by simp [World.frozen?,b1]) (by simp [World.frozen?,b1])
   repeat' (first|refine Wz ?_|(refine CW.bO rfl ?_)|(refine SW.st (bh (k:=i) rfl rfl (by omega) (by omega)) rfl ?_)|(refine SW.st (dg (k:=n+1) rfl rfl (by omega)) rfl ?_)|(refine SW.st (bh (k:=i+1) rfl rfl (by omega) (by omega)) rfl ?_)|(refine SW.entry Tryz.func273 (by kernel_rfl) (by kernel_rfl) (by kernel_rfl) (e:=Extern.SlicesOverlaps.overlaps #[87,87] #[4]) (by kernel_rfl) rfl rfl (wU _ hw) ?_))
   all_goals try omega
   have vt:((n-i)+1)*3≤((l.drop i).flatMap aY++rest).length:=by rw [List.length_append,e2];omega
   have e4:(l.drop i).flatMap aY++rest=((l.drop i).flatMap aY++rest).take 3++(((l.drop i).flatMap aY++rest).drop 3).take ((n-i)*3)++((l.drop i).flatMap aY++rest).drop (3+(n-i)*3):=by
    rw [List.append_assoc,← List.drop_drop,List.take_append_drop,List.take_append_drop]
   generalize CE:((l.drop i).flatMap aY++rest).take 3=D1 at e4
   generalize CF:(((l.drop i).flatMap aY++rest).drop 3).take ((n-i)*3)=D2 at e4
   generalize CG:((l.drop i).flatMap aY++rest).drop (3+(n-i)*3)=D3 at e4
   have f1:D1.length=3:=by rw [← CE];simp only [List.length_take];omega
   have f2:D2.length=(n-i)*3:=by rw [← CF];simp only [List.length_take,List.length_drop];omega
   have f3:D3.length+3=rest.length:=by rw [← CG];simp only [List.length_drop,List.length_append,e2];omega
   rw [e4] at h2;refine CW.any 8 mixed (cj (by kernel_rfl)) rfl fun w1 ab aG => ?_
   replace hw:=Ext.trans hw ab;replace hO:=hO.ext ab;replace hB:=hB.ext ab;replace h2:=h2.ext ab;clear ab;refine Wa ?_;refine SA.take 4 aG rfl (by kernel_rfl) (by kernel_rfl) rfl ?_;repeat ((refine SW.st (bh (k:=i+1) rfl rfl (by omega) (by omega)) rfl ?_))
   refine SW.ah ?_;refine Wa ?_;refine SA.take 7 aG rfl (by kernel_rfl) (by kernel_rfl) rfl ?_;repeat ((refine SW.st (bh (k:=i) rfl rfl (by omega) (by omega)) rfl ?_))
   refine SW.ah ?_;refine SA.done (by kernel_rfl) ?_;refine SW.copy (k:=n-i) ((i+1)*3) ((l.drop i).flatMap aY) h2 rfl rfl rfl (by omega) e2 (by simp only [List.length_append,e1,e2,f1,f2];omega) (fun h0=>⟨by rw [if_neg (by omega)];simp [c7],(⟨g,0,none⟩ : Addr).add (i*3),by rw [if_neg (by omega)];rfl,fun j v hv=>dq (by omega) (lT.ext hw) j v hv⟩) (nO _) fun w3 mx tW => ?_
   have g1:=eR ((l.take i).flatMap aY++D1) D2 D3 ((l.drop i).flatMap aY) (by rw [e2,f2]) (o:=(i+1)*3) (by rw [List.length_append,e1,f1];omega);have g0:(l.take i).flatMap aY++(D1++D2++D3)=(l.take i).flatMap aY++D1++D2++D3:=by simp only [List.append_assoc]
   rw [g0,g1] at mx;have EL:=bQ (hw.gr (aU (some ⟨g,0,none⟩) c)) tW (.inl h6.symm);have IF:=hB.grown tW (by simpa using fun e=>AM e.symm);repeat' (first|refine Wz ?_|(refine SW.st (bh (k:=i) rfl rfl (by omega) (by omega)) rfl ?_))
   refine SW.copy (k:=1) (i*3) (aY x) mx rfl rfl rfl (by omega) jO (by simp only [List.length_append,e1,e2,f1,jO];omega) (fun h0=>⟨by rw [if_neg (by omega)];simp [c7],⟨b,0,none⟩,rfl,fun j v hv=>IF.cell hv⟩) (fw.one (enc:=aY) x) fun w4 mT vv => ?_
   have g2:=eR ((l.take i).flatMap aY) D1 ((l.drop i).flatMap aY++D3) (aY x) (by rw [jO,f1]) (o:=i*3) e1.symm;have g3:(l.take i).flatMap aY++D1++(l.drop i).flatMap aY++D3=(l.take i).flatMap aY++D1++((l.drop i).flatMap aY++D3):=by simp only [List.append_assoc]
   have g4:(l.take i).flatMap aY++aY x++((l.drop i).flatMap aY++D3)=(aV l i x).flatMap aY++D3:=by unfold aV;simp only [List.flatMap_append,List.flatMap_cons,List.flatMap_nil,List.append_nil,List.append_assoc]
   rw [g3,g2,g4] at mT;have CH:=Own.closed (n:=n+1) (c:=c) (l:=aV l i x) (by unfold aV;simp;omega) mT (by omega) jq (by omega) h5 h1;have CI:=bQ EL vv (.inl h6.symm);refine Wz ?_;exact ae.aO rfl rfl ⟨_,rfl,_,_,rfl,CH,CI,fun k e => .inl e⟩
  ·have FJ:c=n:=by omega
   have lT:=hO.sl.drop i c (by omega) (by omega);have qb:=hO.sl.pre (i:=i) (by omega);repeat' (first|refine Wz ?_|(refine SW.st (bh (k:=i) rfl rfl (by omega) (by omega)) rfl ?_)|(refine SW.st (dg (k:=i) rfl rfl (by omega)) rfl ?_))
   all_goals try omega
   refine SW.vE (k:=n+1-i) qb Tryz.underlying3 rfl rfl (by omega) rfl (by omega) (by omega) (by omega) (by omega) fun g rest c2 w2 cq tV h2 h3 h4 h5 => ?_
   have e1:((l.take i).flatMap aY).length=i*3:=by rw [oQ];simp;omega
   have e2:((l.drop i).flatMap aY).length=(n-i)*3:=by rw [oQ];simp [mn]
   have vt:((n-i)+1)*3≤rest.length:=by omega
   have e4:rest=rest.take 3++(rest.drop 3).take ((n-i)*3)++rest.drop (3+(n-i)*3):=by
    rw [List.append_assoc,← List.drop_drop,List.take_append_drop,List.take_append_drop]
   generalize CE:rest.take 3=D1 at e4
   generalize CF:(rest.drop 3).take ((n-i)*3)=D2 at e4
   generalize CG:rest.drop (3+(n-i)*3)=D3 at e4
   have f1:D1.length=3:=by rw [← CE];simp only [List.length_take];omega
   have f2:D2.length=(n-i)*3:=by rw [← CF];simp only [List.length_take,List.length_drop];omega
   have f3:D3.length+((n-i)+1)*3=rest.length:=by rw [← CG];simp only [List.length_drop];omega
   rw [e4] at h2;have dw:aU A c≠some g:=fun e=>by have:=hO.lt_size _ e;omega
   have AM:b≠g:=by have:=hB.lt;omega
   replace lT:=lT.ext cq;replace hB:=hB.ext cq;replace hw:=Ext.trans hw cq;repeat' (first|refine Wz ?_|(refine SW.st (bh (k:=i) rfl rfl (by omega) (by omega)) rfl ?_))
   refine SW.copy (k:=1) (i*3) (aY x) h2 rfl rfl rfl (by omega) jO (by simp only [List.length_append,e1,f1,f2,jO];omega) (fun h0=>⟨by rw [if_neg (by omega)];simp [c7],⟨b,0,none⟩,rfl,fun j v hv=>hB.cell hv⟩) (fw.one (enc:=aY) x) fun w3 mx tW => ?_
   have g2:=eR ((l.take i).flatMap aY) D1 (D2++D3) (aY x) (by rw [jO,f1]) (o:=i*3) e1.symm;have g3:(l.take i).flatMap aY++(D1++D2++D3)=(l.take i).flatMap aY++D1++(D2++D3):=by simp only [List.append_assoc]
   rw [g3,g2] at mx;have tX:Ext w w3:=hw.own tV tW
   have kF:Sl w3 3 aY (if c=i then A else A.map (·.add (i*3))) (n-i) (l.drop i):=(hO.sl.drop i c (by omega) (by omega)).ext tX
   replace hw:=tX;refine Wz ?_;refine CW.any 8 mixed (cj (by kernel_rfl)) rfl fun w1 ab aG => ?_
   replace hw:=Ext.trans hw ab;replace mx:=mx.ext ab;replace kF:=kF.ext ab;clear ab;refine Wa ?_;refine SA.take 4 aG rfl (by kernel_rfl) (by kernel_rfl) rfl ?_;repeat ((refine SW.st (bh (k:=i+1) rfl rfl (by omega) (by omega)) rfl ?_))
   refine SW.ah ?_;refine Wa ?_;refine SA.take 7 aG rfl (by kernel_rfl) (by kernel_rfl) rfl ?_;repeat ((refine SW.st (bh (k:=i) rfl rfl (by omega) (by omega)) rfl ?_))
   refine SW.ah ?_;refine SA.done (by kernel_rfl) ?_;refine SW.copy (k:=n-i) ((i+1)*3) ((l.drop i).flatMap aY) mx rfl rfl rfl (by omega) e2 (by simp only [List.length_append,e1,e2,f2,jO];omega) (fun h0=>⟨by rw [if_neg (by omega)];simp [c7],(if c=i then A else A.map (·.add (i*3))).getD default,?_,fun j v hv=>dq (by omega) kF j v hv⟩) (nO _) fun w4 mT vv => ?_
   ·obtain ⟨a,ha⟩:=Option.isSome_iff_exists.1 (kF.base h0);rw [ha];rfl
   ·have g4:=eR ((l.take i).flatMap aY++aY x) D2 D3 ((l.drop i).flatMap aY) (by rw [e2,f2]) (o:=(i+1)*3) (by rw [List.length_append,e1,jO];omega);have g5:(l.take i).flatMap aY++aY x++(D2++D3)=(l.take i).flatMap aY++aY x++D2++D3:=by simp only [List.append_assoc]
    have g6:(l.take i).flatMap aY++aY x++(l.drop i).flatMap aY++D3=(aV l i x).flatMap aY++D3:=by unfold aV;simp only [List.flatMap_append,List.flatMap_cons,List.flatMap_nil,List.append_nil,List.append_assoc]
    rw [g5,g4,g6] at mT;have CH:=Own.closed (n:=n+1) (c:=c2) (lo:=lo) (l:=aV l i x) (by unfold aV;simp;omega) mT (by omega) (by omega) (by omega) h5 (by omega);have iK:Ext w w4:=hw.own tV vv
    have e9:i+(n+1-i)=n+1:=by omega
    refine Wz ?_;rw [e9]
    exact ae.aO rfl rfl ⟨_,rfl,_,_,rfl,CH,iK.gr _,fun k e => .inr (by
     have:k=g:=by
      unfold aU at e;split at e
      ·cases e
      ·simpa using e.symm
     omega)⟩
open Go.RowKit
theorem gX.mono {P:Program} {f:FuncId} {args:List Value} {w:World} {R R':Value→World→Prop} (h:gX P f args w R) (hr:∀ v w',R v w'→R' v w') : gX P f args w R' :=
 ⟨Calls.mono h.out fun e w' ⟨v,he,hv⟩=>⟨v,he,hr v w' hv⟩⟩
structure HK where
 b:Nat
 g:Nat
 c:Nat
 m:fF
 lv:fF
 cp:Int
 M:List Int
 V:List Block
structure HP where
 u0:cy
 u1:cy
 li:fF
 ls:List bM
abbrev HK.h (k:HK) (p:HP) : eB:=⟨⟨some ⟨k.g,0,none⟩,2,k.c⟩,k.m,k.cp,p.li,k.lv⟩
structure HS (wb w:World) (k:HK) (p:HP) (s:ar×ar) (L:List aC) : Prop where
 c8:aJ w k.b 41 (bm (k.h p))
 zs:dT w wb.heap.size k.g k.c p.u0 p.u1 s
 ck:Own w wb.heap.size 3 1 bd k.m.A k.m.n k.m.c k.M
 live:Own w wb.heap.size 165 3 aA k.lv.A k.lv.n k.lv.c k.V
 ls:cX w wb.heap.size p.li p.ls L
 sm:pp k.m [p.u0,p.u1] p.ls
 sf:rB k.lv [p.u0,p.u1]
 DF:wb.heap.size≤k.b
 base:Ext wb w
def gE (k:HK) (p:HP) (i:Nat) : Prop:=i=k.b∨i=k.g∨ob p.li=some i ∨ ∃ y∈p.ls,ob y.ax=some i
section
variable {w w' w0 w1 w2 wb:World} {i t:Nat} {k:HK} {p p' p0 p1 p2:HP} {s:ar×ar} {L:List aC} {cs:List Value} {row:Option Nat}
theorem HS.ext (h:HS wb w k p s L) (hx:Ext w w') : HS wb w' k p s L:=⟨h.c8.ext hx,h.zs.ext hx,h.ck.ext hx,h.live.ext hx,h.ls.ext hx,h.sm,h.sf,h.DF,h.base.trans hx⟩
theorem HS.Js (h:HS wb w k p s L) {y:bM} (hy:y∈p.ls) : ∃ l∈L,ky w wb.heap.size y l:=by
 obtain ⟨j,hj,rfl⟩:=List.getElem_of_mem hy;have uM:j<L.length:=by rw [← h.ls.each.len];exact hj
 exact ⟨_,List.getElem_mem uM,h.ls.each.get j hj uM⟩
theorem HS.lt (h:HS wb w k p s L) (hi:gE k p i) : i<w.heap.size:=by
 rcases hi with rfl|rfl|hi|⟨y,hy,hi⟩
 ·exact h.c8.lt
 ·exact h.zs.row.lt_size _ h.zs.own
 ·exact h.ls.row.lt_size i hi
 ·obtain ⟨l,_,hl⟩:=h.Js hy;exact hl.bL.lt_size i hi
theorem HS.not (h:HS wb w k p s L) (hi:w.heap.size≤i) : ¬ gE k p i:=fun hm=>by have:=h.lt hm;omega
theorem HS.low (h:HS wb w k p s L) : wb.heap.size≤w.heap.size:=Nat.le_of_lt (Nat.lt_of_le_of_lt h.DF h.c8.lt)
structure k9 (w0:World) (k:HK) (p0:HP) (w:World) (p:HP) : Prop where
 os:w.os=w0.os
 tape:w.tape=w0.tape
 output:w.output=w0.output
 size:w0.heap.size≤w.heap.size
 block:∀ i,i<w0.heap.size → ¬ gE k p0 i→w.heap[i]?=w0.heap[i]?
 BM:∀ i,gE k p i→gE k p0 i∨w0.heap.size≤i
theorem k9.refl (w:World) (k:HK) (p:HP) : k9 w k p w p:=⟨rfl,rfl,rfl,Nat.le_refl _,fun _ _ _=>rfl,fun _ h => .inl h⟩
theorem k9.step (h:k9 w0 k p0 w p) (hg:w.grownBy w' row) (hr:∀ i,row=some i→gE k p i∨w0.heap.size≤i) (hp:∀ i,gE k p' i→gE k p i∨w0.heap.size≤i) : k9 w0 k p0 w' p' :=
 ⟨hg.os.trans h.os,hg.tape.trans h.tape,hg.output.trans h.output,Nat.le_trans h.size hg.size,fun i hi hm=>by
  rw [hg.block i (Nat.lt_of_lt_of_le hi h.size) (fun e=>by
   rcases hr i e.symm with e|e
   ·rcases h.BM i e with e|e
    ·exact hm e
    ·omega
   ·omega)]
  exact h.block i hi hm,fun i hi=>by
  rcases hp i hi with e|e
  ·exact h.BM i e
  ·exact .inr e⟩
theorem k9.ext (h:k9 w0 k p0 w p) (hx:Ext w w') : k9 w0 k p0 w' p:=h.step (hx.gr none) (fun i e=>by cases e) (fun i e => .inl e)
theorem k9.trans (h:k9 w0 k p0 w1 p1) (h':k9 w1 k p1 w2 p2) : k9 w0 k p0 w2 p2 :=
 ⟨h'.os.trans h.os,h'.tape.trans h.tape,h'.output.trans h.output,Nat.le_trans h.size h'.size,fun i hi hm=>by
  rw [h'.block i (Nat.lt_of_lt_of_le hi h.size) (fun e=>by rcases h.BM i e with e|e;exact hm e;omega)];exact h.block i hi hm,fun i hi=>by
  rcases h'.BM i hi with e|e
  ·exact h.BM i e
  ·exact .inr (Nat.le_trans h.size e)⟩
theorem k9.c8 (h:k9 w0 k p0 w p) (hB:aJ w0 i t cs) (hn : ¬ gE k p0 i) : aJ w i t cs:=(h.block i hB.lt hn).trans hB
theorem k9.not (h:k9 w0 k p0 w p) (hn : ¬ gE k p0 i) (hi:i<w0.heap.size) : ¬ gE k p i:=fun e=>by rcases h.BM i e with e|e;exact hn e;omega
end
def ku (p:HP) (zi:Nat) (u:cy) : HP:=if zi=0 then ⟨u,p.u1,p.li,p.ls⟩ else ⟨p.u0,u,p.li,p.ls⟩
theorem jm {p:HP} {zi:Nat} {u:cy}:(ku p zi u).li=p.li∧(ku p zi u).ls=p.ls:=by unfold ku;split<;>exact ⟨rfl,rfl⟩
theorem qE {k:HK} {p:HP} {zi:Nat} {u:cy} {i:Nat}:gE k (ku p zi u) i↔gE k p i:=by unfold gE;rw [jm.1,jm.2]
theorem HS.BN {wb w0 w w':World} {k:HK} {p:HP} {s:ar×ar} {L:List aC} {zi:Nat} {u:cy} {z:ar} (h0:HS wb w0 k p s L) (h:HS wb w k p s L) (hz:zi<2)
 (hO:Own w' wb.heap.size 139 4 bp (some ⟨k.g,0,none⟩) 2 k.c ([p.u0,p.u1].set zi u)) (hg:w.grownBy w' (some k.g)) (hn:eY w w0.heap.size u z) : HS wb w' k (ku p zi u) (k7 s (zi:Int) z) L:=by
 have hG:=h.zs.gr hg;have hx:Ext wb w':=h.base.own h.zs.zm hg
 have lO:=(hn.low h0.low).ay hG rfl;have hf:∀ g,aU u.Types.A u.Types.c=some g→w0.heap.size≤g:=fun g e=>hn.types.aM g e
 have Oy:∀ g,aU u.ag.A u.ag.c=some g→w0.heap.size≤g:=fun g e=>hn.free.aM g e
 have tg:∀ (j:Nat) (hj:j<p.ls.length) (g:Nat),aU p.ls[j].ax.A p.ls[j].ax.c=some g→g<w0.heap.size:=fun j hj g e=>h0.lt (.inr (.inr (.inr ⟨_,List.getElem_mem hj,e⟩)))
 have G1:∀ us:List cy,(∀ v∈us,v∈[p.u0,p.u1]∨v=u)→pp k.m us p.ls:=fun us hu=>⟨h.sm.ck,fun j hj g e v hv=>by
  rcases hu v hv with h1|rfl
  ·exact h.sm.types j hj g e v h1
  ·intro e2;have:=hf g e2;have:=tg j hj g e;omega,h.sm.sep⟩
 have Ii:∀ us:List cy,(∀ v∈us,v∈[p.u0,p.u1]∨v=u)→rB k.lv us:=fun us hu v hv g e=>by
  rcases hu v hv with h1|rfl
  ·exact h.sf v h1 g e
  ·intro e2;have:=Oy g e;have:=h0.live.lt_size g e2;omega
 unfold ku k7;by_cases iP:zi=0
 ·subst iP;simp only [if_true,Int.ofNat_eq_natCast,Int.natCast_zero] at *;exact ⟨h.c8.ay hG rfl,⟨hO,lO,h.zs.z1.ay hG rfl,h.zs.zm,h.zs.pos⟩,h.ck.ay hG rfl,h.live.ay hG rfl,h.ls.ay hG rfl,G1 _ (by simp),Ii _ (by simp),h.DF,hx⟩
 ·obtain rfl:zi=1:=by omega
  have e1 : ¬ ((1:Nat)=0):=by omega
  have e2 : ¬ (((1:Nat) : Int)=0):=by omega
  simp only [if_neg e1,if_neg e2] at *;exact ⟨h.c8.ay hG rfl,⟨hO,h.zs.z0.ay hG rfl,lO,h.zs.zm,h.zs.pos⟩,h.ck.ay hG rfl,h.live.ay hG rfl,h.ls.ay hG rfl,G1 _ (by simp),Ii _ (by simp),h.DF,hx⟩
theorem cX.zE {w w':World} {lo:Nat} {li:fF} {ls:List bM} {L:List aC} (h:cX w lo li ls L) (hg:w.grownBy w' (ob li)) : oa w w' 142:=h.row.gr hg
theorem Az {m:fF} {us:List cy} {ls vN:List bM} (h:pp m us ls) (hs:yQ vN) (ho:∀ y∈vN,∃ x∈ls,ob y.ax=ob x.ax) : pp m us vN:=by
 refine ⟨fun j hj g e => ?_,fun j hj g e v hv => ?_,hs⟩
 ·obtain ⟨x,hx,e2⟩:=ho _ (List.getElem_mem hj);obtain ⟨i,hi,rfl⟩:=List.getElem_of_mem hx;exact h.ck i hi g (e2.symm.trans e)
 ·obtain ⟨x,hx,e2⟩:=ho _ (List.getElem_mem hj);obtain ⟨i,hi,rfl⟩:=List.getElem_of_mem hx;exact h.types i hi g (e2.symm.trans e) v hv
theorem HS.setRow {wb w w':World} {k:HK} {p:HP} {s:ar×ar} {L:List aC} {i:Nat} {y:bM} {l:aC} (h:HS wb w k p s L) (hi:i<p.ls.length) (hO:Own w' wb.heap.size 142 4 bq p.li.A p.li.n p.li.c (p.ls.set i y)) (hg:w.grownBy w' (ob p.li)) (hy:ky w wb.heap.size y l)
 (ho:ob y.ax=ob p.ls[i].ax) : HS wb w' k ⟨p.u0,p.u1,p.li,p.ls.set i y⟩ s (L.set i l):=by
 have hG:=h.ls.zE hg;have hx:Ext wb w':=aF h.base hg (Nat.le_refl _) h.ls.row.aM
 have hm:∀ z∈p.ls.set i y,∃ x∈p.ls,ob z.ax=ob x.ax:=fun z hz=>by
  rcases List.mem_or_eq_of_mem_set hz with h1|rfl
  ·exact ⟨z,h1,rfl⟩
  ·exact ⟨_,List.getElem_mem hi,ho⟩
 have de:∀ x∈p.ls,∀ g,ob x.ax=some g→g<w.heap.size:=fun x hx g e=>h.lt (.inr (.inr (.inr ⟨x,hx,e⟩)))
 refine ⟨h.c8.ay hG rfl,h.zs.ay hG rfl,h.ck.ay hG rfl,h.live.ay hG rfl,⟨hO,?_⟩,Az h.sm (uy.qw (li:=p.li) h.sm.sep de hi (fun g e => .inl (ho ▸ e))).sep hm,h.sf,h.DF,hx⟩;exact eA.setAt (R:=ky w wb.heap.size) h.ls.each (hy.ay hG rfl) (fun j h1 h2 _ hh=>hh.ay hG rfl)
theorem eA.erase {α β:Type} {R : α → β → Prop} {xs:List α} {ys:List β} (h:eA R xs ys) (i:Nat) : eA R (xs.eraseIdx i) (ys.eraseIdx i):=by
 refine ⟨by rw [List.length_eraseIdx,List.length_eraseIdx,h.len],fun j h1 h2 => ?_⟩;have hl:=h.len;rw [List.length_eraseIdx] at h1 h2;rw [List.getElem_eraseIdx,List.getElem_eraseIdx];split
 ·exact h.get j _ _
 ·exact h.get (j+1) _ _
theorem HS.Hk {wb w w1 w':World} {k:HK} {p:HP} {s:ar×ar} {L:List aC} {i:Nat} (h:HS wb w k p s L) (hO:Own w1 wb.heap.size 142 4 bq p.li.A (p.li.n-1) p.li.c (p.ls.eraseIdx i)) (hg:w.grownBy w1 (ob p.li))
 (hb:aJ w' k.b 41 (bm (k.h ⟨p.u0,p.u1,⟨p.li.A,p.li.n-1,p.li.c⟩,p.ls.eraseIdx i⟩))) (tV:w1.grownBy w' (some k.b)) : HS wb w' k ⟨p.u0,p.u1,⟨p.li.A,p.li.n-1,p.li.c⟩,p.ls.eraseIdx i⟩ s (L.eraseIdx i):=by
 have hG:=h.ls.zE hg;have CI:=(h.c8.ay hG rfl).gr tV;have hx:Ext wb w':=(aF h.base hg (Nat.le_refl _) h.ls.row.aM).own h.DF tV
 refine ⟨hb,(h.zs.ay hG rfl).ay CI rfl,(h.ck.ay hG rfl).ay CI rfl,(h.live.ay hG rfl).ay CI rfl,⟨hO.ay CI rfl,(h.ls.each.erase i).mono fun _ _ hh=>(hh.ay hG rfl).ay CI rfl⟩,Az h.sm ?_ (fun y hy=>⟨y,List.mem_of_mem_eraseIdx hy,rfl⟩),h.sf,h.DF,hx⟩;exact pD.2 ((pD.1 h.sm.sep).sublist (List.eraseIdx_sublist _ _))
set_option maxHeartbeats 1000000 in
theorem BO (k:HK) (p:HP) (s:ar×ar) (L:List aC) (x:aC) (y:bM) (a:Int) (wb w0:World) (H:HS wb w0 k p s L) (hk:te y x) (Kg:y.ax = .nil) (Kh:x.ax=[])
 (hs:rT L) (hn:(p.li.n+1)*48≤140737488355328) (Dk:∀ l∈L,l.ax.length≤1000) :
 gX Tryz.prog 112 [.pointer (some ⟨k.b,0,none⟩),.agg (bq y).toArray,.int .i64 a] w0 fun v w' => ∃ p',HS wb w' k p' s (jB L ⟨x.dO,x.ar,x.Ty,dD L x++[a]⟩)∧k9 w0 k p w' p':=by
 obtain ⟨F,hF⟩ : ∃ F:World→Prop,F=fun v=>dT v wb.heap.size k.g k.c p.u0 p.u1 s∧Own v wb.heap.size 3 1 bd k.m.A k.m.n k.m.c k.M∧Own v wb.heap.size 165 3 aA k.lv.A k.lv.n k.lv.c k.V∧k9 w0 k p v p:=⟨_,rfl⟩
 have hZ:=H.zs;have hM:=H.ck;have hV:=H.live;have hL:=H.ls;have hb:=H.c8
 have oe:FV F w0:=by
  rw [hF];exact ⟨⟨hZ,hM,hV,k9.refl _ _ _⟩,fun v v' hx hP=>⟨hP.1.ext hx,hP.2.1.ext hx,hP.2.2.1.ext hx,hP.2.2.2.ext hx⟩⟩
 have He:∀ (v v':World) (row:Option Nat),v.grownBy v' row→(∀ i,row=some i→i=k.b∨aU p.li.A p.li.c=some i∨w0.heap.size≤i)→F v→F v':=fun v v' row hg F4 hP=>by
  rw [hF] at hP ⊢;refine ⟨hP.1.parts hg ((hZ.row.zn hL hb rfl rfl).ne F4) ((hZ.z0.free.zn hL hb rfl rfl).ne F4) ((hZ.z0.types.zn hL hb rfl rfl).ne F4) ((hZ.z1.free.zn hL hb rfl rfl).ne F4) ((hZ.z1.types.zn hL hb rfl rfl).ne F4),hP.2.1.apart hg ((hM.zn hL hb rfl rfl).ne F4),hP.2.2.1.apart hg ((hV.zn hL hb rfl rfl).ne F4),hP.2.2.2.step hg (fun i e => ?_) (fun i e => .inl e)⟩;rcases F4 i e with h|h|h
  ·exact .inl (.inl h)
  ·exact .inl (.inr (.inr (.inl h)))
  ·exact .inr h
 have Lo:∀ (i:Nat) (hi:i<p.ls.length) (v v':World),v.grownBy v' (aU p.ls[i].ax.A p.ls[i].ax.c)→F v→F v':=fun i hi v v' hg hP=>by
  rw [hF] at hP ⊢;have Km:=(hL.each.get i hi (by rw [← hL.each.len];exact hi)).bL;exact ⟨hP.1.parts hg (hZ.row.rY Km rfl) (hZ.z0.free.rY Km rfl) (fun j e e2=>H.sm.types i hi j e2 p.u0 (by simp) e) (hZ.z1.free.rY Km rfl) (fun j e e2=>H.sm.types i hi j e2 p.u1 (by simp) e),hP.2.1.apart hg (fun j e e2=>H.sm.ck i hi j e2 e),hP.2.2.1.apart hg (hV.rY Km rfl),hP.2.2.2.step hg (fun j e => .inl (.inr (.inr (.inr ⟨_,List.getElem_mem hi,e⟩)))) (fun i e => .inl e)⟩
 refine (Dj ⟨some ⟨k.g,0,none⟩,2,k.c⟩ k.m k.cp p.li k.lv L p.ls x y a F k.b wb w0 H.base H.DF hb hL hk Kg Kh H.sm.sep hs hn Dk oe He Lo).mono fun v w' hv => ?_
 obtain ⟨hx,Dn,Em,vN,jJ,BP,hP⟩:=hv;rw [hF] at Dn;obtain ⟨Ci,Oz,BQ,hK⟩:=Dn
 have hold:∀ j (hj:j<vN.length) (g:Nat),aU vN[j].ax.A vN[j].ax.c=some g→(∃ i,∃ hi:i<p.ls.length,aU p.ls[i].ax.A p.ls[i].ax.c=some g)∨w0.heap.size≤g:=fun j hj g e=>by
  rcases hP.of _ (List.getElem_mem hj) g e with ⟨z,hz,e2⟩|h
  ·obtain ⟨i,hi,rfl⟩:=List.getElem_of_mem hz;exact .inl ⟨i,hi,e2⟩
  ·exact .inr h
 refine ⟨⟨p.u0,p.u1,Em,vN⟩,⟨jJ,Ci,Oz,BQ,BP,⟨fun j hj g e => ?_,fun j hj g e v hv => ?_,hP.sep⟩,H.sf,H.DF,hx⟩,hK.step (World.grownBy.refl _ none) (fun i e=>by cases e) (fun i hi => ?_)⟩
 ·rcases hold j hj g e with ⟨i,hi,e2⟩|h
  ·exact H.sm.ck i hi g e2
  ·intro e2;have:=hM.lt_size g e2;omega
 ·rcases hold j hj g e with ⟨i,hi,e2⟩|h
  ·exact H.sm.types i hi g e2 v hv
  ·intro e2;simp only [List.mem_cons,List.not_mem_nil,or_false] at hv;rcases hv with rfl|rfl
   ·have:=hZ.z0.types.lt_size g e2;omega
   ·have:=hZ.z1.types.lt_size g e2;omega
 ·rcases hi with h|h|h|⟨z,hz,h⟩
  ·exact .inl (.inl h)
  ·exact .inl (.inr (.inl h))
  ·exact (hP.row i h).imp (fun e => .inr (.inr (.inl e))) id
  ·exact (hP.of z hz i h).imp (fun e => .inr (.inr (.inr e))) id
open Go.RowKit
section
variable {P:Program} {L:Env} {w:World} {d:Option Nat} {T:TypeId} {pos:String} {af:Array Edge} {g:Option (Nat×Bool)}
theorem Fi {t ty:TypeId} {x y:Operand} {i j:Int} (a b:Nat) (hx:bR L x=some (.int .i64 i)) (hy:bR L y=some (.int .i64 j)) (ha:i=(a:Int)) (hb:j=(b:Int)) (gh:a<9223372036854775808) (jJ:b<9223372036854775808) :
 St P ⟨d,.binOp .and t x y ty,T,pos,af,g⟩ L w (.int .i64 ((a &&& b:Nat) : Int)) :=
 ⟨fun n A hA w' _=>by
  have e1:=hA.eval hx;have e2:=hA.eval hy;subst ha hb;generalize A.eval = ρ at *
  have de:a &&& b<2 ^ 63:=Nat.and_lt_two_pow _ (by omega)
  have e:(BitVec.ofInt 64 (a:Int) &&& BitVec.ofInt 64 (b:Int)).toNat=a &&& b:=by
   rw [BitVec.toNat_and,BitVec.ofInt_natCast,BitVec.ofInt_natCast,BitVec.toNat_ofNat,BitVec.toNat_ofNat,Nat.mod_eq_of_lt (by omega),Nat.mod_eq_of_lt (by omega)]
  have aB:(Op.intBits .and .i64 (a:Int) (b:Int)).run P w' = .ok (.int .i64 ((a &&& b:Nat) : Int)) w':=by
   have:Op.intBits .and .i64 (a:Int) (b:Int)=(pure (.int .i64 (IntKind.i64.wrap ((BitVec.ofInt 64 (a:Int) &&& BitVec.ofInt 64 (b:Int)).toNat:Nat))) : Sem Value):=rfl
   rw [this,e,iw (by omega) (by omega)]
   rfl
  have aL:(binOp .and t (.int .i64 (a:Int)) (.int .i64 (b:Int))).run P w' = .ok (.int .i64 ((a &&& b:Nat) : Int)) w':=by
   have:binOp .and t (.int .i64 (a:Int)) (.int .i64 (b:Int))=Op.intBits .and .i64 (a:Int) (b:Int):=by simp [binOp]
   rw [this,aB]
  simp [execOp,e1,e2,eqGuard,aL]⟩
end
open Go.RowKit
def vm (f j:Int) : Int:=((f.toNat &&& j.toNat:Nat) : Int)
theorem BR:∀ f:Nat,f<16→(f &&& 1=f % 2)∧(f &&& 2=f / 2 % 2*2)∧(f &&& 4=f / 4 % 2*4)∧(f &&& 8=f / 8*8):=by decide
theorem nM {f:Int} (h : 0≤f∧f≤15) : vm f 1=f % 2∧vm f 2=f / 2 % 2*2∧vm f 4=f / 4 % 2*4∧vm f 8=f / 8*8:=by
 obtain ⟨n,rfl⟩ : ∃ n:Nat,f=n:=⟨f.toNat,by omega⟩;obtain ⟨h1,h2,h3,h4⟩:=BR n (by omega);unfold vm;simp only [Int.toNat_natCast,show (1:Int).toNat=1 from rfl,show (2:Int).toNat=2 from rfl,show (4:Int).toNat=4 from rfl,show (8:Int).toNat=8 from rfl,h1,h2,h3,h4];omega
theorem r3 {P:Program} {L:Env} {w:World} {d:Option Nat} {T t ty:TypeId} {pos:String} {af:Array Edge} {g:Option (Nat×Bool)} {x y:Operand} {f j:Int} (hx:bR L x=some (.int .i64 f)) (hy:bR L y=some (.int .i64 j)) (hf : 0≤f∧f≤15) (hj : 0≤j∧j≤15) :
 St P ⟨d,.binOp .and t x y ty,T,pos,af,g⟩ L w (.int .i64 (vm f j)):=Fi f.toNat j.toNat hx hy (by omega) (by omega) (by omega) (by omega)
theorem zF (f:Int) (w:World) : bo Tryz.prog 152 [.int .i64 f] w fun v _=>v = .tuple #[.int .i64 (if 0≤dL f then dL f else 0),.bool (decide (0≤dL f))]:=by
 refine aI Tryz.func152 rfl Tryz.ntmps152 rfl ?_;have hw:=Ext.refl w;by_cases hf : 0≤f∧f≤15
 ·obtain ⟨q1,q2,q4,q8⟩:=nM hf;obtain ⟨t,ht⟩ : ∃ t,dL f=t:=⟨_,rfl⟩
  have hc:(f / 2 % 4=0∧t=0)∨(f / 2 % 4=1∧t=1)∨(f / 2 % 4=2∧t=2)∨(f / 2 % 4=3∧t = -1):=by
   unfold dL at ht;rw [if_pos hf] at ht;split at ht
   ·omega
   ·split at ht
    ·omega
    ·split at ht
     ·omega
     ·omega
  rw [ht];rcases hc with ⟨h1,rfl⟩|⟨h1,rfl⟩|⟨h1,rfl⟩|⟨h1,rfl⟩
  all_goals
   repeat' (first|refine Wz ?_|(refine SW.st (r3 rfl rfl (by omega) (by decide)) rfl ?_))
   all_goals try omega
   all_goals exact ae.cx rfl rfl rfl ⟨_,rfl,hw,rfl⟩
 ·have e:dL f = -1:=by unfold dL;rw [if_neg hf]
  rw [e];repeat' (first|refine Wz ?_|refine SW.cV rfl rfl rfl (fun h => ?_) (fun h => ?_))
  all_goals try omega
  all_goals exact ae.cx rfl rfl rfl ⟨_,rfl,hw,rfl⟩
theorem uE (f:Int) (w:World) : bo Tryz.prog 157 [.int .i64 f] w fun v _=>v = .int .i64 (dL f):=by
 refine aI Tryz.func157 rfl Tryz.ntmps157 rfl ?_;have hw:=Ext.refl w;by_cases hf : 0≤f∧f≤15
 ·obtain ⟨t,ht⟩ : ∃ t,dL f=t:=⟨_,rfl⟩
  have hc:(f / 2 % 4=0∧t=0)∨(f / 2 % 4=1∧t=1)∨(f / 2 % 4=2∧t=2)∨(f / 2 % 4=3∧t = -1):=by
   unfold dL at ht;rw [if_pos hf] at ht;split at ht
   ·omega
   ·split at ht
    ·omega
    ·split at ht
     ·omega
     ·omega
  rw [ht];have LA:(f / 2).tmod 4=f / 2 % 4:=Int.tmod_eq_emod_of_nonneg (by omega)
  rcases hc with ⟨h1,rfl⟩|⟨h1,rfl⟩|⟨h1,rfl⟩|⟨h1,rfl⟩
  all_goals
   repeat' (first|refine Wz ?_|(refine SW.call rfl rfl (bP _ _ _ _) ?_;intro v w1 ab hv;subst hv;replace hw:=Ext.trans hw ab;clear ab))
   all_goals try omega
   all_goals exact ae.aO rfl rfl ⟨_,rfl,hw,rfl⟩
 ·have e:dL f = -1:=by unfold dL;rw [if_neg hf]
  rw [e];repeat' (first|refine Wz ?_|(refine SW.call rfl rfl (bP _ _ _ _) ?_;intro v w1 ab hv;subst hv;replace hw:=Ext.trans hw ab;clear ab))
  all_goals try omega
  all_goals exact ae.aO rfl rfl ⟨_,rfl,hw,rfl⟩
structure oh (M:List Int) (m0 m1:Int) : Prop where
 eq:M=[m0,m1]
 b0 : 0≤m0∧m0≤256
 b1 : 0≤m1∧m1≤256
theorem Hl.DG (r:eB) (u0 u1:cy) (s:ar×ar) (M:List Int) (m0 m1:Int) (zi:Nat) (f:Int) (w:World) (hm:Sl w 1 bd r.bJ.A r.bJ.n M) (hz:Sl w 4 bp r.aQ.A r.aQ.n [u0,u1]) (hM:oh M m0 m1) (h1:u1.aX=s.2.aX) (h2:u1.To=s.2.To) (hF : 0≤s.2.aX∧s.2.aX≤256) (hT:s.2.aX≤s.2.To∧s.2.To≤256) (iP:zi<2) (hf : 0≤f∧f≤15) :
 bo Tryz.prog 246 [.agg (bm r).toArray,.int .i64 (zi:Int),.int .i64 f] w fun v _=>v = .int .i64 (nt m0 m1 s zi f):=by
 refine aI Tryz.func246 rfl Tryz.ntmps246 rfl ?_;refine CW.seq (CW.region (SW.box rfl rfl fun b1 w1 hw gV aB => ?_));obtain ⟨rfl,FN,px⟩:=hM;obtain ⟨q1,q2,q4,q8⟩:=nM hf;have hA:=hz.base;have hB:=hm.base;have hn : 2=r.aQ.n:=hz.len
 have FR : 2=r.bJ.n:=hm.len
 have k0 : 1<r.aQ.n:=by omega
 have k1:zi<r.bJ.n:=by omega
 have f0:=hz.dA k0 (j:=0) (u := .int .i64 u1.aX) rfl;have f1:=hz.dA k0 (j:=1) (u := .int .i64 u1.To) rfl;obtain ⟨mz,Fj⟩ : ∃ mz,(if (zi:Int)=0 then m0 else m1)=mz:=⟨_,rfl⟩
 have LB : [m0,m1][zi]'(by simpa using iP)=mz:=by
  rcases Nat.lt_or_ge zi 1 with h|h
  ·obtain rfl:zi=0:=by omega
   rw [← Fj];rfl
  ·obtain rfl:zi=1:=by omega
   rw [← Fj];rfl
 have fm:=hm.one k1 (congrArg bd LB);have OA : 0≤mz∧mz≤256:=by rw [← Fj];split<;>omega
 obtain ⟨v,hv⟩ : ∃ v,nt m0 m1 s zi f=v:=⟨_,rfl⟩;have Bp:=hv;unfold nt at Bp;rw [Fj] at Bp;rw [hv];have LA:f.tmod 2=f % 2:=Int.tmod_eq_emod_of_nonneg (by omega)
 have hc:(8≤f∨f<8)∧((zi=0∧f % 2=0)∨(zi=0∧f % 2=1)∨zi=1):=by omega
 obtain ⟨sK,Fk⟩:=hc;rcases sK with sK|sK<;>rcases Fk with ⟨Fk,LC⟩|⟨Fk,LC⟩|Fk
 all_goals
  repeat' (first|refine Wz ?_|((apply CW.aP mixed;(· kernel_rfl);rotate_left;intro w1 ab;replace hw:=Ext.trans hw ab;replace aB:=aB.ext ab;clear ab;rotate_right))|refine SW.st (ap hw rfl f0) rfl ?_|refine SW.st (ap hw rfl f1) rfl ?_|refine SW.st (ap hw rfl fm) rfl ?_|(refine SW.st (r3 rfl rfl (by omega) (by decide)) rfl ?_)|exact SW.bx rfl)
  all_goals try omega
  refine ae.aO rfl rfl ⟨_,rfl,hw,?_⟩;congr 1
  omega
theorem x8.wx (r:eB) (u0 u1:cy) (s:ar×ar) (M:List Int) (m0 m1:Int) (zi:Nat) (f:Int) (w:World) (hm:Sl w 1 bd r.bJ.A r.bJ.n M) (hz:Sl w 4 bp r.aQ.A r.aQ.n [u0,u1]) (hM:oh M m0 m1) (h1:u1.aX=s.2.aX) (h2:u1.To=s.2.To) (hF : 0≤s.2.aX∧s.2.aX≤256) (hT:s.2.aX≤s.2.To∧s.2.To≤256) (iP:zi<2) (hf : 0≤f∧f≤15) :
 bo Tryz.prog 251 [.agg (bm r).toArray,.int .i64 (zi:Int),.int .i64 f] w fun v _=>v = .int .i64 (nt m0 m1 s zi f):=by
 refine aI Tryz.func251 rfl Tryz.ntmps251 rfl ?_;refine CW.seq (CW.region (SW.box rfl rfl fun b1 w1 hw gV aB => ?_));obtain ⟨rfl,FN,px⟩:=hM;obtain ⟨q1,q2,q4,q8⟩:=nM hf;have hA:=hz.base;have hB:=hm.base;have hn : 2=r.aQ.n:=hz.len
 have FR : 2=r.bJ.n:=hm.len
 have k0 : 1<r.aQ.n:=by omega
 have k1:zi<r.bJ.n:=by omega
 have f0:=hz.dA k0 (j:=0) (u := .int .i64 u1.aX) rfl;have f1:=hz.dA k0 (j:=1) (u := .int .i64 u1.To) rfl;obtain ⟨mz,Fj⟩ : ∃ mz,(if (zi:Int)=0 then m0 else m1)=mz:=⟨_,rfl⟩
 have LB : [m0,m1][zi]'(by simpa using iP)=mz:=by
  rcases Nat.lt_or_ge zi 1 with h|h
  ·obtain rfl:zi=0:=by omega
   rw [← Fj];rfl
  ·obtain rfl:zi=1:=by omega
   rw [← Fj];rfl
 have fm:=hm.one k1 (congrArg bd LB);have OA : 0≤mz∧mz≤256:=by rw [← Fj];split<;>omega
 obtain ⟨v,hv⟩ : ∃ v,nt m0 m1 s zi f=v:=⟨_,rfl⟩;have Bp:=hv;unfold nt at Bp;rw [Fj] at Bp;rw [hv];have LA:f.tmod 2=f % 2:=Int.tmod_eq_emod_of_nonneg (by omega)
 have hc:(8≤f∨f<8)∧((zi=0∧f % 2=0)∨(zi=0∧f % 2=1)∨zi=1):=by omega
 obtain ⟨sK,Fk⟩:=hc;rcases sK with sK|sK<;>rcases Fk with ⟨Fk,LC⟩|⟨Fk,LC⟩|Fk
 all_goals
  repeat' (first|refine Wz ?_|((apply CW.aP mixed;(· kernel_rfl);rotate_left;intro w1 ab;replace hw:=Ext.trans hw ab;replace aB:=aB.ext ab;clear ab;rotate_right))|refine SW.st (ap hw rfl f0) rfl ?_|refine SW.st (ap hw rfl f1) rfl ?_|refine SW.st (ap hw rfl fm) rfl ?_|exact SW.bx rfl)
  all_goals try omega
  refine ae.aO rfl rfl ⟨_,rfl,hw,?_⟩;congr 1
  omega
open Go.RowKit
inductive F5 (m0 m1:Int) (s:ar×ar) (zi o t f:Int) : Option ((ar×ar)×Int)→Prop
 | jU (he : ¬ dv m0 m1 s zi o f) : F5 m0 m1 s zi o t f none
 | none {u:ar×Int×Int} (he:dv m0 m1 s zi o f) (ht:gl (rH s zi) o t u) (hu:u.2.2≠0) : F5 m0 m1 s zi o t f none
 | ok {u:ar×Int×Int} (he:dv m0 m1 s zi o f) (ht:gl (rH s zi) o t u) (hu:u.2.2=0) : F5 m0 m1 s zi o t f (some (k7 s zi u.1,u.2.1))
def OB:Option ((ar×ar)×Int)→Value
 | Option.none => .tuple #[.int .i64 0,.bool false]
 | some q => .tuple #[.int .i64 q.2,.bool true]
def Kn (s:ar×ar) : Option ((ar×ar)×Int)→ar×ar
 | Option.none=>s
 | some q=>q.1
theorem F5.vs {m0 m1:Int} {s:ar×ar} {zi o t f:Int} {q:Option ((ar×ar)×Int)} (h:F5 m0 m1 s zi o t f q) (hv:VS s) : VS (Kn s q):=by
 cases h with
 | jU|none=>exact hv
 | ok he ht hu=>exact hv.qw (ht.yN hu).1
theorem HS.fu {wb w:World} {k:HK} {p:HP} {s:ar×ar} {L:List aC} (h:HS wb w k p s L) (hv:VS s) {zi:Nat} (hz:zi<2) : ∃ u,[p.u0,p.u1][zi]'hz=u∧eY w wb.heap.size u (rH s zi):=by
 rcases Nat.lt_or_ge zi 1 with h1|h1
 ·obtain rfl:zi=0:=by omega
  exact ⟨p.u0,rfl,h.zs.z0⟩
 ·obtain rfl:zi=1:=by omega
  exact ⟨p.u1,rfl,h.zs.z1⟩
set_option maxHeartbeats 2000000 in
theorem pI (k:HK) (p:HP) (s:ar×ar) (L:List aC) (m0 m1:Int) (zi:Nat) (o t f:Int) (wb w:World) (H:HS wb w k p s L) (hO:nR w) (hM:oh k.M m0 m1) (hv:VS s) (iP:zi<2) (ho : 0≤o∧o≤4) (hf : 0≤f∧f≤15) :
 gX Tryz.prog 214 [.pointer (some ⟨k.b,0,none⟩),.int .i64 (zi:Int),.int .i64 o,.int .i64 t,.int .i64 f] w fun v w' => ∃ q,F5 m0 m1 s zi o t f q∧v=OB q ∧ ∃ p',HS wb w' k p' (Kn s q) L∧k9 w k p w' p':=by
 refine dB Tryz.func214 rfl Tryz.ntmps214 rfl ?_;have hw:=Ext.refl w;have H0:=H;obtain ⟨uz,Hm,nN⟩:=H.fu hv iP;have vf:=hv.rH (zi:Int);obtain ⟨z,hz⟩ : ∃ z,rH s (zi:Int)=z:=⟨_,rfl⟩;rw [hz] at nN vf;obtain ⟨q1,q2,q3,q4⟩:=kM nN vf;have hA:=H.zs.row.sl.base;have fz:=H.zs.row.sl.all iP;rw [Hm] at fz;have OC:=dH.2 vf
 have cP:∀ w',Ext w w'→bo Tryz.prog 245 [.agg (bp uz).toArray] w' fun v _=>v = .tuple #[.int .i64 (dI z.ag),.int .i64 0]:=fun w' hx=>by
  have:=zv uz z w' (nN.ext hx).rd (by omega) (by omega) ⟨by omega,by omega⟩ ⟨by omega,by omega⟩
  rwa [show ns z=(dI z.ag,0) by simp [ns,OC]] at this
 obtain ⟨hd,yu⟩ : ∃ hd,nt m0 m1 s zi f=hd:=⟨_,rfl⟩;have o1:=hv.mH.ok;obtain ⟨a1,a2,a3,a4,a5⟩:=o1
 have cH:∀ w',Ext w w'→bo Tryz.prog 246 [.agg (bm (k.h p)).toArray,.int .i64 (zi:Int),.int .i64 f] w' fun v _=>v = .int .i64 hd:=fun w' hx=>by
  have:=Hl.DG (k.h p) p.u0 p.u1 s k.M m0 m1 zi f w' (H0.ck.ext hx).sl (H0.zs.row.ext hx).sl hM H0.zs.z1.from_ H0.zs.z1.j6 ⟨by omega,by omega⟩ ⟨by omega,by omega⟩ iP hf
  rwa [yu] at this
 have OD : 0≤hd∧hd≤512:=by
  rw [← yu];have h1:=hM.b0;have h2:=hM.b1;unfold nt;(repeat' split)<;>omega
 have AW:=ka vf;have LD:=jg vf z.ag.length (Nat.le_refl _);rw [List.take_length] at LD;have Jt:=bE ho.1 ho.2;by_cases he:hd≤dI z.ag-pw o
 ·have hE:dv m0 m1 s zi o f:=by unfold dv;rw [yu,hz];exact he
  repeat' (first|refine Wz ?_|((apply CW.aP mixed;(· kernel_rfl);rotate_left;intro w1 ab;replace hw:=Ext.trans hw ab;replace H:=H.ext ab;replace nN:=nN.ext ab;clear ab;rotate_right))|refine SW.st (ao rfl (H.c8.cell (i:=0) (v := .slice (some ⟨k.g,0,none⟩) 2 k.c) rfl)) rfl ?_|refine SW.st (aW rfl rfl fz) rfl ?_|refine SW.st (aH hw rfl rfl fz) rfl ?_|refine SW.st (aW rfl rfl ((fun _ _=>H.c8.cell))) rfl ?_|(refine SW.call rfl rfl (cP _ hw) ?_;intro v w1 ab hv;subst hv;replace hw:=Ext.trans hw ab;replace H:=H.ext ab;replace nN:=nN.ext ab;clear ab)|refine SW.br rfl rfl (fun w1 ab=>(cH _ (Ext.trans hw ab))) ?_|(refine SW.st (eW (r:=pw o) rfl rfl (by omega) (by omega) (by simp [pw]) (by omega) (by omega)) rfl ?_)|exact SW.bx rfl)
  refine SW.call rfl rfl (CU uz z o t _ nN.rd q1 q2 ⟨by omega,by omega⟩ ⟨by omega,by omega⟩ (hO.ext hw)) fun v w4 aj hv => ?_
  obtain ⟨u,hT,r',rfl,uc⟩:=hv;replace uc:=uc.low hw.size;(replace hw:=Ext.trans hw aj;replace H:=H.ext aj);refine Wz ?_;refine SW.alloc rfl fun OE w1 ab F6 Fl => ?_
  skip;refine SW.ak Fl rfl rfl rfl rfl (cJ r') fun w2 F7 hg => ?_
  have aj:=ab.own F6 hg;have MU:w.heap.size≤OE:=Nat.le_trans hw.size F6
  replace hw:=Ext.trans hw aj;replace H:=H.ext aj;replace uc:=uc.ext aj;replace Fl:=F7;clear F7 ab hg aj;rw [← hz] at hT;by_cases hu:u.2.2=0
  ·refine Wz ?_;refine CW.iS 7 7 (fun _=>True) mixed (by kernel_rfl) fun w1 ab aG => ?_
   replace hw:=Ext.trans hw ab;replace H:=H.ext ab;replace uc:=uc.ext ab;replace Fl:=Fl.ext ab;clear ab;refine Wf ?_;refine SF.take 3 [] [] aG rfl (by kernel_rfl) (by kernel_rfl) (by kernel_rfl) ?_;repeat ((show SW _ _ _ _ (⟨_,Op.load _ _,_,_,_,none⟩::_) _ _;refine SW.st (ao rfl (H.c8.cell (i:=0) (v := .slice (some ⟨k.g,0,none⟩) 2 k.c) rfl)) rfl ?_))
   refine SW.ah ?_;refine Wf ?_;refine SF.last rfl (by kernel_rfl) (by kernel_rfl) ?_;refine SW.ik (enc:=bp) zi r' H.zs.row rfl rfl iP fun w5 DH hg => ?_
   rw [H.zs.own] at hg;have H5:=HS.BN H0 H iP DH hg uc;have hK:k9 w k p w5 (ku p zi r'):=((k9.refl w k p).ext hw).step hg (fun i e=>by cases e;exact .inl (.inr (.inl rfl))) (fun i e => .inl (qE.1 e))
   refine Wz ?_;exact ae.cx rfl rfl rfl ⟨_,rfl,_,.ok hE hT hu,rfl,_,H5,hK⟩
  ·refine Wz ?_;exact ae.cx rfl rfl rfl ⟨_,rfl,_,.none hE hT hu,rfl,_,H,(k9.refl w k p).ext hw⟩
 ·have hE : ¬ dv m0 m1 s zi o f:=by unfold dv;rw [yu,hz];exact he
  repeat' (first|refine Wz ?_|((apply CW.aP mixed;(· kernel_rfl);rotate_left;intro w1 ab;replace hw:=Ext.trans hw ab;replace H:=H.ext ab;replace nN:=nN.ext ab;clear ab;rotate_right))|refine SW.st (ao rfl (H.c8.cell (i:=0) (v := .slice (some ⟨k.g,0,none⟩) 2 k.c) rfl)) rfl ?_|refine SW.st (aW rfl rfl fz) rfl ?_|refine SW.st (aW rfl rfl ((fun _ _=>H.c8.cell))) rfl ?_|(refine SW.call rfl rfl (cP _ hw) ?_;intro v w1 ab hv;subst hv;replace hw:=Ext.trans hw ab;replace H:=H.ext ab;replace nN:=nN.ext ab;clear ab)|refine SW.br rfl rfl (fun w1 ab=>(cH _ (Ext.trans hw ab))) ?_|(refine SW.st (eW (r:=pw o) rfl rfl (by omega) (by omega) (by simp [pw]) (by omega) (by omega)) rfl ?_)|exact SW.bx rfl)
  exact ae.cx rfl rfl rfl ⟨_,rfl,_,.jU hE,rfl,_,H,(k9.refl w k p).ext hw⟩
end Go.Proofs.YtbidkghlpijecaaGreatDoor
