/-
  Texts of the claim KmemNew, part 15: what its theorem leans on.
-/
import Derived.Test.YtbidkghlpijecaaGreatDoorPackKmemNew12
import Derived.Test.YtbidkghlpijecaaGreatDoorPackKmemNew14
import Derived.Test.YtbidkghlpijecaaGreatDoorPackKmemNew11
set_option linter.unusedVariables false
set_option linter.unusedSimpArgs false
namespace Go.Proofs.YtbidkghlpijecaaGreatDoor
def hasN (n:ByteArray) (c:KCache) : Bool:=hasS c.Names n
def sizeN (z:Int) (c:KCache) : Bool:=decide (c.Size=z)
def KSystem.zero:KSystem:=⟨[],.zero,[]⟩
def posS (l:List ByteArray) (n:ByteArray) : Nat:=(l.takeWhile fun m=>lessS m n).length
theorem posS_le (l:List ByteArray) (n:ByteArray) : posS l n≤l.length:=by
 unfold posS
 exact (List.takeWhile_sublist _).length_le
theorem posS_lt {l:List ByteArray} {n:ByteArray} {j:Nat} (h:j<posS l n) (hj:j<l.length) : lessS l[j] n=true:=by
 unfold posS at h
 have h1:(l.takeWhile fun m=>lessS m n)[j]=l[j]:=List.IsPrefix.getElem (List.takeWhile_prefix _) h
 rw [← h1]
 have:=List.all_takeWhile (p:=fun m=>lessS m n) (l:=l)
 rw [List.all_eq_true] at this
 exact this _ (List.getElem_mem h)
theorem posS_at {l:List ByteArray} {n:ByteArray} (h:posS l n<l.length) : lessS l[posS l n] n=false:=by
 induction l with
 | nil=>simp at h
 | cons a r ih =>
   unfold posS at h ih ⊢
   by_cases e:lessS a n=true
   ·simp only [List.takeWhile_cons,e,if_true,List.length_cons] at h ih ⊢
    simp only [List.getElem_cons_succ]
    exact ih (by omega)
   ·have e':lessS a n=false:=by simpa using e
    simp [e']
theorem posS_uniq {l:List ByteArray} {n:ByteArray} {k:Nat} (hk:k≤l.length) (h1:∀ j (hj:j<l.length),j<k→lessS l[j] n=true) (h2:∀ h:k<l.length,lessS l[k] n=false) : posS l n=k:=by
 rcases Nat.lt_trichotomy (posS l n) k with h|h|h
 ·have:=h1 (posS l n) (by omega) h
  rw [posS_at (by omega)] at this
  cases this
 ·exact h
 ·have:=posS_lt h (by have:=posS_le l n;omega)
  rw [h2 (by have:=posS_le l n;omega)] at this
  cases this
def Sorted (l:List ByteArray) : Prop := ∀ (i j:Nat) (hi:i<l.length) (hj:j<l.length),i<j→lessS l[i] l[j]=true
theorem NamesIn.sorted {acc l:List ByteArray} (h:NamesIn acc l) : Sorted l:=by
 have:∀ (d i:Nat) (hi:i<l.length) (hj:i+d+1<l.length),lessS l[i] l[i+d+1]=true:=by
  intro d
  induction d with
  | zero=>intro i hi hj;exact (h.each (i+1) hj).2.2 (by omega)
  | succ d ih =>
    intro i hi hj
    exact lessS_trans (ih i hi (by omega)) ((h.each (i+(d+1)+1) hj).2.2 (by omega))
 intro i j hi hj hij
 obtain ⟨d,rfl⟩ : ∃ d,j=i+d+1:=⟨j-i-1,by omega⟩
 exact this d i hi hj
def upTo (size align:Int) : Int:=(size+align-1) / align*align
def alignOk (a:Int) : Prop:=a=1∨a=2∨a=4∨a=8
theorem upTo_ok {size align:Int} (ha:alignOk align) (h : 1≤size∧size≤64) : size≤upTo size align∧upTo size align<size+align∧upTo size align % align=0∧upTo size align≤64:=by
 unfold upTo
 rcases ha with rfl|rfl|rfl|rfl<;>omega
theorem upTo_uniq {size align z:Int} (ha:alignOk align) (h : 1≤size∧size≤64) (h1:size≤z) (h2:z % align=0) (h3:∀ y,size≤y→y<z→y % align≠0) : z=upTo size align:=by
 have ⟨a1,a2,a3,a4⟩:=upTo_ok ha h
 rcases (show z<upTo size align∨z=upTo size align∨upTo size align<z by omega) with g|g|g
 ·exfalso
  unfold upTo at g
  rcases ha with rfl|rfl|rfl|rfl<;>omega
 ·exact g
 ·exact absurd a3 (h3 _ a1 g)
def newCache (s:KSystem) (n:ByteArray) (z:Int) : KCache:=⟨[n],z,(layoutF z).2.1,(layoutF z).1,[],List.replicate s.Heap.Cpus.toNat (-1)⟩
def withName (c:KCache) (n:ByteArray) : KCache:=⟨insAt c.Names (posS c.Names n) n,c.Size,c.Per,c.Order,c.Slabs,c.Active⟩
theorem CacheIn.names_len {s:KSystem} {i:Nat} {hi:i<s.Caches.length} (h:CacheIn s i hi) (hH:HeapMay s.Heap) (hI:∀ (j:Nat) (h:j<s.Caches.length),CacheIn s j h) : s.Caches[i].Names.length≤3512479453921:=by
 have h1:=ahead_ok hH i (by omega) (fun j hj _=>hI j hj)
 have h2:=nodup_step (l:=s.Caches[i].Names) h1.1.1 s.Caches[i].Names.length (fun k hk _=>(h.names.each k hk).2.1)
 rw [List.take_length] at h2
 refine names_count (List.nodup_append.1 h2).2.1 fun n hn => ?_
 obtain ⟨k,hk,rfl⟩:=List.getElem_of_mem hn
 exact (h.names.each k hk).1
inductive CreR (s:KSystem) (n:ByteArray) (size align:Int) : KSystem×Int→Prop where
 | bad (h:sysB s=false) : CreR s n size align (.zero,8)
 | form (h:sysB s=true) (hn : ¬ (nameB n=true∧alignOk align)) : CreR s n size align (.zero,3)
 | range (h:sysB s=true) (hn:nameB n=true∧alignOk align) (hs : ¬ (1≤size∧size≤64)) : CreR s n size align (.zero,1)
 | twice (h:sysB s=true) (hn:nameB n=true∧alignOk align) (hs : 1≤size∧size≤64) (ht:s.Caches.any (hasN n)=true) : CreR s n size align (.zero,5)
 | old {i:Nat} (h:sysB s=true) (hn:nameB n=true∧alignOk align) (hs : 1≤size∧size≤64) (ht:s.Caches.any (hasN n)=false) (hi:i<s.Caches.length) (hz:s.Caches[i].Size=upTo size align) (ha:∀ j (hj:j<s.Caches.length),j<i→s.Caches[j].Size≠upTo size align) :
    CreR s n size align (⟨s.Words,s.Heap,s.Caches.set i (withName s.Caches[i] n)⟩,0)
 | full (h:sysB s=true) (hn:nameB n=true∧alignOk align) (hs : 1≤size∧size≤64) (ht:s.Caches.any (hasN n)=false) (hz:∀ j (hj:j<s.Caches.length),s.Caches[j].Size≠upTo size align) (hc:s.Caches.length=20) : CreR s n size align (.zero,9)
 | new (h:sysB s=true) (hn:nameB n=true∧alignOk align) (hs : 1≤size∧size≤64) (ht:s.Caches.any (hasN n)=false) (hz:∀ j (hj:j<s.Caches.length),s.Caches[j].Size≠upTo size align) (hc:s.Caches.length<20) :
    CreR s n size align (⟨s.Words,s.Heap,s.Caches++[newCache s n (upTo size align)]⟩,0)
theorem CreR.det {s:KSystem} {n:ByteArray} {size align:Int} {u v:KSystem×Int} (a:CreR s n size align u) (b:CreR s n size align v) : u=v:=by
 cases a with
 | bad h=>cases b with
   | bad=>rfl
   | form h'|range h'|twice h'|old h'|full h'|new h'=>rw [h] at h';cases h'
 | form h hn=>cases b with
   | bad h'=>rw [h] at h';cases h'
   | form=>rfl
   | range _ h'|twice _ h'|old _ h'|full _ h'|new _ h'=>exact absurd h' hn
 | range h hn hs=>cases b with
   | bad h'=>rw [h] at h';cases h'
   | form _ h'=>exact absurd hn h'
   | range=>rfl
   | twice _ _ h'|old _ _ h'|full _ _ h'|new _ _ h'=>exact absurd h' hs
 | twice h hn hs ht=>cases b with
   | bad h'=>rw [h] at h';cases h'
   | form _ h'=>exact absurd hn h'
   | range _ _ h'=>exact absurd hs h'
   | twice=>rfl
   | old _ _ _ h'|full _ _ _ h'|new _ _ _ h'=>rw [ht] at h';cases h'
 | @old i h hn hs ht hi hz ha=>cases b with
   | bad h'=>rw [h] at h';cases h'
   | form _ h'=>exact absurd hn h'
   | range _ _ h'=>exact absurd hs h'
   | twice _ _ _ h'=>rw [ht] at h';cases h'
   | @old j _ _ _ _ hj hz' ha' =>
     rcases Nat.lt_trichotomy i j with g|g|g
     ·exact absurd hz (ha' i hi g)
     ·subst g;rfl
     ·exact absurd hz' (ha j hj g)
   | full _ _ _ _ h'|new _ _ _ _ h'=>exact absurd hz (h' i hi)
 | full h hn hs ht hz hc=>cases b with
   | bad h'=>rw [h] at h';cases h'
   | form _ h'=>exact absurd hn h'
   | range _ _ h'=>exact absurd hs h'
   | twice _ _ _ h'=>rw [ht] at h';cases h'
   | old _ _ _ _ hi h'=>exact absurd h' (hz _ hi)
   | full=>rfl
   | new _ _ _ _ _ h'=>omega
 | new h hn hs ht hz hc=>cases b with
   | bad h'=>rw [h] at h';cases h'
   | form _ h'=>exact absurd hn h'
   | range _ _ h'=>exact absurd hs h'
   | twice _ _ _ h'=>rw [ht] at h';cases h'
   | old _ _ _ _ hi h'=>exact absurd h' (hz _ hi)
   | full _ _ _ _ _ h'=>omega
   | new=>rfl
def SysOut (lo:Nat) (u:KSystem×Int) (v:Value) (w:World) : Prop := ∃ q,v = .tuple #[.agg (encSys q).toArray,.int .i64 u.2]∧OwnS w lo q u.1
theorem SysOut.zero (e:Int) (lo:Nat) (w:World) : SysOut lo (.zero,e) (.tuple #[.agg (encSys .zero).toArray,.int .i64 e]) w :=
 ⟨.zero,rfl,Own.nil_ _ _ _ _ _ _,OwnH.zero w lo,⟨[],OwnCs.nil _ _⟩⟩
theorem Heap.zero_small:Heap.zero.small:=by constructor<;>simp [Heap.zero]
theorem KSystem.zero_small:KSystem.zero.small:=⟨by simp [KSystem.zero],Heap.zero_small,by simp [KSystem.zero],by simp [KSystem.zero]⟩
theorem CreR.small {s:KSystem} {n:ByteArray} {size align:Int} {u:KSystem×Int} (a:CreR s n size align u) (hs:s.small) : u.1.small:=by
 cases a with
 | bad|form|range|twice|full=>exact KSystem.zero_small
 | @old i h hn hs' ht hi hz ha =>
   have hM:=sysB_iff.1 h
   have hc:=hs.each _ (List.getElem_mem hi)
   refine ⟨hs.words,hs.heap,by simp only [List.length_set];exact hs.caches,fun c hm => ?_⟩
   rcases List.mem_or_eq_of_mem_set hm with hm|rfl
   ·exact hs.each c hm
   ·have hl:=(hM.each i hi).names_len hM.heap (fun j h=>hM.each j h)
    refine ⟨?_,hc.slabs,hc.active⟩
    simp only [withName]
    rw [length_insAt _ (posS_le _ _)]
    omega
 | new h hn hs' ht hz hc =>
   have hM:=sysB_iff.1 h
   refine ⟨hs.words,hs.heap,by simp only [List.length_append,List.length_singleton];omega,fun c hm => ?_⟩
   rcases List.mem_append.1 hm with hm|hm
   ·exact hs.each c hm
   ·simp only [List.mem_singleton] at hm
    subst hm
    have:=hM.heap.cpus
    refine ⟨by simp [newCache],by simp [newCache],?_⟩
    simp only [newCache,List.length_replicate]
    omega
open Go.RowKit
theorem liveOrder_ans (r:HRow) (l:List Block) (a:Int) (w:World) (hl:Sl w 3 encBk r.Live.A r.Live.n l) (hu:l.Pairwise fun x y=>x.At<y.At) (hn:r.Live.n≤1000000000000000000) :
 Ans Tryz.prog 123 [.agg (encH r).toArray,.int .i64 a] w fun v _=>v = .int .i64 (ordA l a):=by
 refine ans_of Tryz.func123 rfl Tryz.ntmps123 rfl ?_
 refine CW.seq (CW.region (SW.box rfl rfl fun b2 w1 hw hb2b hb2 => ?_))
 have hll:=hl.len
 repeat' (first|(first|refine CW.seq ?_|refine CW.region ?_|refine CW.block ?_)|(refine Post.seq ?_)|refine SW.nil ?_|refine SW.pure rfl rfl ?_)
 refine CW.loop (fun k:Nat=>[(1,.int .i64 a),(2,.pointer (some ⟨b2,0,none⟩)),(5,.int .i64 (k:Int))]) (fun k w'=>k≤r.Live.n∧Ext w w'∧Blk w' b2 41 (encH r) ∧ ∀ (i:Nat) (h:i<l.length),i<k→l[i].At≠a) (fun k=>r.Live.n-k) 0
  ⟨rfl,rfl,rfl,trivial⟩ ⟨by omega,hw,hb2,fun i h h'=>by omega⟩ ?_
 clear hw hb2
 rintro k w' ⟨hk,hw,hb2,hI⟩
 have hA:=hl.base
 by_cases hkn:k<r.Live.n
 ·have hkl:k<l.length:=by omega
  have g0:=hl.fld hkn (j:=0) (u := .int .i64 l[k].At) rfl
  have g1:=hl.fld hkn (j:=1) (u := .int .i64 l[k].Order) rfl
  by_cases hx:l[k].At=a
  ·obtain ⟨e1,e2⟩:=found_uniq hu hkl hx
   have e3:=ordA_t e2 (by omega)
   simp only [e1] at e3
   rw [e3]
   repeat' (first|(first|refine CW.seq ?_|refine CW.region ?_|refine CW.block ?_|refine CW.condd_t rfl (by omega) ?_|refine CW.skip ?_|refine CW.ret ?_)|(first|refine Post.seq ?_|refine Post.seq_ret ?_|refine Post.blk_ret ?_|refine Post.again_ret ?_)|refine SW.nil ?_|refine SW.pure rfl rfl ?_|(show SW _ _ _ _ (⟨_,Op.fieldAddr _ _ _,_,_,_,none⟩::_) _ _;refine SW.st (st_field rfl) rfl ?_)|(show SW _ _ _ _ (⟨_,Op.indexAddr _ _ _,_,_,_,none⟩::_) _ _;refine SW.st (st_indexN rfl rfl (by assumption) (by omega)) rfl ?_)|(show SW _ _ _ _ (⟨_,Op.call ⟨.builtin .len,_,_⟩,_,_,_,none⟩::_) _ _;refine SW.st (st_len rfl) rfl ?_)|(show SW _ _ _ _ (⟨_,Op.load _ _,_,_,_,none⟩::_) _ _;first|refine SW.st (st_load rfl (hb2.cell (i:=4) (v := .slice r.Live.A r.Live.n r.Live.c) rfl)) rfl ?_|refine SW.st (st_loadx hw rfl g0) rfl ?_|refine SW.st (st_loadx hw rfl g1) rfl ?_))
   exact Post.ret1 rfl rfl ⟨_,rfl,hw,rfl⟩
  ·repeat' (first|(first|refine CW.seq ?_|refine CW.region ?_|refine CW.block ?_|refine CW.condd_t rfl (by omega) ?_|refine CW.condd_f rfl (by omega) ?_|refine CW.skip ?_)|(first|refine Post.seq ?_|refine Post.blk ?_)|refine SW.nil ?_|refine SW.pure rfl rfl ?_|(show SW _ _ _ _ (⟨_,Op.fieldAddr _ _ _,_,_,_,none⟩::_) _ _;refine SW.st (st_field rfl) rfl ?_)|(show SW _ _ _ _ (⟨_,Op.binOp _ _ _ _ _,_,_,_,none⟩::_) _ _;refine SW.st (st_add rfl rfl (by omega) (by omega)) rfl ?_)|(show SW _ _ _ _ (⟨_,Op.indexAddr _ _ _,_,_,_,none⟩::_) _ _;refine SW.st (st_indexN rfl rfl (by assumption) (by omega)) rfl ?_)|(show SW _ _ _ _ (⟨_,Op.call ⟨.builtin .len,_,_⟩,_,_,_,none⟩::_) _ _;refine SW.st (st_len rfl) rfl ?_)|(show SW _ _ _ _ (⟨_,Op.load _ _,_,_,_,none⟩::_) _ _;first|refine SW.st (st_load rfl (hb2.cell (i:=4) (v := .slice r.Live.A r.Live.n r.Live.c) rfl)) rfl ?_|refine SW.st (st_loadx hw rfl g0) rfl ?_))
   exact Post.again (k+1) ⟨rfl,rfl,rfl,trivial⟩ (by omega) ⟨by omega,hw,hb2,fun i h h'=>by
    by_cases e:i=k
    ·subst e;exact hx
    ·exact hI i h (by omega)⟩
 ·rw [ordA_f (found_none fun i h=>hI i h (by omega))]
  repeat' (first|(first|refine CW.seq ?_|refine CW.region ?_|refine CW.condd_f rfl (by omega) ?_|refine CW.ret ?_|refine CW.exit ?_)|(first|refine Post.seq ?_|refine Post.seq_exit ?_|refine Post.hit ?_|refine Post.again_exit ?_)|refine SW.nil ?_|refine SW.pure rfl rfl ?_|(show SW _ _ _ _ (⟨_,Op.fieldAddr _ _ _,_,_,_,none⟩::_) _ _;refine SW.st (st_field rfl) rfl ?_)|(show SW _ _ _ _ (⟨_,Op.call ⟨.builtin .len,_,_⟩,_,_,_,none⟩::_) _ _;refine SW.st (st_len rfl) rfl ?_)|(show SW _ _ _ _ (⟨_,Op.load _ _,_,_,_,none⟩::_) _ _;refine SW.st (st_load rfl (hb2.cell (i:=4) (v := .slice r.Live.A r.Live.n r.Live.c) rfl)) rfl ?_))
  exact Post.ret1 rfl rfl ⟨_,rfl,hw,rfl⟩
theorem slabAt_ans (q:CRow) (l:List Slab) (t:Int) (w:World) (hl:Sl w 3 encSb q.Slabs.A q.Slabs.n l) (hn:q.Slabs.n≤1000000000000000000) :
 Ans Tryz.prog 200 [.agg (encC q).toArray,.int .i64 t] w fun v _=>v = .int .i64 (idxOf (atB t) l):=by
 refine ans_of Tryz.func200 rfl Tryz.ntmps200 rfl ?_
 refine CW.seq (CW.region (SW.box rfl rfl fun b2 w1 hw hb2b hb2 => ?_))
 have hll:=hl.len
 repeat' (first|(first|refine CW.seq ?_|refine CW.region ?_|refine CW.block ?_)|(refine Post.seq ?_)|refine SW.nil ?_|refine SW.pure rfl rfl ?_)
 refine CW.loop (fun k:Nat=>[(1,.int .i64 t),(2,.pointer (some ⟨b2,0,none⟩)),(5,.int .i64 (k:Int))]) (fun k w'=>k≤q.Slabs.n∧Ext w w'∧Blk w' b2 89 (encC q) ∧ ∀ (i:Nat) (h:i<l.length),i<k→atB t l[i]=false) (fun k=>q.Slabs.n-k) 0
  ⟨rfl,rfl,rfl,trivial⟩ ⟨by omega,hw,hb2,fun i h h'=>by omega⟩ ?_
 clear hw hb2
 rintro k w' ⟨hk,hw,hb2,hI⟩
 have hA:=hl.base
 by_cases hkn:k<q.Slabs.n
 ·have hkl:k<l.length:=by omega
  have g0:=hl.fld hkn (j:=0) (u := .int .i64 l[k].At) rfl
  by_cases hx:l[k].At=t
  ·rw [idxOf_hit hkl (show atB t l[k]=true from decide_eq_true hx) (fun j hj h=>hI j hj h)]
   repeat' (first|(first|refine CW.seq ?_|refine CW.region ?_|refine CW.block ?_|refine CW.condd_t rfl (by omega) ?_|refine CW.skip ?_|refine CW.ret ?_)|(first|refine Post.seq ?_|refine Post.seq_ret ?_|refine Post.blk_ret ?_|refine Post.again_ret ?_)|refine SW.nil ?_|refine SW.pure rfl rfl ?_|(show SW _ _ _ _ (⟨_,Op.fieldAddr _ _ _,_,_,_,none⟩::_) _ _;refine SW.st (st_field rfl) rfl ?_)|(show SW _ _ _ _ (⟨_,Op.indexAddr _ _ _,_,_,_,none⟩::_) _ _;refine SW.st (st_indexN rfl rfl (by assumption) (by omega)) rfl ?_)|(show SW _ _ _ _ (⟨_,Op.call ⟨.builtin .len,_,_⟩,_,_,_,none⟩::_) _ _;refine SW.st (st_len rfl) rfl ?_)|(show SW _ _ _ _ (⟨_,Op.load _ _,_,_,_,none⟩::_) _ _;first|refine SW.st (st_load rfl (hb2.cell (i:=4) (v := .slice q.Slabs.A q.Slabs.n q.Slabs.c) rfl)) rfl ?_|refine SW.st (st_loadx hw rfl g0) rfl ?_))
   exact Post.ret1 rfl rfl ⟨_,rfl,hw,rfl⟩
  ·repeat' (first|(first|refine CW.seq ?_|refine CW.region ?_|refine CW.block ?_|refine CW.condd_t rfl (by omega) ?_|refine CW.condd_f rfl (by omega) ?_|refine CW.skip ?_)|(first|refine Post.seq ?_|refine Post.blk ?_)|refine SW.nil ?_|refine SW.pure rfl rfl ?_|(show SW _ _ _ _ (⟨_,Op.fieldAddr _ _ _,_,_,_,none⟩::_) _ _;refine SW.st (st_field rfl) rfl ?_)|(show SW _ _ _ _ (⟨_,Op.binOp _ _ _ _ _,_,_,_,none⟩::_) _ _;refine SW.st (st_add rfl rfl (by omega) (by omega)) rfl ?_)|(show SW _ _ _ _ (⟨_,Op.indexAddr _ _ _,_,_,_,none⟩::_) _ _;refine SW.st (st_indexN rfl rfl (by assumption) (by omega)) rfl ?_)|(show SW _ _ _ _ (⟨_,Op.call ⟨.builtin .len,_,_⟩,_,_,_,none⟩::_) _ _;refine SW.st (st_len rfl) rfl ?_)|(show SW _ _ _ _ (⟨_,Op.load _ _,_,_,_,none⟩::_) _ _;first|refine SW.st (st_load rfl (hb2.cell (i:=4) (v := .slice q.Slabs.A q.Slabs.n q.Slabs.c) rfl)) rfl ?_|refine SW.st (st_loadx hw rfl g0) rfl ?_))
   exact Post.again (k+1) ⟨rfl,rfl,rfl,trivial⟩ (by omega) ⟨by omega,hw,hb2,fun i h h'=>by
    by_cases e:i=k
    ·subst e;exact decide_eq_false hx
    ·exact hI i h (by omega)⟩
 ·rw [(idxOf_none fun i h=>hI i h (by omega)).1]
  repeat' (first|(first|refine CW.seq ?_|refine CW.region ?_|refine CW.condd_f rfl (by omega) ?_|refine CW.ret ?_|refine CW.exit ?_)|(first|refine Post.seq ?_|refine Post.seq_exit ?_|refine Post.hit ?_|refine Post.again_exit ?_)|refine SW.nil ?_|refine SW.pure rfl rfl ?_|(show SW _ _ _ _ (⟨_,Op.fieldAddr _ _ _,_,_,_,none⟩::_) _ _;refine SW.st (st_field rfl) rfl ?_)|(show SW _ _ _ _ (⟨_,Op.call ⟨.builtin .len,_,_⟩,_,_,_,none⟩::_) _ _;refine SW.st (st_len rfl) rfl ?_)|(show SW _ _ _ _ (⟨_,Op.load _ _,_,_,_,none⟩::_) _ _;refine SW.st (st_load rfl (hb2.cell (i:=4) (v := .slice q.Slabs.A q.Slabs.n q.Slabs.c) rfl)) rfl ?_))
  exact Post.ret1 rfl rfl ⟨_,rfl,hw,rfl⟩
theorem ChainOut.bool {lo:Nat} {ws:List Int} {size per:Int} {x:Slab} {v:Value} {w:World} (h:ChainOut lo ws size per x v w) : ∃ A n c b,v = .tuple #[.slice A n c,.bool b]∧(b=true ↔ ∃ out,ChainIs ws size per x out):=by
 rcases h with ⟨out,A5,c5,hC,rfl,_,_⟩|⟨hno,rfl⟩
 ·exact ⟨_,_,_,true,rfl,by simp;exact ⟨out,hC⟩⟩
 ·exact ⟨_,_,_,false,rfl,by simp;exact hno⟩
set_option maxHeartbeats 4000000 in
theorem CacheMay_ans (r:SRow) (s:KSystem) (q:CRow) (c:KCache) (w:World) (hr:RdS w r s) (hq:RdC w q c) (hs:s.small) (hcs:c.small) (hH:HeapMay s.Heap) :
 Ans Tryz.prog 115 [.agg (encSys r).toArray,.agg (encC q).toArray] w fun v _=>v = .bool (cacheB s c):=by
 refine ans_of Tryz.func115 rfl Tryz.ntmps115 rfl ?_
 refine CW.seq (CW.region (SW.box rfl rfl fun b2 w1 hw hb2b hb2 => ?_))
 refine SW.box rfl rfl fun b3 w2 hw2 hb3b hb3 => ?_
 (replace hw:=Ext.trans hw hw2;replace hb2:=hb2.ext hw2)
 obtain ⟨o,n,e,hE⟩ : ∃ o n e,layoutF c.Size=(o,n,e):=⟨_,_,_,rfl⟩
 have eS:=hq.size
 have eP:=hq.per
 have eO:=hq.order
 have n1:=hq.names.len
 have n2:=hq.slabs.len
 have n3:=hq.active.len
 have m1:=hcs.names
 have m2:=hcs.slabs
 have m3:=hcs.active
 have eC:=hr.heap.cpus
 have wl:=hr.words.len
 have m4:=hs.words
 have hll:=hr.heap.live.len
 have m5:=hs.heap.live
 have cL:∀ w',Ans Tryz.prog 150 [.int .i64 q.Size] w' fun v _=>v = .tuple #[.int .i64 o,.int .i64 n,.int .i64 e]:=fun w'=>layout_nf (LayoutOf_ans q.Size w') (by rw [eS];exact hE)
 rcases (show ¬ (e=0∧c.Order=o∧c.Per=n∧0<c.Names.length∧(c.Active.length:Int)=s.Heap.Cpus)∨(e=0∧c.Order=o∧c.Per=n∧0<c.Names.length∧(c.Active.length:Int)=s.Heap.Cpus) by omega) with hbad|⟨h1,h2,h3,h4,h5⟩
 ·have hF:cacheB s c=false:=cacheB_f fun hm=>hbad (by
   have:=hm.lay
   rw [hE] at this
   simp only [Prod.mk.injEq] at this
   exact ⟨this.2.2,this.1.symm,this.2.1.symm,hm.names,hm.active⟩)
  rw [hF]
  rcases (show e≠0∨(e=0∧c.Order≠o)∨(e=0∧c.Order=o∧c.Per≠n)∨(e=0∧c.Order=o∧c.Per=n∧c.Names.length=0)∨(e=0∧c.Order=o∧c.Per=n∧0<c.Names.length∧(c.Active.length:Int)≠s.Heap.Cpus) by omega) with g|g|g|g|g
  all_goals
   repeat' (first|(first|refine CW.seq ?_|refine CW.region ?_|refine CW.condtr rfl (by with_reducible rfl) ?_|refine CW.condn_t rfl (by omega) ?_|refine CW.ret ?_)|(first|refine Post.seq ?_|refine Post.seq_ret ?_)|refine SW.nil ?_|(show SW _ _ _ _ (⟨_,_,_,_,_,some _⟩::_) _ _;first|refine SW.want_f rfl rfl (by with_reducible rfl) ?_|refine SW.skip_f rfl rfl (by with_reducible rfl) rfl ?_|refine SW.splitd_t rfl rfl rfl (by omega) ?_|refine SW.splitd_f rfl rfl rfl (by omega) ?_|refine SW.splitn_t rfl rfl rfl (by omega) ?_|refine SW.splitn_f rfl rfl rfl (by omega) ?_)|refine SW.pure rfl rfl ?_|(show SW _ _ _ _ (⟨_,Op.fieldAddr _ _ _,_,_,_,none⟩::_) _ _;refine SW.st (st_field rfl) rfl ?_)|(show SW _ _ _ _ (⟨_,Op.call ⟨.builtin .len,_,_⟩,_,_,_,none⟩::_) _ _;refine SW.st (st_len rfl) rfl ?_)|(show SW _ _ _ _ (⟨_,Op.load _ _,_,_,_,none⟩::_) _ _;first|refine SW.st (st_load rfl (hb3.cell rfl)) rfl ?_|refine SW.st (st_load rfl (hb2.cell (i:=3) (v := .int .i64 r.Heap.Cpus) rfl)) rfl ?_)|(show SW _ _ _ _ (⟨_,Op.call ⟨.value (.func _),_,_⟩,_,_,_,none⟩::_) _ _;(refine SW.call rfl rfl (cL _) ?_;intro v w1 hw1 hv;subst hv;replace hw:=Ext.trans hw hw1;replace hb2:=hb2.ext hw1;replace hb3:=hb3.ext hw1;clear hw1)))
   all_goals first|(exfalso;omega)|skip
   exact Post.ret1 rfl rfl ⟨_,rfl,hw,rfl⟩
 ·subst h1
  have hlay:layoutF c.Size=(c.Order,c.Per,0):=by rw [hE,h2,h3]
  obtain ⟨l1,l2,l3⟩:=layoutF_ok hE
  have hlt:=live_lt hH.live
  have hLb:∀ b∈s.Heap.Live,0≤b.At∧b.At≤255:=fun b hb=>by
   obtain ⟨i,hi,rfl⟩:=List.getElem_of_mem hb
   exact (hH.live.each i hi).2.1
  repeat' (first|(first|refine CW.seq ?_|refine CW.region ?_|refine CW.block ?_|refine CW.condn_f rfl (by omega) ?_|refine CW.skip ?_)|(refine Post.seq ?_)|refine SW.nil ?_|(show SW _ _ _ _ (⟨_,_,_,_,_,some _⟩::_) _ _;first|refine SW.want_f rfl rfl (by with_reducible rfl) ?_|refine SW.splitd_f rfl rfl rfl (by omega) ?_|refine SW.splitn_f rfl rfl rfl (by omega) ?_)|refine SW.pure rfl rfl ?_|(show SW _ _ _ _ (⟨_,Op.fieldAddr _ _ _,_,_,_,none⟩::_) _ _;refine SW.st (st_field rfl) rfl ?_)|(show SW _ _ _ _ (⟨_,Op.call ⟨.builtin .len,_,_⟩,_,_,_,none⟩::_) _ _;refine SW.st (st_len rfl) rfl ?_)|(show SW _ _ _ _ (⟨_,Op.load _ _,_,_,_,none⟩::_) _ _;first|refine SW.st (st_load rfl (hb3.cell rfl)) rfl ?_|refine SW.st (st_load rfl (hb2.cell (i:=3) (v := .int .i64 r.Heap.Cpus) rfl)) rfl ?_)|(show SW _ _ _ _ (⟨_,Op.call ⟨.value (.func _),_,_⟩,_,_,_,none⟩::_) _ _;(refine SW.call rfl rfl (cL _) ?_;intro v w1 hw1 hv;subst hv;replace hw:=Ext.trans hw hw1;replace hb2:=hb2.ext hw1;replace hb3:=hb3.ext hw1;clear hw1)))
  all_goals first|(exfalso;omega)|skip
  clear cL
  refine CW.loop (fun k:Nat=>[(2,.pointer (some ⟨b2,0,none⟩)),(3,.pointer (some ⟨b3,0,none⟩)),(5,.int .i64 o),(8,.int .i64 (k:Int))])
   (fun k w'=>k≤q.Slabs.n∧Ext w w'∧Blk w' b2 44 (encSys r)∧Blk w' b3 89 (encC q) ∧ ∀ (i:Nat) (h:i<c.Slabs.length),i<k→SlabMay s c i h) (fun k=>q.Slabs.n-k) 0
   ⟨rfl,rfl,rfl,rfl,trivial⟩ ⟨by omega,hw,hb2,hb3,fun i h h'=>by omega⟩ ?_
  clear hw hb2 hb3
  rintro k w' ⟨hk,hw,hb2,hb3,hI⟩
  have hA:=hq.slabs.base
  by_cases hkn:k<q.Slabs.n
  ·have hkl:k<c.Slabs.length:=by omega
   have g0:=hq.slabs.fld hkn (j:=0) (u := .int .i64 c.Slabs[k].At) rfl
   obtain ⟨z,hz⟩ : ∃ z,ordA s.Heap.Live c.Slabs[k].At=z:=⟨_,rfl⟩
   have cO:∀ w',Ext w w'→Ans Tryz.prog 123 [.agg (encH r.Heap).toArray,.int .i64 c.Slabs[k].At] w' fun v _=>v = .int .i64 z:=fun w' hx=>by
    have:=liveOrder_ans r.Heap s.Heap.Live c.Slabs[k].At w' (hr.heap.live.ext hx) hlt (by omega)
    rwa [hz] at this
   by_cases hord:z=o
   ·have hfo:foundA s.Heap.Live c.Slabs[k].At=true:=by
     cases hfo:foundA s.Heap.Live c.Slabs[k].At
     ·rw [ordA_f hfo] at hz
      omega
     ·rfl
    obtain ⟨hm0,hma⟩:=found_at hfo
    have ht : 0≤c.Slabs[k].At∧c.Slabs[k].At≤255:=by
     have:=hLb _ (List.getElem_mem hm0)
     omega
    have hS : 1≤q.Size∧q.Size≤64:=by omega
    have hP : 1≤q.Per∧q.Per≤64:=by omega
    by_cases hnx : 0<k→(c.Slabs[k-1]'(by omega)).At<c.Slabs[k].At
    ·rcases Nat.eq_zero_or_pos k with hk0|hk0
     all_goals
      first
      | (have gP:=hq.slabs.fld (show k-1<q.Slabs.n by omega) (j:=0) (u := .int .i64 (c.Slabs[k-1]'(by omega)).At) rfl
         have hlt':=hnx hk0)
      | skip
     all_goals
      repeat' (first|(first|refine CW.seq ?_|refine CW.region ?_|refine CW.block ?_|refine CW.condd_t rfl (by omega) ?_|refine CW.skip ?_)|(refine Post.seq ?_)|refine SW.nil ?_|refine SW.pure rfl rfl ?_|(show SW _ _ _ _ (⟨_,Op.fieldAddr _ _ _,_,_,_,none⟩::_) _ _;refine SW.st (st_field rfl) rfl ?_)|(show SW _ _ _ _ (⟨_,Op.call ⟨.builtin .len,_,_⟩,_,_,_,none⟩::_) _ _;refine SW.st (st_len rfl) rfl ?_)|(show SW _ _ _ _ (⟨_,Op.load _ _,_,_,_,none⟩::_) _ _;refine SW.st (st_load rfl (hb3.cell rfl)) rfl ?_))
      (apply CW.quiet1 mixed;(· kernel_rfl);rotate_left;intro w1 hw1;replace hw:=Ext.trans hw hw1;replace hb2:=hb2.ext hw1;replace hb3:=hb3.ext hw1;clear hw1;rotate_right)
      repeat' (first|(first|refine CW.seq ?_|refine CW.condfr rfl (by with_reducible rfl) ?_|refine CW.condd_f rfl (by omega) ?_|refine CW.skip ?_)|(refine Post.seq ?_)|(show SW _ _ _ _ (⟨_,_,_,_,_,some _⟩::_) _ _;first|refine SW.want_t rfl rfl (by with_reducible rfl) ?_|refine SW.want_f rfl rfl (by with_reducible rfl) ?_|refine SW.skip_t rfl rfl (by with_reducible rfl) rfl ?_|refine SW.splitd_t rfl rfl rfl (by omega) ?_|refine SW.splitd_f rfl rfl rfl (by omega) ?_|refine SW.splitn_f rfl rfl rfl (by omega) ?_)|refine SW.pure rfl rfl ?_|(show SW _ _ _ _ (⟨_,Op.fieldAddr _ _ _,_,_,_,none⟩::_) _ _;refine SW.st (st_field rfl) rfl ?_)|(show SW _ _ _ _ (⟨_,Op.binOp _ _ _ _ _,_,_,_,none⟩::_) _ _;refine SW.st (st_sub rfl rfl (by omega) (by omega)) rfl ?_)|(show SW _ _ _ _ (⟨_,Op.indexAddr _ _ _,_,_,_,none⟩::_) _ _;first|refine SW.st (st_indexN rfl rfl (by assumption) (by omega)) rfl ?_|refine SW.st (st_indexI (k-1) rfl rfl (by assumption) (by omega) (by omega)) rfl ?_)|(show SW _ _ _ _ (⟨_,Op.load _ _,_,_,_,none⟩::_) _ _;first|refine SW.st (st_loads rfl rfl ((heapIn hb2))) rfl ?_|refine SW.st (st_load rfl (hb3.cell rfl)) rfl ?_|refine SW.st (st_loadx hw rfl g0) rfl ?_|refine SW.st (st_loadx hw rfl gP) rfl ?_)|(show SW _ _ _ _ (⟨_,Op.call ⟨.value (.func _),_,_⟩,_,_,_,none⟩::_) _ _;refine SW.qcall rfl rfl (fun w1 hw1=>(cO _ (Ext.trans hw hw1))) ?_)|exact SW.qnil rfl)
      all_goals first|(exfalso;omega)|skip
      refine CW.any 12 mixed (rb_tail (by kernel_rfl)) rfl fun w1 hw1 hRB => ?_
      replace hw:=Ext.trans hw hw1;replace hb2:=hb2.ext hw1;replace hb3:=hb3.ext hw1;clear hw1
      refine SA.take 0 hRB rfl (by kernel_rfl) (by kernel_rfl) rfl ?_
      repeat ((show SW _ _ _ _ (⟨_,Op.load _ _,_,_,_,none⟩::_) _ _;refine SW.st (st_loads rfl rfl ((fun _ _=>hb2.cell))) rfl ?_))
      refine SW.tknil ?_
      refine SA.take 1 hRB rfl (by kernel_rfl) (by kernel_rfl) rfl ?_
      repeat ((show SW _ _ _ _ (⟨_,Op.load _ _,_,_,_,none⟩::_) _ _;refine SW.st (st_loads rfl rfl ((fun _ _=>hb3.cell))) rfl ?_))
      refine SW.tknil ?_
      refine SA.take 2 hRB rfl (by kernel_rfl) (by kernel_rfl) rfl ?_
      repeat ((show SW _ _ _ _ (⟨_,Op.fieldAddr _ _ _,_,_,_,none⟩::_) _ _;refine SW.st (st_field rfl) rfl ?_))
      refine SW.tknil ?_
      refine SA.take 3 hRB rfl (by kernel_rfl) (by kernel_rfl) rfl ?_
      repeat ((show SW _ _ _ _ (⟨_,Op.load _ _,_,_,_,none⟩::_) _ _;refine SW.st (st_load rfl (hb3.cell rfl)) rfl ?_))
      refine SW.tknil ?_
      refine SA.take 4 hRB rfl (by kernel_rfl) (by kernel_rfl) rfl ?_
      repeat (refine SW.pure rfl rfl ?_)
      refine SW.tknil ?_
      refine SA.take 5 hRB rfl (by kernel_rfl) (by kernel_rfl) rfl ?_
      repeat ((show SW _ _ _ _ (⟨_,Op.indexAddr _ _ _,_,_,_,none⟩::_) _ _;refine SW.st (st_indexN rfl rfl (by assumption) (by omega)) rfl ?_))
      refine SW.tknil ?_
      refine SA.take 6 hRB rfl (by kernel_rfl) (by kernel_rfl) rfl ?_
      repeat ((show SW _ _ _ _ (⟨_,Op.load _ _,_,_,_,none⟩::_) _ _;refine SW.st (st_loadsx hw rfl rfl ((hq.slabs.all hkn))) rfl ?_))
      refine SW.tknil ?_
      refine SA.one 7 rfl (by kernel_rfl) rfl ?_
      refine SW.call rfl rfl (freeIn_ans r q c.Slabs[k] s.Words _ (hr.words.ext hw) (by omega) hS hP ht) fun v w5 hXX hv5 => ?_
      (replace hw:=Ext.trans hw hXX;replace hb2:=hb2.ext hXX;replace hb3:=hb3.ext hXX)
      rw [eS,eP] at hv5
      obtain ⟨A5,n5,c5,bb,rfl,hb⟩:=ChainOut.bool hv5
      refine SW.nil (Post.sa hXX ?_)
      refine SA.take 8 hRB rfl (by kernel_rfl) (by kernel_rfl) rfl ?_
      repeat (refine SW.pure rfl rfl ?_)
      refine SW.tknil ?_
      refine SA.take 9 hRB rfl (by kernel_rfl) (by kernel_rfl) rfl ?_
      repeat (refine SW.pure rfl rfl ?_)
      refine SW.tknil ?_
      refine SA.take 10 hRB rfl (by kernel_rfl) (by kernel_rfl) rfl ?_
      repeat (refine SW.pure rfl rfl ?_)
      refine SW.tknil ?_
      refine SA.take 11 hRB rfl (by kernel_rfl) (by kernel_rfl) rfl ?_
      repeat (refine SW.pure rfl rfl ?_)
      refine SW.tknil ?_
      refine SA.done (by kernel_rfl) ?_
      cases bb
      ·rw [cacheB_f fun hm=>by simpa using hb.2 (hm.slabs k hkl).chain]
       repeat' (first|(first|refine CW.seq ?_|refine CW.region ?_|refine CW.condt rfl ?_|refine CW.ret ?_)|(first|refine Post.seq ?_|refine Post.seq_ret ?_|refine Post.blk_ret ?_|refine Post.again_ret ?_|refine Post.np ?_)|refine SW.nil ?_|refine SW.pure rfl rfl ?_)
       exact Post.ret1 rfl rfl ⟨_,rfl,hw,rfl⟩
      ·repeat' (first|(first|refine CW.seq ?_|refine CW.region ?_|refine CW.condf rfl ?_|refine CW.skip ?_)|(first|refine Post.seq ?_|refine Post.blk ?_|refine Post.np ?_)|refine SW.nil ?_|refine SW.pure rfl rfl ?_|(show SW _ _ _ _ (⟨_,Op.binOp _ _ _ _ _,_,_,_,none⟩::_) _ _;refine SW.st (st_add rfl rfl (by omega) (by omega)) rfl ?_))
       exact Post.again (k+1) ⟨rfl,rfl,rfl,rfl,trivial⟩ (by omega) ⟨by omega,hw,hb2,hb3,fun i h h'=>by
        by_cases ei:i=k
        ·subst ei;exact ⟨by omega,hnx,hb.1 rfl⟩
        ·exact hI i h (by omega)⟩
    ·have hk0 : 0<k:=by
      rcases Nat.eq_zero_or_pos k with h|h
      ·exact absurd (fun h'=>by omega) hnx
      ·exact h
     have hge : ¬ (c.Slabs[k-1]'(by omega)).At<c.Slabs[k].At:=fun h=>hnx fun _=>h
     have gP:=hq.slabs.fld (show k-1<q.Slabs.n by omega) (j:=0) (u := .int .i64 (c.Slabs[k-1]'(by omega)).At) rfl
     rw [cacheB_f fun hm=>hge ((hm.slabs k hkl).next hk0)]
     repeat' (first|(first|refine CW.seq ?_|refine CW.region ?_|refine CW.block ?_|refine CW.condd_t rfl (by omega) ?_|refine CW.skip ?_|refine CW.ret ?_|(apply CW.quiet1 mixed;(· kernel_rfl);rotate_left;intro w1 hw1;replace hw:=Ext.trans hw hw1;replace hb2:=hb2.ext hw1;replace hb3:=hb3.ext hw1;clear hw1;rotate_right))|(first|refine Post.seq ?_|refine Post.seq_ret ?_|refine Post.blk_ret ?_|refine Post.again_ret ?_)|refine SW.nil ?_|(show SW _ _ _ _ (⟨_,_,_,_,_,some _⟩::_) _ _;first|refine SW.want_t rfl rfl (by with_reducible rfl) ?_|refine SW.want_f rfl rfl (by with_reducible rfl) ?_|refine SW.splitd_t rfl rfl rfl (by omega) ?_|refine SW.splitn_f rfl rfl rfl (by omega) ?_)|refine SW.pure rfl rfl ?_|(show SW _ _ _ _ (⟨_,Op.fieldAddr _ _ _,_,_,_,none⟩::_) _ _;refine SW.st (st_field rfl) rfl ?_)|(show SW _ _ _ _ (⟨_,Op.binOp _ _ _ _ _,_,_,_,none⟩::_) _ _;refine SW.st (st_sub rfl rfl (by omega) (by omega)) rfl ?_)|(show SW _ _ _ _ (⟨_,Op.indexAddr _ _ _,_,_,_,none⟩::_) _ _;first|refine SW.st (st_indexN rfl rfl (by assumption) (by omega)) rfl ?_|refine SW.st (st_indexI (k-1) rfl rfl (by assumption) (by omega) (by omega)) rfl ?_)|(show SW _ _ _ _ (⟨_,Op.call ⟨.builtin .len,_,_⟩,_,_,_,none⟩::_) _ _;refine SW.st (st_len rfl) rfl ?_)|(show SW _ _ _ _ (⟨_,Op.load _ _,_,_,_,none⟩::_) _ _;first|refine SW.st (st_loads rfl rfl ((heapIn hb2))) rfl ?_|refine SW.st (st_load rfl (hb3.cell rfl)) rfl ?_|refine SW.st (st_loadx hw rfl g0) rfl ?_|refine SW.st (st_loadx hw rfl gP) rfl ?_)|(show SW _ _ _ _ (⟨_,Op.call ⟨.value (.func _),_,_⟩,_,_,_,none⟩::_) _ _;refine SW.qcall rfl rfl (fun w1 hw1=>(cO _ (Ext.trans hw hw1))) ?_)|exact SW.qnil rfl)
     all_goals first|(exfalso;omega)|skip
     exact Post.ret1 rfl rfl ⟨_,rfl,hw,rfl⟩
   ·rw [cacheB_f fun hm=>hord (by have:=(hm.slabs k hkl).live;omega)]
    repeat' (first|(first|refine CW.seq ?_|refine CW.region ?_|refine CW.block ?_|refine CW.condtr rfl (by with_reducible rfl) ?_|refine CW.condd_t rfl (by omega) ?_|refine CW.skip ?_|refine CW.ret ?_|(apply CW.quiet1 mixed;(· kernel_rfl);rotate_left;intro w1 hw1;replace hw:=Ext.trans hw hw1;replace hb2:=hb2.ext hw1;replace hb3:=hb3.ext hw1;clear hw1;rotate_right))|(first|refine Post.seq ?_|refine Post.seq_ret ?_|refine Post.blk_ret ?_|refine Post.again_ret ?_)|refine SW.nil ?_|(show SW _ _ _ _ (⟨_,_,_,_,_,some _⟩::_) _ _;first|refine SW.skip_f rfl rfl (by with_reducible rfl) rfl ?_|refine SW.skip_u rfl rfl (by with_reducible rfl) rfl ?_|refine SW.splitn_t rfl rfl rfl (by omega) ?_)|refine SW.pure rfl rfl ?_|(show SW _ _ _ _ (⟨_,Op.fieldAddr _ _ _,_,_,_,none⟩::_) _ _;refine SW.st (st_field rfl) rfl ?_)|(show SW _ _ _ _ (⟨_,Op.indexAddr _ _ _,_,_,_,none⟩::_) _ _;refine SW.st (st_indexN rfl rfl (by assumption) (by omega)) rfl ?_)|(show SW _ _ _ _ (⟨_,Op.call ⟨.builtin .len,_,_⟩,_,_,_,none⟩::_) _ _;refine SW.st (st_len rfl) rfl ?_)|(show SW _ _ _ _ (⟨_,Op.load _ _,_,_,_,none⟩::_) _ _;first|refine SW.st (st_loads rfl rfl ((heapIn hb2))) rfl ?_|refine SW.st (st_load rfl (hb3.cell rfl)) rfl ?_|refine SW.st (st_loadx hw rfl g0) rfl ?_)|(show SW _ _ _ _ (⟨_,Op.call ⟨.value (.func _),_,_⟩,_,_,_,none⟩::_) _ _;refine SW.qcall rfl rfl (fun w1 hw1=>(cO _ (Ext.trans hw hw1))) ?_)|exact SW.qnil rfl)
    all_goals first|(exfalso;omega)|skip
    exact Post.ret1 rfl rfl ⟨_,rfl,hw,rfl⟩
  ·have hall:∀ (i:Nat) (h:i<c.Slabs.length),SlabMay s c i h:=fun i h=>hI i h (by omega)
   repeat' (first|(first|refine CW.seq ?_|refine CW.region ?_|refine CW.block ?_|refine CW.condd_f rfl (by omega) ?_|refine CW.exit ?_)|(first|refine Post.seq ?_|refine Post.seq_exit ?_|refine Post.hit ?_|refine Post.again_exit ?_)|refine SW.nil ?_|refine SW.pure rfl rfl ?_|(show SW _ _ _ _ (⟨_,Op.fieldAddr _ _ _,_,_,_,none⟩::_) _ _;refine SW.st (st_field rfl) rfl ?_)|(show SW _ _ _ _ (⟨_,Op.call ⟨.builtin .len,_,_⟩,_,_,_,none⟩::_) _ _;refine SW.st (st_len rfl) rfl ?_)|(show SW _ _ _ _ (⟨_,Op.load _ _,_,_,_,none⟩::_) _ _;refine SW.st (st_load rfl (hb3.cell rfl)) rfl ?_))
   clear hI hkn hk hA
   refine CW.loop (fun k:Nat=>[(3,.pointer (some ⟨b3,0,none⟩)),(11,.int .i64 (k:Int))])
    (fun k w'=>k≤q.Active.n∧Ext w w'∧Blk w' b3 89 (encC q) ∧ ∀ (i:Nat) (h:i<c.Active.length),i<k→ActMay c i h) (fun k=>q.Active.n-k) 0
    ⟨rfl,rfl,trivial⟩ ⟨by omega,hw,hb3,fun i h h'=>by omega⟩ ?_
   clear hw hb3 hb2
   rintro k w' ⟨hk,hw,hb3,hI⟩
   have hA:=hq.active.base
   by_cases hkn:k<q.Active.n
   ·have hkl:k<c.Active.length:=by omega
    obtain ⟨a,ea⟩ : ∃ a,c.Active[k]=a:=⟨_,rfl⟩
    have gA:=hq.active.one hkn (u := .int .i64 a) (by rw [← ea];rfl)
    by_cases ha:a = -1
    ·repeat' (first|(first|refine CW.seq ?_|refine CW.region ?_|refine CW.block ?_|refine CW.condd_t rfl (by omega) ?_|refine CW.skip ?_|refine CW.exit ?_)|(first|refine Post.seq ?_|refine Post.seq_exit ?_|refine Post.hit ?_)|refine SW.nil ?_|refine SW.pure rfl rfl ?_|(show SW _ _ _ _ (⟨_,Op.fieldAddr _ _ _,_,_,_,none⟩::_) _ _;refine SW.st (st_field rfl) rfl ?_)|(show SW _ _ _ _ (⟨_,Op.binOp _ _ _ _ _,_,_,_,none⟩::_) _ _;refine SW.st (st_add rfl rfl (by omega) (by omega)) rfl ?_)|(show SW _ _ _ _ (⟨_,Op.indexAddr _ _ _,_,_,_,none⟩::_) _ _;refine SW.st (st_indexN rfl rfl (by assumption) (by omega)) rfl ?_)|(show SW _ _ _ _ (⟨_,Op.call ⟨.builtin .len,_,_⟩,_,_,_,none⟩::_) _ _;refine SW.st (st_len rfl) rfl ?_)|(show SW _ _ _ _ (⟨_,Op.load _ _,_,_,_,none⟩::_) _ _;first|refine SW.st (st_loadx hw rfl gA) rfl ?_|refine SW.st (st_load rfl (hb3.cell rfl)) rfl ?_))
     exact Post.again (k+1) ⟨rfl,rfl,trivial⟩ (by omega) ⟨by omega,hw,hb3,fun i h h'=>by
      by_cases ei:i=k
      ·subst ei;exact .inl (by omega)
      ·exact hI i h (by omega)⟩
    ·obtain ⟨z,hz⟩ : ∃ z,idxOf (atB a) c.Slabs=z:=⟨_,rfl⟩
     have hzi:=idxOf_ge (atB a) c.Slabs
     rw [hz] at hzi
     have cF:∀ w',Ext w w'→Ans Tryz.prog 200 [.agg (encC q).toArray,.int .i64 a] w' fun v _=>v = .int .i64 z:=fun w' hx=>by
      have:=slabAt_ans q c.Slabs a w' (hq.slabs.ext hx) (by omega)
      rwa [hz] at this
     by_cases hz0 : 0≤z
     ·repeat' (first|(first|refine CW.seq ?_|refine CW.region ?_|refine CW.block ?_|refine CW.condd_t rfl (by omega) ?_|refine CW.condd_f rfl (by omega) ?_|refine CW.skip ?_|(apply CW.quiet1 mixed;(· kernel_rfl);rotate_left;intro w1 hw1;replace hw:=Ext.trans hw hw1;replace hb3:=hb3.ext hw1;clear hw1;rotate_right))|(refine Post.seq ?_)|refine SW.nil ?_|refine SW.pure rfl rfl ?_|(show SW _ _ _ _ (⟨_,Op.fieldAddr _ _ _,_,_,_,none⟩::_) _ _;refine SW.st (st_field rfl) rfl ?_)|(show SW _ _ _ _ (⟨_,Op.indexAddr _ _ _,_,_,_,none⟩::_) _ _;refine SW.st (st_indexN rfl rfl (by assumption) (by omega)) rfl ?_)|(show SW _ _ _ _ (⟨_,Op.call ⟨.builtin .len,_,_⟩,_,_,_,none⟩::_) _ _;refine SW.st (st_len rfl) rfl ?_)|(show SW _ _ _ _ (⟨_,Op.load _ _,_,_,_,none⟩::_) _ _;first|refine SW.st (st_loadx hw rfl gA) rfl ?_|refine SW.st (st_load rfl (hb3.cell rfl)) rfl ?_|refine SW.st (st_loads rfl rfl ((fun _ _=>hb3.cell))) rfl ?_)|(show SW _ _ _ _ (⟨_,Op.call ⟨.value (.func _),_,_⟩,_,_,_,none⟩::_) _ _;refine SW.qcall rfl rfl (fun w1 hw1=>(cF _ (Ext.trans hw hw1))) ?_)|exact SW.qnil rfl)
      all_goals first|(exfalso;omega)|skip
      refine CW.loop (fun j:Nat=>[(3,.pointer (some ⟨b3,0,none⟩)),(11,.int .i64 (k:Int)),(12,.int .i64 (j:Int))])
       (fun j w'=>j≤k∧Ext w w'∧Blk w' b3 89 (encC q) ∧ ∀ (i:Nat) (h:i<c.Active.length),i<j→c.Active[i]≠a) (fun j=>k-j) 0
       ⟨rfl,rfl,rfl,trivial⟩ ⟨by omega,hw,hb3,fun i h h'=>by omega⟩ ?_
      clear hw hb3
      rintro j w' ⟨hj,hw,hb3,hJ⟩
      by_cases hjk:j<k
      ·have gJ:=hq.active.one (show j<q.Active.n by omega) (u := .int .i64 (c.Active[j]'(by omega))) rfl
       by_cases hx:(c.Active[j]'(by omega))=a
       ·rw [cacheB_f fun hm=>by
         rcases hm.acts k hkl with g|⟨g1,g2⟩
         ·omega
         ·rw [ea] at g1
          exact g1 (List.mem_take_iff_getElem.2 ⟨j,by omega,hx⟩)]
        repeat' (first|(first|refine CW.seq ?_|refine CW.region ?_|refine CW.block ?_|refine CW.condd_t rfl (by omega) ?_|refine CW.skip ?_|refine CW.ret ?_|(apply CW.quiet1 mixed;(· kernel_rfl);rotate_left;intro w1 hw1;replace hw:=Ext.trans hw hw1;replace hb3:=hb3.ext hw1;clear hw1;rotate_right))|(first|refine Post.seq ?_|refine Post.seq_ret ?_|refine Post.blk_ret ?_|refine Post.again_ret ?_)|refine SW.nil ?_|refine SW.pure rfl rfl ?_|(show SW _ _ _ _ (⟨_,Op.fieldAddr _ _ _,_,_,_,none⟩::_) _ _;refine SW.st (st_field rfl) rfl ?_)|(show SW _ _ _ _ (⟨_,Op.indexAddr _ _ _,_,_,_,none⟩::_) _ _;refine SW.st (st_indexN rfl rfl (by assumption) (by omega)) rfl ?_)|(show SW _ _ _ _ (⟨_,Op.load _ _,_,_,_,none⟩::_) _ _;first|refine SW.st (st_loadx hw rfl gA) rfl ?_|refine SW.st (st_loadx hw rfl gJ) rfl ?_|refine SW.st (st_load rfl (hb3.cell rfl)) rfl ?_)|exact SW.qnil rfl)
        all_goals first|(exfalso;omega)|skip
        exact Post.ret1 rfl rfl ⟨_,rfl,hw,rfl⟩
       ·repeat' (first|(first|refine CW.seq ?_|refine CW.region ?_|refine CW.block ?_|refine CW.condd_t rfl (by omega) ?_|refine CW.condd_f rfl (by omega) ?_|refine CW.skip ?_|(apply CW.quiet1 mixed;(· kernel_rfl);rotate_left;intro w1 hw1;replace hw:=Ext.trans hw hw1;replace hb3:=hb3.ext hw1;clear hw1;rotate_right))|(first|refine Post.seq ?_|refine Post.blk ?_)|refine SW.nil ?_|refine SW.pure rfl rfl ?_|(show SW _ _ _ _ (⟨_,Op.fieldAddr _ _ _,_,_,_,none⟩::_) _ _;refine SW.st (st_field rfl) rfl ?_)|(show SW _ _ _ _ (⟨_,Op.binOp _ _ _ _ _,_,_,_,none⟩::_) _ _;refine SW.st (st_add rfl rfl (by omega) (by omega)) rfl ?_)|(show SW _ _ _ _ (⟨_,Op.indexAddr _ _ _,_,_,_,none⟩::_) _ _;refine SW.st (st_indexN rfl rfl (by assumption) (by omega)) rfl ?_)|(show SW _ _ _ _ (⟨_,Op.load _ _,_,_,_,none⟩::_) _ _;first|refine SW.st (st_loadx hw rfl gA) rfl ?_|refine SW.st (st_loadx hw rfl gJ) rfl ?_|refine SW.st (st_load rfl (hb3.cell rfl)) rfl ?_)|exact SW.qnil rfl)
        all_goals first|(exfalso;omega)|skip
        exact Post.again (j+1) ⟨rfl,rfl,rfl,trivial⟩ (by omega) ⟨by omega,hw,hb3,fun i h h'=>by
         by_cases ei:i=j
         ·subst ei;exact hx
         ·exact hJ i h (by omega)⟩
      ·repeat' (first|(first|refine CW.seq ?_|refine CW.region ?_|refine CW.condd_f rfl (by omega) ?_|refine CW.exit ?_)|(first|refine Post.seq ?_|refine Post.seq_exit ?_|refine Post.hit ?_|refine Post.blk ?_|refine Post.again_exit ?_)|refine SW.nil ?_|refine SW.pure rfl rfl ?_|(show SW _ _ _ _ (⟨_,Op.binOp _ _ _ _ _,_,_,_,none⟩::_) _ _;refine SW.st (st_add rfl rfl (by omega) (by omega)) rfl ?_))
       exact Post.again (k+1) ⟨rfl,rfl,trivial⟩ (by omega) ⟨by omega,hw,hb3,fun i h h'=>by
        by_cases ei:i=k
        ·subst ei
         refine .inr ⟨?_,by rw [ea,← hzi];exact decide_eq_true hz0⟩
         rw [ea]
         intro hm
         obtain ⟨i',hi',e'⟩:=List.mem_take_iff_getElem.1 hm
         exact hJ i' (by omega) (by omega) e'
        ·exact hI i h (by omega)⟩
     ·rw [cacheB_f fun hm=>by
       rcases hm.acts k hkl with g|⟨g1,g2⟩
       ·omega
       ·rw [ea] at g2
        rw [g2] at hzi
        exact hz0 (of_decide_eq_true hzi)]
      repeat' (first|(first|refine CW.seq ?_|refine CW.region ?_|refine CW.block ?_|refine CW.condd_t rfl (by omega) ?_|refine CW.condd_f rfl (by omega) ?_|refine CW.skip ?_|refine CW.ret ?_|(apply CW.quiet1 mixed;(· kernel_rfl);rotate_left;intro w1 hw1;replace hw:=Ext.trans hw hw1;replace hb3:=hb3.ext hw1;clear hw1;rotate_right))|(first|refine Post.seq ?_|refine Post.seq_ret ?_|refine Post.blk_ret ?_|refine Post.again_ret ?_)|refine SW.nil ?_|refine SW.pure rfl rfl ?_|(show SW _ _ _ _ (⟨_,Op.fieldAddr _ _ _,_,_,_,none⟩::_) _ _;refine SW.st (st_field rfl) rfl ?_)|(show SW _ _ _ _ (⟨_,Op.indexAddr _ _ _,_,_,_,none⟩::_) _ _;refine SW.st (st_indexN rfl rfl (by assumption) (by omega)) rfl ?_)|(show SW _ _ _ _ (⟨_,Op.call ⟨.builtin .len,_,_⟩,_,_,_,none⟩::_) _ _;refine SW.st (st_len rfl) rfl ?_)|(show SW _ _ _ _ (⟨_,Op.load _ _,_,_,_,none⟩::_) _ _;first|refine SW.st (st_loadx hw rfl gA) rfl ?_|refine SW.st (st_load rfl (hb3.cell rfl)) rfl ?_|refine SW.st (st_loads rfl rfl ((fun _ _=>hb3.cell))) rfl ?_)|(show SW _ _ _ _ (⟨_,Op.call ⟨.value (.func _),_,_⟩,_,_,_,none⟩::_) _ _;refine SW.qcall rfl rfl (fun w1 hw1=>(cF _ (Ext.trans hw hw1))) ?_)|exact SW.qnil rfl)
      all_goals first|(exfalso;omega)|skip
      exact Post.ret1 rfl rfl ⟨_,rfl,hw,rfl⟩
   ·rw [cacheB_t ⟨hlay,h4,h5,hall,fun i h=>hI i h (by omega)⟩]
    repeat' (first|(first|refine CW.seq ?_|refine CW.region ?_|refine CW.condd_f rfl (by omega) ?_|refine CW.ret ?_|refine CW.exit ?_)|(first|refine Post.seq ?_|refine Post.seq_exit ?_|refine Post.hit ?_|refine Post.again_exit ?_)|refine SW.nil ?_|refine SW.pure rfl rfl ?_|(show SW _ _ _ _ (⟨_,Op.fieldAddr _ _ _,_,_,_,none⟩::_) _ _;refine SW.st (st_field rfl) rfl ?_)|(show SW _ _ _ _ (⟨_,Op.call ⟨.builtin .len,_,_⟩,_,_,_,none⟩::_) _ _;refine SW.st (st_len rfl) rfl ?_)|(show SW _ _ _ _ (⟨_,Op.load _ _,_,_,_,none⟩::_) _ _;refine SW.st (st_load rfl (hb3.cell rfl)) rfl ?_))
    exact Post.ret1 rfl rfl ⟨_,rfl,hw,rfl⟩
end Go.Proofs.YtbidkghlpijecaaGreatDoor
