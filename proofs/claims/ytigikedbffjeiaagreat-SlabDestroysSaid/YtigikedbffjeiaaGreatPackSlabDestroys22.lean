/-
  Texts of the claim SlabDestroys, part 22: what its theorem leans on.
-/
import Derived.Test.YtigikedbffjeiaaGreatPackSlabDestroys18
import Derived.Test.YtigikedbffjeiaaGreatPackSlabDestroys21
import Derived.Test.YtigikedbffjeiaaGreatPackSlabDestroys10
import Derived.Test.YtigikedbffjeiaaGreatPackSlabDestroys4
import Derived.Test.YtigikedbffjeiaaGreatPackSlabDestroys12
import Derived.Test.YtigikedbffjeiaaGreatPackSlabDestroys8
import Derived.Test.YtigikedbffjeiaaGreatPackSlabDestroys7
set_option linter.unusedVariables false
set_option linter.unusedSimpArgs false
namespace Go.Proofs.YtigikedbffjeiaaGreat
open Go.RowKit
theorem IndexString_ans (A:Option Addr) (n c:Nat) (l:List ByteArray) (x:ByteArray) (w:World) (hl:Sl w 1 encStr A n l) (hn:n≤9223372036854775807) :
  Ans Tryz.prog 97 [.slice A n c,.string x] w fun v _ => ∃ i:Int,v = .int .i64 i∧decide (0≤i)=hasS l x:=by
 refine ans_of Tryz.func97 rfl Tryz.ntmps97 rfl ?_
 have hw:=Ext.refl w
 have hA:=hl.base
 have hll:=hl.len
 repeat' (first|(first|refine CW.seq ?_|refine CW.region ?_|refine CW.block ?_)|(refine Post.seq ?_)|refine SW.nil ?_|refine SW.pure rfl rfl ?_|(show SW _ _ _ _ (⟨_,Op.call ⟨.builtin .len,_,_⟩,_,_,_,none⟩::_) _ _;refine SW.st (st_len rfl) rfl ?_))
 refine CW.loop (fun k:Nat=>[(0,.slice A n c),(1,.string x),(7,.int .i64 (n:Int)),(8,.int .i64 (k:Int))]) (fun k w'=>k≤n∧Ext w w' ∧ ∀ (i:Nat) (h:i<l.length),i<k→l[i]≠x)
  (fun k=>n-k) 0 ⟨rfl,rfl,rfl,rfl,trivial⟩ ⟨by omega,hw,fun i h hi=>by omega⟩ ?_
 clear hw
 rintro k w' ⟨hk,hw,hI⟩
 by_cases hkn:k<n
 ·by_cases hx:x=l[k]
  ·repeat' (first|(first|refine CW.seq ?_|refine CW.region ?_|refine CW.block ?_|refine CW.condtr rfl (by with_reducible rfl) ?_|refine CW.condd_t rfl (by omega) ?_|refine CW.skip ?_|refine CW.ret ?_)|(first|refine Post.seq ?_|refine Post.seq_ret ?_|refine Post.blk_ret ?_|refine Post.again_ret ?_)|refine SW.nil ?_|refine SW.pure rfl rfl ?_|(show SW _ _ _ _ (⟨_,Op.indexAddr _ _ _,_,_,_,none⟩::_) _ _;refine SW.st (st_indexN rfl rfl (by assumption) (by omega)) rfl ?_)|(show SW _ _ _ _ (⟨_,Op.load _ _,_,_,_,none⟩::_) _ _;refine SW.st (st_loadx hw rfl (hl.one hkn rfl)) rfl ?_)|(refine SW.st ((st_eqStr rfl rfl).eq (congrArg Value.bool (decide_eq_true hx))) rfl ?_))
   refine Post.ret1 rfl rfl ⟨_,rfl,hw,_,rfl,?_⟩
   rw [hasS_iff.2 (hx ▸ List.getElem_mem (hl.lt hkn))]
   simp
  ·repeat' (first|(first|refine CW.seq ?_|refine CW.region ?_|refine CW.block ?_|refine CW.condfr rfl (by with_reducible rfl) ?_|refine CW.condd_t rfl (by omega) ?_|refine CW.skip ?_)|(first|refine Post.seq ?_|refine Post.blk ?_)|refine SW.nil ?_|refine SW.pure rfl rfl ?_|(show SW _ _ _ _ (⟨_,Op.binOp _ _ _ _ _,_,_,_,none⟩::_) _ _;refine SW.st (st_add rfl rfl (by omega) (by omega)) rfl ?_)|(show SW _ _ _ _ (⟨_,Op.indexAddr _ _ _,_,_,_,none⟩::_) _ _;refine SW.st (st_indexN rfl rfl (by assumption) (by omega)) rfl ?_)|(show SW _ _ _ _ (⟨_,Op.load _ _,_,_,_,none⟩::_) _ _;refine SW.st (st_loadx hw rfl (hl.one hkn rfl)) rfl ?_)|(refine SW.st ((st_eqStr rfl rfl).eq (congrArg Value.bool (decide_eq_false hx))) rfl ?_))
   refine Post.again (k+1) ⟨rfl,rfl,rfl,rfl,trivial⟩ (by omega) ⟨by omega,hw,fun i h' hi => ?_⟩
   by_cases hik:i=k
   ·subst hik
    exact fun e=>hx e.symm
   ·exact hI i h' (by omega)
 ·repeat' (first|(first|refine CW.seq ?_|refine CW.region ?_|refine CW.condd_f rfl (by omega) ?_|refine CW.ret ?_|refine CW.exit ?_)|(first|refine Post.seq ?_|refine Post.seq_exit ?_|refine Post.hit ?_|refine Post.again_exit ?_)|refine SW.nil ?_|refine SW.pure rfl rfl ?_)
  refine Post.ret1 rfl rfl ⟨_,rfl,hw,_,rfl,?_⟩
  have hx:hasS l x=false:=by
   cases e:hasS l x
   ·rfl
   ·obtain ⟨i,hi,e⟩:=List.getElem_of_mem (hasS_iff.1 e)
    exact absurd e (hI i hi (by omega))
  rw [hx]
  simp
theorem ContainsString_ans (A:Option Addr) (n c:Nat) (l:List ByteArray) (x:ByteArray) (w:World) (hl:Sl w 1 encStr A n l) (hn:n≤9223372036854775807) :
  Ans Tryz.prog 61 [.slice A n c,.string x] w fun v _=>v = .bool (hasS l x):=by
 refine ans_of Tryz.func61 rfl Tryz.ntmps61 rfl ?_
 have hw:=Ext.refl w
 repeat' (first|(first|refine CW.seq ?_|refine CW.region ?_)|(refine Post.seq ?_)|refine SW.nil ?_|refine SW.pure rfl rfl ?_)
 refine SW.call rfl rfl (IndexString_ans _ _ _ _ _ _ (hl.ext hw) hn) fun v w1 hw1 hv => ?_
 obtain ⟨i,rfl,hi⟩:=hv
 replace hw:=Ext.trans hw hw1
 repeat' (first|(refine CW.ret ?_)|(refine Post.seq ?_)|refine SW.nil ?_|refine SW.pure rfl rfl ?_)
 exact Post.ret1 rfl rfl ⟨_,rfl,hw,by rw [hi]⟩
theorem idxOf_congr {α β : Type} {p : α → Bool} {q : β → Bool} {l:List α} {m:List β} (hl:l.length=m.length) (h:∀ (k:Nat) (h1:k<l.length) (h2:k<m.length),p l[k]=q m[k]) : idxOf p l=idxOf q m∧l.any p=m.any q:=by
 have e:l.map p=m.map q:=List.ext_getElem (by simp [hl]) fun k h1 h2=>by simpa using h k (by simpa using h1) (by simpa using h2)
 have a1:l.any p=m.any q:=by
  have x1:(l.map p).any id=l.any p:=by rw [List.any_map];rfl
  have x2:(m.map q).any id=m.any q:=by rw [List.any_map];rfl
  rw [← x1,← x2,e]
 have a2:l.findIdx p=m.findIdx q:=by
  have x1:(l.map p).findIdx id=l.findIdx p:=by rw [List.findIdx_map];rfl
  have x2:(m.map q).findIdx id=m.findIdx q:=by rw [List.findIdx_map];rfl
  rw [← x1,← x2,e]
 unfold idxOf
 rw [a1,a2]
 exact ⟨rfl,rfl⟩
theorem SlStr_uniq {w:World} {A:Option Addr} {n:Nat} {l l':List ByteArray} (h:Sl w 1 encStr A n l) (h':Sl w 1 encStr A n l') : l=l':=by
 have e1:=h.len
 have e2:=h'.len
 refine List.ext_getElem (by omega) fun k h1 h2 => ?_
 have a:=h.one (i:=k) (by omega) (u := .string l[k]) rfl
 have b:=h'.one (i:=k) (by omega) (u := .string l'[k]) rfl
 rw [a] at b
 simpa using b
theorem namedP_ex (w:World) (n:ByteArray) : ∃ p:CRow→Bool,∀ x c,RdC w x c→p x=hasN n c:=by
 classical
 refine ⟨fun x=>decide (∃ c,RdC w x c∧hasN n c=true),fun x c h => ?_⟩
 cases e:hasN n c
 ·refine decide_eq_false ?_
  rintro ⟨c',h',e'⟩
  unfold hasN at e e'
  rw [SlStr_uniq h'.names h.names,e] at e'
  cases e'
 ·exact decide_eq_true ⟨c,h,e⟩
theorem namedF_ans (x:CRow) (c:KCache) (b3:Nat) (n:ByteArray) (w:World) (h3:Blk w b3 9 [.string n]) (hx:RdC w x c) (hn:x.Names.n≤9223372036854775807) :
  Ans Tryz.prog 60 ([.agg (encC x).toArray]++[.pointer (some ⟨b3,0,none⟩)]) w fun v _=>v = .bool (hasN n c):=by
 refine ans_of Tryz.func60 rfl Tryz.ntmps60 rfl ?_
 refine CW.seq (CW.region (SW.box rfl rfl fun b1 w1 hw hb1b hb1 => ?_))
 replace h3:=h3.ext hw
 have h3c:=h3.cell (i:=0) (v := .string n) rfl
 rw [add_zero] at h3c
 repeat' (first|(first|refine CW.seq ?_|refine CW.region ?_|refine CW.ret ?_)|(refine Post.seq ?_)|refine SW.nil ?_|refine SW.pure rfl rfl ?_|(show SW _ _ _ _ (⟨_,Op.fieldAddr _ _ _,_,_,_,none⟩::_) _ _;refine SW.st (st_field rfl) rfl ?_)|(show SW _ _ _ _ (⟨_,Op.load _ _,_,_,_,none⟩::_) _ _;first|refine SW.st (st_load rfl (hb1.cell (i:=0) (v := .slice x.Names.A x.Names.n x.Names.c) rfl)) rfl ?_|refine SW.st (st_load rfl h3c) rfl ?_)|(show SW _ _ _ _ (⟨_,Op.call ⟨.value (.func _),_,_⟩,_,_,_,none⟩::_) _ _;(refine SW.call rfl rfl (ContainsString_ans _ _ _ _ _ _ (hx.names.ext hw) hn) ?_;intro v w1 hw1 hv;subst hv;replace hw:=Ext.trans hw hw1;replace hb1:=hb1.ext hw1;clear hw1)))
 exact Post.ret1 rfl rfl ⟨_,rfl,hw,rfl⟩
theorem named_ans (r:SRow) (s:KSystem) (n:ByteArray) (w:World) (hr:RdS w r s) (hs:s.small) :
  Ans Tryz.prog 37 [.agg (encSys r).toArray,.string n] w fun v _=>v = .tuple #[.int .i64 (idxOf (hasN n) s.Caches),.bool (s.Caches.any (hasN n))]:=by
 refine ans_of Tryz.func37 rfl Tryz.ntmps37 rfl ?_
 obtain ⟨cs,hc⟩:=hr.caches
 obtain ⟨z1,z2⟩:=hc.len
 have m3:=hs.caches
 obtain ⟨p,hp⟩:=namedP_ex w n
 have hcong:=idxOf_congr (p:=p) (q:=hasN n) (l:=cs) (m:=s.Caches) (by omega) fun k h1 h2=>hp _ _ (hc.each.get k h1 h2)
 refine CW.seq (CW.region (SW.box rfl rfl fun b2 w1 hw hb2b hb2 => ?_))
 refine SW.box1 rfl rfl rfl fun b3 w2 hw2 hb3b hb3 => ?_
 (replace hw:=Ext.trans hw hw2;replace hb2:=hb2.ext hw2)
 repeat' (first|(first|refine CW.seq ?_|refine CW.region ?_)|(refine Post.seq ?_)|refine SW.nil ?_|refine SW.pure rfl rfl ?_|(show SW _ _ _ _ (⟨_,Op.fieldAddr _ _ _,_,_,_,none⟩::_) _ _;refine SW.st (st_field rfl) rfl ?_)|(show SW _ _ _ _ (⟨_,Op.load _ _,_,_,_,none⟩::_) _ _;refine SW.st (st_load rfl (hb2.cell (i:=6) (v := .slice r.Caches.A r.Caches.n r.Caches.c) rfl)) rfl ?_)|(refine SW.st (st_func (vs:=[.pointer (some ⟨b3,0,none⟩)]) rfl) rfl ?_))
 refine SW.call rfl rfl (IndexFuncCRow_ans _ _ _ _ _ (hc.row.ext hw) _ [.pointer (some ⟨b3,0,none⟩)] p (fun x => .agg (encC x).toArray) (fun x=>rfl) (fun x hx w1 hx1=>by
  obtain ⟨k,hk,rfl⟩:=List.getElem_of_mem hx
  have hk':k<s.Caches.length:=by omega
  have hck:=hc.each.get k hk hk'
  have q1:=(hs.each _ (List.getElem_mem hk')).names
  have q2:=hck.names.len
  rw [hp _ _ hck]
  exact namedF_ans _ _ b3 n w1 (hb3.ext hx1) (hck.ext (Ext.trans hw hx1)) (by omega)) (by omega)) fun v w4 hw4 hv => ?_
 subst hv
 rw [hcong.1]
 replace hw:=Ext.trans hw hw4
 have hge:=idxOf_ge (hasN n) s.Caches
 repeat' (first|(first|refine CW.seq ?_|refine CW.region ?_|refine CW.ret ?_)|(refine Post.seq ?_)|refine SW.nil ?_|refine SW.pure rfl rfl ?_)
 all_goals exact Post.ret2 rfl rfl rfl ⟨_,rfl,hw,by rw [hge]⟩
theorem isNaNC_ans (x:ByteArray) (w:World) : Ans Tryz.prog 86 [.string x] w fun v _=>v = .bool false:=by
 refine ans_of Tryz.func86 rfl Tryz.ntmps86 rfl ?_
 have hw:=Ext.refl w
 repeat' (first|(first|refine CW.seq ?_|refine CW.region ?_|refine CW.ret ?_)|(refine Post.seq ?_)|refine SW.nil ?_|refine SW.pure rfl rfl ?_|(refine SW.st ((st_neStr' rfl rfl).eq (congrArg Value.bool (decide_eq_false (fun h=>h rfl)))) rfl ?_))
 exact Post.ret1 rfl rfl ⟨_,rfl,hw,rfl⟩
theorem isNaNS_ans (x:ByteArray) (w:World) : Ans Tryz.prog 52 [.string x] w fun v _=>v = .bool false:=by
 refine ans_of Tryz.func52 rfl Tryz.ntmps52 rfl ?_
 have hw:=Ext.refl w
 repeat' (first|(first|refine CW.seq ?_|refine CW.region ?_|refine CW.ret ?_)|(refine Post.seq ?_)|refine SW.nil ?_|refine SW.pure rfl rfl ?_|(refine SW.st ((st_neStr' rfl rfl).eq (congrArg Value.bool (decide_eq_false (fun h=>h rfl)))) rfl ?_))
 exact Post.ret1 rfl rfl ⟨_,rfl,hw,rfl⟩
theorem LessStr_ans (x y:ByteArray) (w:World) : Ans Tryz.prog 51 [.string x,.string y] w fun v _=>v = .bool (lessS x y):=by
 refine ans_of Tryz.func51 rfl Tryz.ntmps51 rfl ?_
 have hw:=Ext.refl w
 repeat' (first|(first|refine CW.seq ?_|refine CW.region ?_|refine CW.ret ?_)|(refine Post.seq ?_)|refine SW.nil ?_|(show SW _ _ _ _ (⟨_,_,_,_,_,some _⟩::_) _ _;first|refine SW.want_f rfl rfl (by with_reducible rfl) ?_|refine SW.skip_t rfl rfl (by with_reducible rfl) rfl ?_)|refine SW.pure rfl rfl ?_|(show SW _ _ _ _ (⟨_,Op.call ⟨.value (.func _),_,_⟩,_,_,_,none⟩::_) _ _;(refine SW.call rfl rfl (isNaNC_ans _ _) ?_;intro v w1 hw1 hv;subst hv;replace hw:=Ext.trans hw hw1;clear hw1))|(refine SW.st (st_ltStr rfl rfl) rfl ?_))
 exact Post.ret1 rfl rfl ⟨_,rfl,hw,rfl⟩
theorem BinStr_ans (A:Option Addr) (n c:Nat) (l:List ByteArray) (x:ByteArray) (w:World) (hl:Sl w 1 encStr A n l) (hs:Sorted l) (hn:n≤1000000000000000000) :
  Ans Tryz.prog 29 [.slice A n c,.string x] w fun v _ => ∃ b,v = .tuple #[.int .i64 (posS l x:Int),.bool b]:=by
 refine ans_of Tryz.func29 rfl Tryz.ntmps29 rfl ?_
 have hw:=Ext.refl w
 have hA:=hl.base
 have hll:=hl.len
 repeat' (first|(first|refine CW.seq ?_|refine CW.region ?_|refine CW.block ?_)|(refine Post.seq ?_)|refine SW.nil ?_|refine SW.pure rfl rfl ?_|(show SW _ _ _ _ (⟨_,Op.call ⟨.builtin .len,_,_⟩,_,_,_,none⟩::_) _ _;refine SW.st (st_len rfl) rfl ?_))
 refine CW.loop (fun s:Nat×Nat=>[(0,.slice A n c),(1,.string x),(6,.int .i64 (n:Int)),(7,.int .i64 (s.1:Int)),(8,.int .i64 (s.2:Int))])
  (fun s w'=>s.1≤s.2∧s.2≤n∧Ext w w'∧(∀ (k:Nat) (h:k<l.length),k<s.1→lessS l[k] x=true)∧(∀ (k:Nat) (h:k<l.length),s.2≤k→lessS l[k] x=false)) (fun s=>s.2-s.1) (0,n)
  ⟨rfl,rfl,rfl,rfl,rfl,trivial⟩ ⟨by omega,by omega,hw,fun k h h'=>by omega,fun k h h'=>by omega⟩ ?_
 clear hw
 rintro ⟨i,j⟩ w' ⟨hij,hjn,hw,hI,hJ⟩
 simp only at hij hjn hI hJ ⊢
 by_cases hlt:i<j
 ·have hk:(i+j) / 2<n:=by omega
  have hkl:=hl.lt hk
  obtain ⟨q,hq⟩ : ∃ q,lessS (l[(i+j) / 2]) x=q:=⟨_,rfl⟩
  have cL:∀ w',Ans Tryz.prog 51 [.string (l[(i+j) / 2]),.string x] w' fun v _=>v = .bool q:=fun w'=>by
   have:=LessStr_ans (l[(i+j) / 2]) x w'
   rwa [hq] at this
  cases q
  ·repeat' (first|(first|refine CW.seq ?_|refine CW.region ?_|refine CW.block ?_|refine CW.condfr rfl (by with_reducible rfl) ?_|refine CW.condd_t rfl (by omega) ?_|refine CW.skip ?_)|(first|refine Post.seq ?_|refine Post.blk ?_)|refine SW.nil ?_|refine SW.pure rfl rfl ?_|(show SW _ _ _ _ (⟨_,Op.binOp _ _ _ _ _,_,_,_,none⟩::_) _ _;refine SW.st (st_add rfl rfl (by omega) (by omega)) rfl ?_)|(show SW _ _ _ _ (⟨_,Op.indexAddr _ _ _,_,_,_,none⟩::_) _ _;refine SW.st (st_indexN rfl rfl (by assumption) (by omega)) rfl ?_)|(show SW _ _ _ _ (⟨_,Op.load _ _,_,_,_,none⟩::_) _ _;refine SW.st (st_loadx hw rfl (hl.one hk rfl)) rfl ?_)|(show SW _ _ _ _ (⟨_,Op.call ⟨.value (.func _),_,_⟩,_,_,_,none⟩::_) _ _;(refine SW.call rfl rfl (cL _) ?_;intro v w1 hw1 hv;subst hv;replace hw:=Ext.trans hw hw1;clear hw1))|(refine SW.st ((st_convI Tryz.underlying3 und_uint rfl).eq (congrArg (Value.int .u64) (wrap_u64 (by omega) (by omega)))) rfl ?_)|(refine SW.st ((st_convI und_uint Tryz.underlying3 rfl).eq (congrArg (Value.int .i64) (wrap_in (by omega) (by omega)))) rfl ?_)|(refine SW.st (st_shr1 rfl rfl) rfl ?_))
   refine Post.again (i,(i+j) / 2) ⟨rfl,rfl,rfl,rfl,congrArg (fun z=>some (Value.int .i64 z)) (by omega),trivial⟩ (by simp only;omega) ⟨by simp only;omega,by simp only;omega,hw,hI,fun k h h' => ?_⟩
   simp only at h'
   by_cases e:k=(i+j) / 2
   ·subst e;exact hq
   ·cases c:lessS l[k] x
    ·rfl
    ·have:=lessS_trans (hs ((i+j) / 2) k hkl h (by omega)) c
     rw [hq] at this
     cases this
  ·repeat' (first|(first|refine CW.seq ?_|refine CW.region ?_|refine CW.block ?_|refine CW.condtr rfl (by with_reducible rfl) ?_|refine CW.condd_t rfl (by omega) ?_|refine CW.skip ?_)|(first|refine Post.seq ?_|refine Post.blk ?_)|refine SW.nil ?_|refine SW.pure rfl rfl ?_|(show SW _ _ _ _ (⟨_,Op.binOp _ _ _ _ _,_,_,_,none⟩::_) _ _;refine SW.st (st_add rfl rfl (by omega) (by omega)) rfl ?_)|(show SW _ _ _ _ (⟨_,Op.indexAddr _ _ _,_,_,_,none⟩::_) _ _;refine SW.st (st_indexN rfl rfl (by assumption) (by omega)) rfl ?_)|(show SW _ _ _ _ (⟨_,Op.load _ _,_,_,_,none⟩::_) _ _;refine SW.st (st_loadx hw rfl (hl.one hk rfl)) rfl ?_)|(show SW _ _ _ _ (⟨_,Op.call ⟨.value (.func _),_,_⟩,_,_,_,none⟩::_) _ _;(refine SW.call rfl rfl (cL _) ?_;intro v w1 hw1 hv;subst hv;replace hw:=Ext.trans hw hw1;clear hw1))|(refine SW.st ((st_convI Tryz.underlying3 und_uint rfl).eq (congrArg (Value.int .u64) (wrap_u64 (by omega) (by omega)))) rfl ?_)|(refine SW.st ((st_convI und_uint Tryz.underlying3 rfl).eq (congrArg (Value.int .i64) (wrap_in (by omega) (by omega)))) rfl ?_)|(refine SW.st (st_shr1 rfl rfl) rfl ?_))
   refine Post.again ((i+j) / 2+1,j) ⟨rfl,rfl,rfl,congrArg (fun z=>some (Value.int .i64 z)) (by omega),rfl,trivial⟩ (by simp only;omega) ⟨by simp only;omega,hjn,hw,fun k h h' => ?_,hJ⟩
   simp only at h'
   by_cases e:k=(i+j) / 2
   ·subst e;exact hq
   ·exact lessS_trans (hs k ((i+j) / 2) h hkl (by omega)) hq
 ·obtain rfl:i=j:=by omega
  have hp:posS l x=i:=posS_uniq (by omega) (fun j hj h=>hI j hj h) (fun h=>hJ i h (by omega))
  rw [hp]
  by_cases hin:i<n
  ·by_cases he:l[i]'(hl.lt hin)=x
   ·repeat' (first|(first|refine CW.seq ?_|refine CW.region ?_|refine CW.condd_f rfl (by omega) ?_|refine CW.ret ?_|refine CW.exit ?_)|(first|refine Post.seq ?_|refine Post.seq_exit ?_|refine Post.hit ?_|refine Post.again_exit ?_)|refine SW.nil ?_|(show SW _ _ _ _ (⟨_,_,_,_,_,some _⟩::_) _ _;first|refine SW.want_t rfl rfl (by with_reducible rfl) ?_|refine SW.skip_f rfl rfl (by with_reducible rfl) rfl ?_|refine SW.skip_u rfl rfl (by with_reducible rfl) rfl ?_|refine SW.splitd_t rfl rfl rfl (by omega) ?_)|refine SW.pure rfl rfl ?_|(show SW _ _ _ _ (⟨_,Op.indexAddr _ _ _,_,_,_,none⟩::_) _ _;refine SW.st (st_indexN rfl rfl (by assumption) (by omega)) rfl ?_)|(show SW _ _ _ _ (⟨_,Op.load _ _,_,_,_,none⟩::_) _ _;refine SW.st (st_loadx hw rfl (hl.one hin rfl)) rfl ?_)|(refine SW.st ((st_eqStr rfl rfl).eq (congrArg Value.bool (decide_eq_true he))) rfl ?_))
    exact Post.ret2 rfl rfl rfl ⟨_,rfl,hw,_,rfl⟩
   ·repeat' (first|(first|refine CW.seq ?_|refine CW.region ?_|refine CW.condd_f rfl (by omega) ?_|refine CW.ret ?_|refine CW.exit ?_)|(first|refine Post.seq ?_|refine Post.seq_exit ?_|refine Post.hit ?_|refine Post.again_exit ?_)|refine SW.nil ?_|(show SW _ _ _ _ (⟨_,_,_,_,_,some _⟩::_) _ _;first|refine SW.want_t rfl rfl (by with_reducible rfl) ?_|refine SW.want_f rfl rfl (by with_reducible rfl) ?_|refine SW.skip_t rfl rfl (by with_reducible rfl) rfl ?_|refine SW.splitd_t rfl rfl rfl (by omega) ?_)|refine SW.pure rfl rfl ?_|(show SW _ _ _ _ (⟨_,Op.indexAddr _ _ _,_,_,_,none⟩::_) _ _;refine SW.st (st_indexN rfl rfl (by assumption) (by omega)) rfl ?_)|(show SW _ _ _ _ (⟨_,Op.load _ _,_,_,_,none⟩::_) _ _;refine SW.st (st_loadx hw rfl (hl.one hin rfl)) rfl ?_)|(show SW _ _ _ _ (⟨_,Op.call ⟨.value (.func _),_,_⟩,_,_,_,none⟩::_) _ _;(refine SW.call rfl rfl (isNaNS_ans _ _) ?_;intro v w1 hw1 hv;subst hv;replace hw:=Ext.trans hw hw1;clear hw1))|(refine SW.st ((st_eqStr rfl rfl).eq (congrArg Value.bool (decide_eq_false he))) rfl ?_))
    exact Post.ret2 rfl rfl rfl ⟨_,rfl,hw,_,rfl⟩
  ·repeat' (first|(first|refine CW.seq ?_|refine CW.region ?_|refine CW.condd_f rfl (by omega) ?_|refine CW.ret ?_|refine CW.exit ?_)|(first|refine Post.seq ?_|refine Post.seq_exit ?_|refine Post.hit ?_|refine Post.again_exit ?_)|refine SW.nil ?_|(show SW _ _ _ _ (⟨_,_,_,_,_,some _⟩::_) _ _;first|refine SW.skip_t rfl rfl (by with_reducible rfl) rfl ?_|refine SW.skip_u rfl rfl (by with_reducible rfl) rfl ?_|refine SW.splitd_f rfl rfl rfl (by omega) ?_)|refine SW.pure rfl rfl ?_)
   exact Post.ret2 rfl rfl rfl ⟨_,rfl,hw,_,rfl⟩
theorem cacheOf_ans (r:SRow) (s:KSystem) (n:ByteArray) (w:World) (hr:RdS w r s) (hs:s.small) :
  Ans Tryz.prog 20 [.agg (encSys r).toArray,.string n] w fun v _=>v = .int .i64 (idxOf (hasN n) s.Caches):=by
 refine ans_of Tryz.func20 rfl Tryz.ntmps20 rfl ?_
 refine CW.seq (CW.region (SW.box rfl rfl fun b2 w1 hw hb2b hb2 => ?_))
 obtain ⟨cs,hc⟩:=hr.caches
 obtain ⟨z1,z2⟩:=hc.len
 have m3:=hs.caches
 repeat' (first|(first|refine CW.seq ?_|refine CW.region ?_|refine CW.block ?_)|(refine Post.seq ?_)|refine SW.nil ?_|refine SW.pure rfl rfl ?_)
 refine CW.loop (fun k:Nat=>[(1,.string n),(2,.pointer (some ⟨b2,0,none⟩)),(5,.int .i64 (k:Int))])
  (fun k w'=>k≤r.Caches.n∧Ext w w'∧Blk w' b2 30 (encSys r) ∧ ∀ (j:Nat) (hj:j<s.Caches.length),j<k→hasN n s.Caches[j]=false) (fun k=>r.Caches.n-k) 0
  ⟨rfl,rfl,rfl,trivial⟩ ⟨by omega,hw,hb2,fun j hj h=>by omega⟩ ?_
 clear hw hb2
 rintro i w' ⟨hk,hw,hb2,hI⟩
 have hA:=hc.row.base
 by_cases hin:i<r.Caches.n
 ·have hic:i<cs.length:=by omega
  have hil:i<s.Caches.length:=by omega
  have hck:=hc.each.get i hic hil
  have sm:=(hs.each _ (List.getElem_mem hil)).names
  have q1:=hck.names.len
  have g0:=hc.row.fld hin (j:=0) (u := .slice cs[i].Names.A cs[i].Names.n cs[i].Names.c) rfl
  repeat' (first|(first|refine CW.seq ?_|refine CW.region ?_|refine CW.block ?_|refine CW.condd_t rfl (by omega) ?_|refine CW.skip ?_)|(refine Post.seq ?_)|refine SW.nil ?_|refine SW.pure rfl rfl ?_|(show SW _ _ _ _ (⟨_,Op.fieldAddr _ _ _,_,_,_,none⟩::_) _ _;refine SW.st (st_field rfl) rfl ?_)|(show SW _ _ _ _ (⟨_,Op.call ⟨.builtin .len,_,_⟩,_,_,_,none⟩::_) _ _;refine SW.st (st_len rfl) rfl ?_)|(show SW _ _ _ _ (⟨_,Op.load _ _,_,_,_,none⟩::_) _ _;refine SW.st (st_load rfl (hb2.cell (i:=6) (v := .slice r.Caches.A r.Caches.n r.Caches.c) rfl)) rfl ?_))
  refine CW.loop (fun k:Nat=>[(1,.string n),(2,.pointer (some ⟨b2,0,none⟩)),(5,.int .i64 (i:Int)),(6,.int .i64 (k:Int))])
   (fun k w'=>k≤cs[i].Names.n∧Ext w w'∧Blk w' b2 30 (encSys r) ∧ ∀ (j:Nat) (hj:j<s.Caches[i].Names.length),j<k→s.Caches[i].Names[j]≠n) (fun k=>cs[i].Names.n-k) 0
   ⟨rfl,rfl,rfl,rfl,trivial⟩ ⟨by omega,hw,hb2,fun j hj h=>by omega⟩ ?_
  clear hw hb2
  rintro k w' ⟨hk,hw,hb2,hJ⟩
  have hA1:=hck.names.base
  by_cases hkn:k<cs[i].Names.n
  ·have hkl:k<s.Caches[i].Names.length:=by omega
   by_cases he:s.Caches[i].Names[k]=n
   ·have hh:hasN n s.Caches[i]=true:=hasS_iff.2 (he ▸ List.getElem_mem hkl)
    repeat' (first|(first|refine CW.seq ?_|refine CW.region ?_|refine CW.block ?_|refine CW.condtr rfl (by with_reducible rfl) ?_|refine CW.condd_t rfl (by omega) ?_|refine CW.skip ?_|refine CW.ret ?_)|(first|refine Post.seq ?_|refine Post.seq_ret ?_|refine Post.blk_ret ?_|refine Post.again_ret ?_)|refine SW.nil ?_|refine SW.pure rfl rfl ?_|(show SW _ _ _ _ (⟨_,Op.fieldAddr _ _ _,_,_,_,none⟩::_) _ _;refine SW.st (st_field rfl) rfl ?_)|(show SW _ _ _ _ (⟨_,Op.indexAddr _ _ _,_,_,_,none⟩::_) _ _;refine SW.st (st_indexN rfl rfl (by assumption) (by omega)) rfl ?_)|(show SW _ _ _ _ (⟨_,Op.call ⟨.builtin .len,_,_⟩,_,_,_,none⟩::_) _ _;refine SW.st (st_len rfl) rfl ?_)|(show SW _ _ _ _ (⟨_,Op.load _ _,_,_,_,none⟩::_) _ _;first|refine SW.st (st_load rfl (hb2.cell (i:=6) (v := .slice r.Caches.A r.Caches.n r.Caches.c) rfl)) rfl ?_|refine SW.st (st_loadx hw rfl g0) rfl ?_|refine SW.st (st_loadx hw rfl (hck.names.one hkn rfl)) rfl ?_)|(refine SW.st ((st_eqStr rfl rfl).eq (congrArg Value.bool (decide_eq_true he))) rfl ?_))
    exact Post.ret1 rfl rfl ⟨_,rfl,hw,by rw [idxOf_hit hil hh hI]⟩
   ·repeat' (first|(first|refine CW.seq ?_|refine CW.region ?_|refine CW.block ?_|refine CW.condfr rfl (by with_reducible rfl) ?_|refine CW.condd_t rfl (by omega) ?_|refine CW.skip ?_)|(first|refine Post.seq ?_|refine Post.blk ?_)|refine SW.nil ?_|refine SW.pure rfl rfl ?_|(show SW _ _ _ _ (⟨_,Op.fieldAddr _ _ _,_,_,_,none⟩::_) _ _;refine SW.st (st_field rfl) rfl ?_)|(show SW _ _ _ _ (⟨_,Op.binOp _ _ _ _ _,_,_,_,none⟩::_) _ _;refine SW.st (st_add rfl rfl (by omega) (by omega)) rfl ?_)|(show SW _ _ _ _ (⟨_,Op.indexAddr _ _ _,_,_,_,none⟩::_) _ _;refine SW.st (st_indexN rfl rfl (by assumption) (by omega)) rfl ?_)|(show SW _ _ _ _ (⟨_,Op.call ⟨.builtin .len,_,_⟩,_,_,_,none⟩::_) _ _;refine SW.st (st_len rfl) rfl ?_)|(show SW _ _ _ _ (⟨_,Op.load _ _,_,_,_,none⟩::_) _ _;first|refine SW.st (st_load rfl (hb2.cell (i:=6) (v := .slice r.Caches.A r.Caches.n r.Caches.c) rfl)) rfl ?_|refine SW.st (st_loadx hw rfl g0) rfl ?_|refine SW.st (st_loadx hw rfl (hck.names.one hkn rfl)) rfl ?_)|(refine SW.st ((st_eqStr rfl rfl).eq (congrArg Value.bool (decide_eq_false he))) rfl ?_))
    exact Post.again (k+1) ⟨rfl,rfl,rfl,rfl,trivial⟩ (by omega) ⟨by omega,hw,hb2,fun j hj h=>by
     by_cases e:j=k
     ·subst e;exact he
     ·exact hJ j hj (by omega)⟩
  ·have hh:hasN n s.Caches[i]=false:=by
    cases e:hasN n s.Caches[i]
    ·rfl
    ·obtain ⟨j,hj,e⟩:=List.getElem_of_mem (hasS_iff.1 e)
     exact absurd e (hJ j hj (by omega))
   repeat' (first|(first|refine CW.seq ?_|refine CW.region ?_|refine CW.condd_f rfl (by omega) ?_|refine CW.exit ?_)|(first|refine Post.seq ?_|refine Post.seq_exit ?_|refine Post.hit ?_|refine Post.blk ?_|refine Post.again_exit ?_)|refine SW.nil ?_|refine SW.pure rfl rfl ?_|(show SW _ _ _ _ (⟨_,Op.fieldAddr _ _ _,_,_,_,none⟩::_) _ _;refine SW.st (st_field rfl) rfl ?_)|(show SW _ _ _ _ (⟨_,Op.binOp _ _ _ _ _,_,_,_,none⟩::_) _ _;refine SW.st (st_add rfl rfl (by omega) (by omega)) rfl ?_)|(show SW _ _ _ _ (⟨_,Op.indexAddr _ _ _,_,_,_,none⟩::_) _ _;refine SW.st (st_indexN rfl rfl (by assumption) (by omega)) rfl ?_)|(show SW _ _ _ _ (⟨_,Op.call ⟨.builtin .len,_,_⟩,_,_,_,none⟩::_) _ _;refine SW.st (st_len rfl) rfl ?_)|(show SW _ _ _ _ (⟨_,Op.load _ _,_,_,_,none⟩::_) _ _;first|refine SW.st (st_load rfl (hb2.cell (i:=6) (v := .slice r.Caches.A r.Caches.n r.Caches.c) rfl)) rfl ?_|refine SW.st (st_loadx hw rfl g0) rfl ?_))
   exact Post.again (i+1) ⟨rfl,rfl,rfl,trivial⟩ (by omega) ⟨by omega,hw,hb2,fun j hj h=>by
    by_cases e:j=i
    ·subst e;exact hh
    ·exact hI j hj (by omega)⟩
 ·repeat' (first|(first|refine CW.seq ?_|refine CW.region ?_|refine CW.condd_f rfl (by omega) ?_|refine CW.ret ?_|refine CW.exit ?_)|(first|refine Post.seq ?_|refine Post.seq_exit ?_|refine Post.hit ?_|refine Post.again_exit ?_)|refine SW.nil ?_|refine SW.pure rfl rfl ?_|(show SW _ _ _ _ (⟨_,Op.fieldAddr _ _ _,_,_,_,none⟩::_) _ _;refine SW.st (st_field rfl) rfl ?_)|(show SW _ _ _ _ (⟨_,Op.call ⟨.builtin .len,_,_⟩,_,_,_,none⟩::_) _ _;refine SW.st (st_len rfl) rfl ?_)|(show SW _ _ _ _ (⟨_,Op.load _ _,_,_,_,none⟩::_) _ _;refine SW.st (st_load rfl (hb2.cell (i:=6) (v := .slice r.Caches.A r.Caches.n r.Caches.c) rfl)) rfl ?_))
  exact Post.ret1 rfl rfl ⟨_,rfl,hw,by rw [(idxOf_none (fun j hj=>hI j hj (by omega))).1]⟩
open Go.RowKit
set_option maxHeartbeats 4000000 in
theorem HeapCopy_ans (r:HRow) (h:Heap) (w:World) (hr:RdH w r h) (hs:h.small) :
  Ans Tryz.prog 15 [.agg (encH r).toArray] w fun v w' => ∃ s,v = .agg (encH s).toArray∧OwnH w' w.heap.size s h:=by
 refine ans_of Tryz.func15 rfl Tryz.ntmps15 rfl ?_
 refine CW.seq (CW.region (SW.box rfl rfl fun b1 w1 hw hb1b hb1 => ?_))
 refine SW.alloc rfl fun b2 w2 hw2 hb2b hb2 => ?_
 have hb2w:w.heap.size≤b2:=Nat.le_trans hw.size hb2b
 have hne2:b2≠b1:=by have:=hb1.lt;omega
 (replace hw:=Ext.trans hw hw2;replace hb1:=hb1.ext hw2)
 obtain ⟨zs,hz⟩:=hr.zones
 obtain ⟨ls,hl⟩:=hr.lists
 have hml:=hr.mins.len
 have hvl:=hr.live.len
 have s1:=hs.mins
 have s2:=hs.live
 have s3:=hs.zones
 have s4:=hs.lists
 obtain ⟨z1,z2⟩:=hz.len
 obtain ⟨l1,l2⟩:=hl.len
 repeat' (first|(refine CW.seq ?_)|(refine Post.seq ?_)|refine SW.nil ?_)
 obtain ⟨K,hK⟩ : ∃ K:Env→World→Prop,K=fun L' w' => ∃ X c1 Y d1 b3,subEnv L' [(1,.pointer (some ⟨b1,0,none⟩)),(2,.pointer (some ⟨b2,0,none⟩)),(3,.pointer (some ⟨b3,0,none⟩))]∧Ext w w'∧Blk w' b1 27 (encH r)∧Blk w' b2 27 (encH .zero) ∧
  Blk w' b3 27 (encH ⟨.nil,⟨X,r.Mins.n,c1⟩,r.Cpus,.nil,⟨Y,r.Live.n,d1⟩⟩)∧Own w' w.heap.size 3 1 encI X r.Mins.n c1 h.Mins∧Own w' w.heap.size 94 3 encBk Y r.Live.n d1 h.Live∧w.heap.size≤b3∧b1≠b3∧b2≠b3:=⟨_,rfl⟩
 refine CW.cut K ?_ ?_
 ·refine CW.any 10 mixed (rb_tail (by kernel_rfl)) rfl fun w1 hw1 hRB => ?_
  replace hw:=Ext.trans hw hw1;replace hb1:=hb1.ext hw1;replace hb2:=hb2.ext hw1;clear hw1
  refine SA.take 0 hRB rfl (by kernel_rfl) (by kernel_rfl) rfl ?_
  repeat ((show SW _ _ _ _ (⟨_,Op.fieldAddr _ _ _,_,_,_,none⟩::_) _ _;refine SW.st (st_field rfl) rfl ?_))
  refine SW.tknil ?_
  refine SA.take 1 hRB rfl (by kernel_rfl) (by kernel_rfl) rfl ?_
  repeat ((show SW _ _ _ _ (⟨_,Op.load _ _,_,_,_,none⟩::_) _ _;refine SW.st (st_load rfl (hb1.cell rfl)) rfl ?_))
  refine SW.tknil ?_
  refine SA.take 3 hRB rfl (by kernel_rfl) (by kernel_rfl) rfl ?_
  repeat ((show SW _ _ _ _ (⟨_,Op.fieldAddr _ _ _,_,_,_,none⟩::_) _ _;refine SW.st (st_field rfl) rfl ?_))
  refine SW.tknil ?_
  refine SA.take 4 hRB rfl (by kernel_rfl) (by kernel_rfl) rfl ?_
  repeat ((show SW _ _ _ _ (⟨_,Op.load _ _,_,_,_,none⟩::_) _ _;refine SW.st (st_load rfl (hb1.cell rfl)) rfl ?_))
  refine SW.tknil ?_
  refine SA.take 5 hRB rfl (by kernel_rfl) (by kernel_rfl) rfl ?_
  repeat ((show SW _ _ _ _ (⟨_,Op.fieldAddr _ _ _,_,_,_,none⟩::_) _ _;refine SW.st (st_field rfl) rfl ?_))
  refine SW.tknil ?_
  refine SA.take 6 hRB rfl (by kernel_rfl) (by kernel_rfl) rfl ?_
  repeat ((show SW _ _ _ _ (⟨_,Op.load _ _,_,_,_,none⟩::_) _ _;refine SW.st (st_load rfl (hb1.cell rfl)) rfl ?_))
  refine SW.tknil ?_
  refine SA.two 2 9 rfl rfl (by kernel_rfl) rfl rfl ?_ ?_
  ·refine SW.call rfl rfl (words_ans _ _ _ _ _ (hr.mins.ext hw) (by omega)) fun v w4 hXX hv => ?_
   obtain ⟨X,c4,rfl,hX⟩:=hv
   replace hX:=hX.low hw.size
   replace hw:=Ext.trans hw hXX
   replace hb1:=hb1.ext hXX
   replace hb2:=hb2.ext hXX
   try replace hb3:=hb3.ext hXX
   refine SW.nil (Post.sa hXX ?_)
   refine SA.two 7 9 rfl rfl (by kernel_rfl) rfl rfl ?_ ?_
   ·refine SW.call rfl rfl (blocks_ans _ _ _ _ _ (hr.live.ext hw) (by omega)) fun v w4 hXX hv => ?_
    obtain ⟨Y,d4,rfl,hY⟩:=hv
    replace hY:=hY.low hw.size
    replace hX:=hX.ext hXX
    replace hw:=Ext.trans hw hXX
    replace hb1:=hb1.ext hXX
    replace hb2:=hb2.ext hXX
    try replace hb3:=hb3.ext hXX
    refine SW.nil (Post.sa hXX ?_)
    refine SA.take 8 hRB rfl (by kernel_rfl) (by kernel_rfl) rfl ?_
    repeat ((show SW _ _ _ _ (⟨_,Op.build _ _,_,_,_,none⟩::_) _ _;refine SW.st (st_build rfl rfl) rfl ?_))
    refine SW.tknil ?_
    refine SA.one 9 rfl (by kernel_rfl) rfl ?_
    refine SW.alloc rfl fun b3 w4 hXX hb3b hb3 => ?_
    have hb3w:w.heap.size≤b3:=Nat.le_trans hw.size hb3b
    have hne3:b1≠b3:=by have:=hb1.lt;omega
    have hne4:b2≠b3:=by have:=hb2.lt;omega
    replace hw:=Ext.trans hw hXX
    replace hb1:=hb1.ext hXX
    replace hb2:=hb2.ext hXX
    try replace hX:=hX.ext hXX
    try replace hY:=hY.ext hXX
    refine SW.nil (Post.sa hXX ?_)
    refine SA.done (by kernel_rfl) ?_
    skip
    refine SW.storeAgg hb3 rfl rfl rfl rfl (one_h ⟨.nil,⟨X,r.Mins.n,c4⟩,r.Cpus,.nil,⟨Y,r.Live.n,d4⟩⟩) fun w5 hR2 hg => ?_
    have hG:=hb3.gr hg
    replace hw:=hw.own hb3w hg
    (replace hX:=hX.grT hG rfl;replace hY:=hY.grT hG rfl)
    replace hb1:=hb1.grown hg (by simpa using hne3)
    replace hb2:=hb2.grown hg (by simpa using hne4)
    repeat' (first|(refine Post.np ?_)|refine SW.nil ?_)
    exact Post.cut (K:=K) (by rw [hK];exact ⟨X,c4,Y,d4,b3,⟨rfl,rfl,rfl,trivial⟩,hw,hb1,hb2,hR2,hX,hY,hb3w,hne3,hne4⟩)
   ·refine SW.alloc rfl fun b3 w4 hXX hb3b hb3 => ?_
    have hb3w:w.heap.size≤b3:=Nat.le_trans hw.size hb3b
    have hne3:b1≠b3:=by have:=hb1.lt;omega
    have hne4:b2≠b3:=by have:=hb2.lt;omega
    replace hw:=Ext.trans hw hXX
    replace hb1:=hb1.ext hXX
    replace hb2:=hb2.ext hXX
    try replace hX:=hX.ext hXX
    try replace hY:=hY.ext hXX
    refine SW.nil (Post.sa hXX ?_)
    refine SA.one 7 rfl (by kernel_rfl) rfl ?_
    refine SW.call rfl rfl (blocks_ans _ _ _ _ _ (hr.live.ext hw) (by omega)) fun v w4 hXX hv => ?_
    obtain ⟨Y,d4,rfl,hY⟩:=hv
    replace hY:=hY.low hw.size
    replace hX:=hX.ext hXX
    replace hw:=Ext.trans hw hXX
    replace hb1:=hb1.ext hXX
    replace hb2:=hb2.ext hXX
    try replace hb3:=hb3.ext hXX
    refine SW.nil (Post.sa hXX ?_)
    refine SA.take 8 hRB rfl (by kernel_rfl) (by kernel_rfl) rfl ?_
    repeat ((show SW _ _ _ _ (⟨_,Op.build _ _,_,_,_,none⟩::_) _ _;refine SW.st (st_build rfl rfl) rfl ?_))
    refine SW.tknil ?_
    refine SA.done (by kernel_rfl) ?_
    skip
    refine SW.storeAgg hb3 rfl rfl rfl rfl (one_h ⟨.nil,⟨X,r.Mins.n,c4⟩,r.Cpus,.nil,⟨Y,r.Live.n,d4⟩⟩) fun w5 hR2 hg => ?_
    have hG:=hb3.gr hg
    replace hw:=hw.own hb3w hg
    (replace hX:=hX.grT hG rfl;replace hY:=hY.grT hG rfl)
    replace hb1:=hb1.grown hg (by simpa using hne3)
    replace hb2:=hb2.grown hg (by simpa using hne4)
    repeat' (first|(refine Post.np ?_)|refine SW.nil ?_)
    exact Post.cut (K:=K) (by rw [hK];exact ⟨X,c4,Y,d4,b3,⟨rfl,rfl,rfl,trivial⟩,hw,hb1,hb2,hR2,hX,hY,hb3w,hne3,hne4⟩)
  ·refine SW.alloc rfl fun b3 w4 hXX hb3b hb3 => ?_
   have hb3w:w.heap.size≤b3:=Nat.le_trans hw.size hb3b
   have hne3:b1≠b3:=by have:=hb1.lt;omega
   have hne4:b2≠b3:=by have:=hb2.lt;omega
   replace hw:=Ext.trans hw hXX
   replace hb1:=hb1.ext hXX
   replace hb2:=hb2.ext hXX
   try replace hX:=hX.ext hXX
   try replace hY:=hY.ext hXX
   refine SW.nil (Post.sa hXX ?_)
   refine SA.one 2 rfl (by kernel_rfl) rfl ?_
   refine SW.call rfl rfl (words_ans _ _ _ _ _ (hr.mins.ext hw) (by omega)) fun v w4 hXX hv => ?_
   obtain ⟨X,c4,rfl,hX⟩:=hv
   replace hX:=hX.low hw.size
   replace hw:=Ext.trans hw hXX
   replace hb1:=hb1.ext hXX
   replace hb2:=hb2.ext hXX
   try replace hb3:=hb3.ext hXX
   refine SW.nil (Post.sa hXX ?_)
   refine SA.one 7 rfl (by kernel_rfl) rfl ?_
   refine SW.call rfl rfl (blocks_ans _ _ _ _ _ (hr.live.ext hw) (by omega)) fun v w4 hXX hv => ?_
   obtain ⟨Y,d4,rfl,hY⟩:=hv
   replace hY:=hY.low hw.size
   replace hX:=hX.ext hXX
   replace hw:=Ext.trans hw hXX
   replace hb1:=hb1.ext hXX
   replace hb2:=hb2.ext hXX
   try replace hb3:=hb3.ext hXX
   refine SW.nil (Post.sa hXX ?_)
   refine SA.take 8 hRB rfl (by kernel_rfl) (by kernel_rfl) rfl ?_
   repeat ((show SW _ _ _ _ (⟨_,Op.build _ _,_,_,_,none⟩::_) _ _;refine SW.st (st_build rfl rfl) rfl ?_))
   refine SW.tknil ?_
   refine SA.done (by kernel_rfl) ?_
   skip
   refine SW.storeAgg hb3 rfl rfl rfl rfl (one_h ⟨.nil,⟨X,r.Mins.n,c4⟩,r.Cpus,.nil,⟨Y,r.Live.n,d4⟩⟩) fun w5 hR2 hg => ?_
   have hG:=hb3.gr hg
   replace hw:=hw.own hb3w hg
   (replace hX:=hX.grT hG rfl;replace hY:=hY.grT hG rfl)
   replace hb1:=hb1.grown hg (by simpa using hne3)
   replace hb2:=hb2.grown hg (by simpa using hne4)
   repeat' (first|(refine Post.np ?_)|refine SW.nil ?_)
   exact Post.cut (K:=K) (by rw [hK];exact ⟨X,c4,Y,d4,b3,⟨rfl,rfl,rfl,trivial⟩,hw,hb1,hb2,hR2,hX,hY,hb3w,hne3,hne4⟩)
 ·clear hb1 hb2 hw
  subst hK
  rintro L' w' ⟨X,c4,Y,d4,b3,hsub,hw,hb1,hb2,hb3,hX,hY,hb3w,hne3,hne4⟩
  refine Post.sub hsub ?_
  repeat' (first|(first|refine CW.seq ?_|refine CW.region ?_|refine CW.block ?_)|(refine Post.seq ?_)|refine SW.nil ?_|refine SW.pure rfl rfl ?_)
  refine CW.loop (fun s:Nat×Option Addr×Nat×List ZRow=>[(1,.pointer (some ⟨b1,0,none⟩)),(2,.pointer (some ⟨b2,0,none⟩)),(3,.pointer (some ⟨b3,0,none⟩)),(4,.int .i64 (s.1:Int))])
   (fun s w'=>s.1≤r.Zones.n∧Ext w w'∧Blk w' b1 27 (encH r)∧Blk w' b2 27 (encH .zero)∧Blk w' b3 27 (encH ⟨⟨s.2.1,s.1,s.2.2.1⟩,⟨X,r.Mins.n,c4⟩,r.Cpus,.nil,⟨Y,r.Live.n,d4⟩⟩)∧Own w' w.heap.size 3 1 encI X r.Mins.n c4 h.Mins∧Own w' w.heap.size 94 3 encBk Y r.Live.n d4 h.Live ∧
    OwnZs w' w.heap.size ⟨s.2.1,s.1,s.2.2.1⟩ s.2.2.2 (h.Zones.take s.1)) (fun s=>r.Zones.n-s.1) (0,none,0,[]) ⟨rfl,rfl,rfl,rfl,trivial⟩ ⟨by omega,hw,hb1,hb2,hb3,hX,hY,OwnZs.nil _ _⟩ ?_
  clear hb1 hb2 hb3 hX hY hw hsub
  rintro ⟨k,A,c,zr⟩ w' ⟨hk,hw,hb1,hb2,hb3,hX,hY,hO⟩
  simp only at hk hb3 hO ⊢
  have hA:=hz.row.base
  by_cases hkn:k<r.Zones.n
  ·have hzk:=hz.each.get k (by omega) (by omega)
   have hin:h.Zones[k]'(by omega)∈h.Zones:=List.getElem_mem _
   have q:=hs.free _ hin
   have q1:=hzk.free.len
   have q2:=hzk.types.len
   repeat' (first|(first|refine CW.seq ?_|refine CW.region ?_|refine CW.block ?_|refine CW.condd_t rfl (by omega) ?_|refine CW.skip ?_)|(refine Post.seq ?_)|refine SW.nil ?_|refine SW.pure rfl rfl ?_|(show SW _ _ _ _ (⟨_,Op.fieldAddr _ _ _,_,_,_,none⟩::_) _ _;refine SW.st (st_field rfl) rfl ?_)|(show SW _ _ _ _ (⟨_,Op.indexAddr _ _ _,_,_,_,none⟩::_) _ _;refine SW.st (st_indexN rfl rfl (by assumption) (by omega)) rfl ?_)|(show SW _ _ _ _ (⟨_,Op.call ⟨.builtin .len,_,_⟩,_,_,_,none⟩::_) _ _;refine SW.st (st_len rfl) rfl ?_)|(show SW _ _ _ _ (⟨_,Op.load _ _,_,_,_,none⟩::_) _ _;first|refine SW.st (st_load rfl (hb1.cell rfl)) rfl ?_|refine SW.st (st_loadsx hw rfl rfl ((hz.row.all hkn))) rfl ?_))
   refine SW.call rfl rfl (ZoneCopy_ans _ _ _ (hzk.ext hw) (by omega) (by omega)) fun v w4 hXX hv => ?_
   obtain ⟨s,rfl,hs'⟩:=hv
   replace hs':=hs'.low hw.size
   (replace hw:=Ext.trans hw hXX;replace hb1:=hb1.ext hXX;replace hb2:=hb2.ext hXX;replace hb3:=hb3.ext hXX;replace hX:=hX.ext hXX;replace hY:=hY.ext hXX;replace hO:=hO.ext hXX)
   refine SW.alloc rfl fun b5 w1 hw1 hb5b hb5 => ?_
   skip
   refine SW.storeAgg hb5 rfl rfl rfl rfl (one_z s) fun w2 hb5' hg => ?_
   have hXX:=hw1.own hb5b hg
   have hb5w:w.heap.size≤b5:=Nat.le_trans hw.size hb5b
   replace hw:=Ext.trans hw hXX
   replace hb1:=hb1.ext hXX
   replace hb2:=hb2.ext hXX
   replace hb3:=hb3.ext hXX
   replace hX:=hX.ext hXX
   replace hY:=hY.ext hXX
   replace hO:=hO.ext hXX
   replace hs':=hs'.ext hXX
   replace hb5:=hb5'
   clear hb5' hw1 hg hXX
   repeat' (first|(refine CW.region ?_)|(refine Post.seq ?_)|refine SW.nil ?_|(show SW _ _ _ _ (⟨_,Op.fieldAddr _ _ _,_,_,_,none⟩::_) _ _;refine SW.st (st_field rfl) rfl ?_)|(show SW _ _ _ _ (⟨_,Op.load _ _,_,_,_,none⟩::_) _ _;first|refine SW.st (st_load rfl (hb3.cell rfl)) rfl ?_|refine SW.st (st_loads rfl rfl ((fun _ _=>hb5.cell))) rfl ?_))
   refine SW.build1 rfl rfl rfl rfl rfl fun b w4 hXX hb hB => ?_
   (replace hw:=Ext.trans hw hXX;replace hb1:=hb1.ext hXX;replace hb2:=hb2.ext hXX;replace hb3:=hb3.ext hXX;replace hb5:=hb5.ext hXX;replace hX:=hX.ext hXX;replace hY:=hY.ext hXX;replace hO:=hO.ext hXX;replace hs':=hs'.ext hXX)
   refine SW.append hO.row (Blk.sl1 (enc:=encZ) hB) hw.size rfl rfl rfl (by simp only;omega) (by simp only;omega) fun A2 c2 w5 hO1 hg => ?_
   have hG:=hO.row.gr hg
   replace hw:=ext_grown hw hg (Nat.le_refl _) hO.row.row_ge
   (replace hb1:=hb1.grT hG rfl;replace hb2:=hb2.grT hG rfl;replace hb3:=hb3.grT hG rfl;replace hX:=hX.grT hG rfl;replace hY:=hY.grT hG rfl;replace hs':=hs'.grT hG rfl)
   have hE:=hO.each.mono fun _ _ h=>h.grT hG rfl
   repeat' ((show SW _ _ _ _ (⟨_,Op.fieldAddr _ _ _,_,_,_,none⟩::_) _ _;refine SW.st (st_field rfl) rfl ?_))
   refine SW.storeB (i:=0) hb3 rfl rfl rfl rfl fun w6 hb3' hg => ?_
   have hG:=hb3.gr hg
   replace hw:=hw.own hb3w hg
   replace hb1:=hb1.grown hg (by simpa using hne3)
   replace hb2:=hb2.grown hg (by simpa using hne4)
   (replace hX:=hX.grT hG rfl;replace hY:=hY.grT hG rfl;replace hs':=hs'.grT hG rfl;replace hO1:=hO1.grT hG rfl)
   replace hE:=hE.mono fun _ _ h=>h.grT hG rfl
   repeat' (first|(refine CW.region ?_)|(first|refine Post.seq ?_|refine Post.blk ?_)|refine SW.nil ?_|refine SW.pure rfl rfl ?_|(show SW _ _ _ _ (⟨_,Op.binOp _ _ _ _ _,_,_,_,none⟩::_) _ _;refine SW.st (st_add rfl rfl (by omega) (by omega)) rfl ?_))
   refine Post.again (k+1,A2,c2,zr++[s]) ⟨rfl,rfl,rfl,rfl,trivial⟩ (by simp only;omega) ⟨by simp only;omega,hw,hb1,hb2,hb3',hX,hY,hO1,?_⟩
   rw [List.take_succ_eq_append_getElem (by omega)]
   exact hE.snoc hs'
  ·obtain rfl:k=r.Zones.n:=by omega
   rw [List.take_of_length_le (by omega)] at hO
   repeat' (first|(first|refine CW.seq ?_|refine CW.region ?_|refine CW.block ?_|refine CW.condd_f rfl (by omega) ?_|refine CW.exit ?_)|(first|refine Post.seq ?_|refine Post.seq_exit ?_|refine Post.hit ?_|refine Post.again_exit ?_)|refine SW.nil ?_|refine SW.pure rfl rfl ?_|(show SW _ _ _ _ (⟨_,Op.fieldAddr _ _ _,_,_,_,none⟩::_) _ _;refine SW.st (st_field rfl) rfl ?_)|(show SW _ _ _ _ (⟨_,Op.call ⟨.builtin .len,_,_⟩,_,_,_,none⟩::_) _ _;refine SW.st (st_len rfl) rfl ?_)|(show SW _ _ _ _ (⟨_,Op.load _ _,_,_,_,none⟩::_) _ _;refine SW.st (st_load rfl (hb1.cell rfl)) rfl ?_))
   refine CW.loop (fun s:Nat×Option Addr×Nat×List LRow=>[(1,.pointer (some ⟨b1,0,none⟩)),(2,.pointer (some ⟨b2,0,none⟩)),(3,.pointer (some ⟨b3,0,none⟩)),(6,.int .i64 (s.1:Int))])
    (fun s w'=>s.1≤r.Lists.n∧Ext w w'∧Blk w' b1 27 (encH r)∧Blk w' b2 27 (encH .zero)∧Blk w' b3 27 (encH ⟨⟨A,r.Zones.n,c⟩,⟨X,r.Mins.n,c4⟩,r.Cpus,⟨s.2.1,s.1,s.2.2.1⟩,⟨Y,r.Live.n,d4⟩⟩)∧Own w' w.heap.size 3 1 encI X r.Mins.n c4 h.Mins∧Own w' w.heap.size 94 3 encBk Y r.Live.n d4 h.Live ∧
     OwnZs w' w.heap.size ⟨A,r.Zones.n,c⟩ zr h.Zones∧OwnLs w' w.heap.size ⟨s.2.1,s.1,s.2.2.1⟩ s.2.2.2 (h.Lists.take s.1)) (fun s=>r.Lists.n-s.1) (0,none,0,[]) ⟨rfl,rfl,rfl,rfl,trivial⟩ ⟨by omega,hw,hb1,hb2,hb3,hX,hY,hO,OwnLs.nil _ _⟩ ?_
   clear hb1 hb2 hb3 hX hY hw hO
   rintro ⟨k,B,d,lr⟩ w' ⟨hk,hw,hb1,hb2,hb3,hX,hY,hO,hP⟩
   simp only at hk hb3 hP ⊢
   have hA:=hl.row.base
   by_cases hkn:k<r.Lists.n
   ·have hlk:=hl.each.get k (by omega) (by omega)
    have hin:h.Lists[k]'(by omega)∈h.Lists:=List.getElem_mem _
    have q:=hs.pages _ hin
    have q1:=hlk.pages.len
    repeat' (first|(first|refine CW.seq ?_|refine CW.region ?_|refine CW.block ?_|refine CW.condd_t rfl (by omega) ?_|refine CW.skip ?_)|(refine Post.seq ?_)|refine SW.nil ?_|refine SW.pure rfl rfl ?_|(show SW _ _ _ _ (⟨_,Op.fieldAddr _ _ _,_,_,_,none⟩::_) _ _;refine SW.st (st_field rfl) rfl ?_)|(show SW _ _ _ _ (⟨_,Op.indexAddr _ _ _,_,_,_,none⟩::_) _ _;refine SW.st (st_indexN rfl rfl (by assumption) (by omega)) rfl ?_)|(show SW _ _ _ _ (⟨_,Op.call ⟨.builtin .len,_,_⟩,_,_,_,none⟩::_) _ _;refine SW.st (st_len rfl) rfl ?_)|(show SW _ _ _ _ (⟨_,Op.load _ _,_,_,_,none⟩::_) _ _;first|refine SW.st (st_load rfl (hb1.cell rfl)) rfl ?_|refine SW.st (st_loadsx hw rfl rfl ((hl.row.all hkn))) rfl ?_))
    have hlt7:=hP.row.lt_size
    refine SW.alloc rfl fun b7 w1 hw1 hb7b hb7 => ?_
    skip
    refine SW.storeAgg hb7 rfl rfl rfl rfl (one_l _) fun w2 hb7' hg => ?_
    have hXX:=hw1.own hb7b hg
    have hb7w:w.heap.size≤b7:=Nat.le_trans hw.size hb7b
    replace hw:=Ext.trans hw hXX
    replace hb1:=hb1.ext hXX
    replace hb2:=hb2.ext hXX
    replace hb3:=hb3.ext hXX
    replace hX:=hX.ext hXX
    replace hY:=hY.ext hXX
    replace hO:=hO.ext hXX
    replace hP:=hP.ext hXX
    replace hb7:=hb7'
    clear hb7' hw1 hg hXX
    repeat' (first|(first|refine CW.seq ?_|refine CW.region ?_)|(refine Post.seq ?_)|refine SW.nil ?_|(show SW _ _ _ _ (⟨_,Op.fieldAddr _ _ _,_,_,_,none⟩::_) _ _;refine SW.st (st_field rfl) rfl ?_)|(show SW _ _ _ _ (⟨_,Op.load _ _,_,_,_,none⟩::_) _ _;refine SW.st (st_load rfl (hb7.cell rfl)) rfl ?_))
    refine SW.call rfl rfl (words_ans _ _ _ _ _ (hlk.pages.ext hw) (by omega)) fun v w4 hXX hv => ?_
    obtain ⟨W,e4,rfl,hW⟩:=hv
    replace hW:=hW.low hw.size
    (replace hw:=Ext.trans hw hXX;replace hb1:=hb1.ext hXX;replace hb2:=hb2.ext hXX;replace hb3:=hb3.ext hXX;replace hb7:=hb7.ext hXX;replace hX:=hX.ext hXX;replace hY:=hY.ext hXX;replace hO:=hO.ext hXX;replace hP:=hP.ext hXX)
    repeat' ((show SW _ _ _ _ (⟨_,Op.fieldAddr _ _ _,_,_,_,none⟩::_) _ _;refine SW.st (st_field rfl) rfl ?_))
    refine SW.storeB (i:=3) hb7 rfl rfl rfl rfl fun w5 hb7' hg => ?_
    have hG:=hb7.gr hg
    replace hw:=hw.own hb7w hg
    (replace hb1:=hb1.grT hG rfl;replace hb2:=hb2.grT hG rfl;replace hb3:=hb3.grT hG rfl;replace hX:=hX.grT hG rfl;replace hY:=hY.grT hG rfl;replace hO:=hO.grT hG rfl;replace hW:=hW.grT hG rfl)
    replace hP:OwnLs w5 w.heap.size ⟨B,k,d⟩ lr (h.Lists.take k):=⟨hP.row.grown hg (.inr (fun e=>by have:=hlt7 _ e;omega)),hP.each.mono fun _ _ h=>h.grT hG rfl⟩
    repeat' (first|(refine CW.region ?_)|(refine Post.seq ?_)|refine SW.nil ?_|(show SW _ _ _ _ (⟨_,Op.fieldAddr _ _ _,_,_,_,none⟩::_) _ _;refine SW.st (st_field rfl) rfl ?_)|(show SW _ _ _ _ (⟨_,Op.load _ _,_,_,_,none⟩::_) _ _;first|refine SW.st (st_load rfl (hb3.cell rfl)) rfl ?_|refine SW.st (st_loads rfl rfl ((fun _ _=>hb7'.cell))) rfl ?_))
    refine SW.build1 rfl rfl rfl rfl rfl fun b w6 hXX hb hB => ?_
    (replace hw:=Ext.trans hw hXX;replace hb1:=hb1.ext hXX;replace hb2:=hb2.ext hXX;replace hb3:=hb3.ext hXX;replace hX:=hX.ext hXX;replace hY:=hY.ext hXX;replace hO:=hO.ext hXX;replace hP:=hP.ext hXX;replace hW:=hW.ext hXX)
    refine SW.append hP.row (Blk.sl1 (enc:=encL) (x:=⟨ls[k].Cpu,ls[k].Zone,ls[k].Ty,⟨W,_,e4⟩⟩) hB) hw.size rfl rfl rfl (by simp only;omega) (by simp only;omega) fun A2 c2 w7 hP1 hg => ?_
    have hG:=hP.row.gr hg
    replace hw:=ext_grown hw hg (Nat.le_refl _) hP.row.row_ge
    (replace hb1:=hb1.grT hG rfl;replace hb2:=hb2.grT hG rfl;replace hb3:=hb3.grT hG rfl;replace hX:=hX.grT hG rfl;replace hY:=hY.grT hG rfl;replace hO:=hO.grT hG rfl;replace hW:=hW.grT hG rfl)
    have hE:=hP.each.mono fun _ _ h=>h.grT hG rfl
    repeat' ((show SW _ _ _ _ (⟨_,Op.fieldAddr _ _ _,_,_,_,none⟩::_) _ _;refine SW.st (st_field rfl) rfl ?_))
    refine SW.storeB (i:=3) hb3 rfl rfl rfl rfl fun w8 hb3' hg => ?_
    have hG:=hb3.gr hg
    replace hw:=hw.own hb3w hg
    replace hb1:=hb1.grown hg (by simpa using hne3)
    replace hb2:=hb2.grown hg (by simpa using hne4)
    (replace hX:=hX.grT hG rfl;replace hY:=hY.grT hG rfl;replace hO:=hO.grT hG rfl;replace hP1:=hP1.grT hG rfl;replace hW:=hW.grT hG rfl)
    replace hE:=hE.mono fun _ _ h=>h.grT hG rfl
    repeat' (first|(refine CW.region ?_)|(first|refine Post.seq ?_|refine Post.blk ?_)|refine SW.nil ?_|refine SW.pure rfl rfl ?_|(show SW _ _ _ _ (⟨_,Op.binOp _ _ _ _ _,_,_,_,none⟩::_) _ _;refine SW.st (st_add rfl rfl (by omega) (by omega)) rfl ?_))
    refine Post.again (k+1,A2,c2,lr++[⟨ls[k].Cpu,ls[k].Zone,ls[k].Ty,⟨W,_,e4⟩⟩]) ⟨rfl,rfl,rfl,rfl,trivial⟩ (by simp only;omega) ⟨by simp only;omega,hw,hb1,hb2,hb3',hX,hY,hO,hP1,?_⟩
    rw [List.take_succ_eq_append_getElem (by omega)]
    exact hE.snoc ⟨hlk.cpu,hlk.zone,hlk.ty,hW⟩
   ·obtain rfl:k=r.Lists.n:=by omega
    rw [List.take_of_length_le (by omega)] at hP
    repeat' (first|(first|refine CW.seq ?_|refine CW.region ?_|refine CW.condd_f rfl (by omega) ?_|refine CW.exit ?_)|(first|refine Post.seq ?_|refine Post.seq_exit ?_|refine Post.hit ?_|refine Post.again_exit ?_)|refine SW.nil ?_|refine SW.pure rfl rfl ?_|(show SW _ _ _ _ (⟨_,Op.fieldAddr _ _ _,_,_,_,none⟩::_) _ _;refine SW.st (st_field rfl) rfl ?_)|(show SW _ _ _ _ (⟨_,Op.call ⟨.builtin .len,_,_⟩,_,_,_,none⟩::_) _ _;refine SW.st (st_len rfl) rfl ?_)|(show SW _ _ _ _ (⟨_,Op.load _ _,_,_,_,none⟩::_) _ _;first|refine SW.st (st_load rfl (hb1.cell rfl)) rfl ?_|refine SW.st (st_loads rfl rfl ((fun _ _=>hb3.cell))) rfl ?_))
    refine SW.storeAgg hb2 rfl rfl rfl rfl (one_h _) fun w5 hR2 hg => ?_
    have hG:=hb2.gr hg
    replace hw:=hw.own hb2w hg
    (replace hX:=hX.grT hG rfl;replace hY:=hY.grT hG rfl;replace hO:=hO.grT hG rfl;replace hP:=hP.grT hG rfl)
    repeat' (first|(refine CW.ret ?_)|(refine Post.seq ?_)|refine SW.nil ?_)
    exact Post.ret1c rfl rfl hR2 rfl ⟨_,rfl,hw,⟨_,_,r.Cpus,_,_⟩,rfl,hr.cpus,hX,hY,⟨zr,hO⟩,⟨lr,hP⟩⟩
open Go.RowKit
structure RestH (w:World) (lo:Nat) (m li lv:Sli) (ls:List LRow) (h:Heap) : Prop where
 mins:Own w lo 3 1 encI m.A m.n m.c h.Mins
 live:Own w lo 94 3 encBk lv.A lv.n lv.c h.Live
 lists:OwnLs w lo li ls h.Lists
section
variable {w w':World} {lo t:Nat} {m li lv:Sli} {ls:List LRow} {h:Heap}
theorem OwnH.split {r:HRow} (a:OwnH w lo r h) {z0 z1:Zone} (hz:h.Zones=[z0,z1]) : ∃ g c u0 u1 ls,r.Zones=⟨some ⟨g,0,none⟩,2,c⟩∧ZsOwn w lo g c u0 u1 (z0,z1)∧RestH w lo r.Mins r.Lists r.Live ls h:=by
 obtain ⟨zs,hzs⟩:=a.zones
 obtain ⟨ls,hls⟩:=a.lists
 have l0:=hzs.each.len
 rw [hz] at l0
 obtain ⟨u0,u1,rfl⟩:=two_of (show zs.length=2 from l0)
 have l1:=hzs.row.len
 have h0:=hzs.each.get 0 (by simp) (by simp [hz])
 have h1:=hzs.each.get 1 (by simp) (by simp [hz])
 simp only [hz] at h0 h1
 have hc : 0<r.Zones.c:=by have:=hzs.row.le;simp at l1;omega
 obtain ⟨g,rest,hA,hlo,_⟩:=hzs.row.opened hc
 refine ⟨g,r.Zones.c,u0,u1,ls,?_,⟨?_,h0,h1,hlo,hc⟩,⟨a.mins,a.live,hls⟩⟩
 ·rw [← hA]
  have:(2:Nat)=r.Zones.n:=l1
  rw [this]
 ·have:=hzs.row
  rw [hA,← l1] at this
  exact this
end
section
variable {w0 w w':World} {g b k t:Nat} {cs:List Value}
end
open Go.RowKit
noncomputable def typeV (z:Zone) (a:Int) : Int×Int:=if zoneB z then (if z.From≤a∧a<z.To then (z.Types.getD ((a-z.From) / 8).toNat 0,0) else (0,1)) else (0,8)
open Go.RowKit
theorem Zbuddy.TypeAt_ans (r:ZRow) (z:Zone) (a:Int) (w:World) (hr:RdZ w r z) (hf:r.Free.n≤2305843009213693952) (ht:r.Types.n≤1000000000000000000) (h1 : -9223372036854775808≤r.From∧r.From≤9223372036854775807) (h2 : -9223372036854775808≤r.To∧r.To≤9223372036854775807) :
  Ans Tryz.prog 77 [.agg (encZ r).toArray,.int .i64 a] w fun v _=>v = .tuple #[.int .i64 (typeV z a).1,.int .i64 (typeV z a).2]:=by
 refine ans_of Tryz.func77 rfl Tryz.ntmps77 rfl ?_
 refine CW.seq (CW.region (SW.box rfl rfl fun b1 w1 hw hb1b hb1 => ?_))
 have eF:=hr.from_
 have eT:=hr.to_
 have hTl:=hr.types.len
 obtain ⟨q,hq⟩ : ∃ q,zoneB z=q:=⟨_,rfl⟩
 have c1:∀ w',Ext w w'→Ans Tryz.prog 87 [.agg (encZ r).toArray] w' fun v _=>v = .int .i64 (if q then 0 else 8):=fun w' h=>by
  have:=Zcheck_ans r z w' (hr.ext h) hf (by omega) h1 h2
  rwa [hq] at this
 have c2:∀ w',Ext w w'→Ans Tryz.prog 100 [.agg (encZ r).toArray] w' fun v _=>v = .bool q:=fun w' h=>by
  have:=ZoneMay_ans r z w' (hr.ext h) hf ht h1 h2
  rwa [hq] at this
 cases q
 ·have e:typeV z a=(0,8):=by simp [typeV,hq]
  rw [e]
  simp only [Bool.false_eq_true,if_false] at c1
  repeat' (first|(first|refine CW.seq ?_|refine CW.region ?_|refine CW.condn_t rfl (by omega) ?_|refine CW.ret ?_)|(first|refine Post.seq ?_|refine Post.seq_ret ?_)|refine SW.nil ?_|refine SW.pure rfl rfl ?_|(show SW _ _ _ _ (⟨_,Op.load _ _,_,_,_,none⟩::_) _ _;refine SW.st (st_loads rfl rfl ((fun _ _=>hb1.cell))) rfl ?_)|(show SW _ _ _ _ (⟨_,Op.call ⟨.value (.func _),_,_⟩,_,_,_,none⟩::_) _ _;(refine SW.call rfl rfl (c1 _ hw) ?_;intro v w1 hw1 hv;subst hv;replace hw:=Ext.trans hw hw1;replace hb1:=hb1.ext hw1;clear hw1)))
  exact Post.ret2 rfl rfl rfl ⟨_,rfl,hw,rfl⟩
 ·simp only [if_true] at c1
  have hz:=zoneB_iff.1 hq
  obtain ⟨o1,o2,o3,o4,o5⟩:=hz.ok
  have hA:=hr.types.base
  by_cases hin:z.From≤a∧a<z.To
  ·obtain ⟨k,hk,hkl⟩:=typeIdx hz hin.1 hin.2
   have hkn:k<r.Types.n:=by omega
   have e:typeV z a=(z.Types[k],0):=by simp [typeV,hq,hin,hk,List.getD_eq_getElem?_getD,List.getElem?_eq_getElem hkl]
   rw [e]
   obtain ⟨i1,i2⟩:=id hin
   repeat' (first|(first|refine CW.seq ?_|refine CW.region ?_|refine CW.condd_f rfl (by omega) ?_|refine CW.condn_f rfl (by omega) ?_|refine CW.skip ?_|refine CW.ret ?_)|(refine Post.seq ?_)|refine SW.nil ?_|(show SW _ _ _ _ (⟨_,_,_,_,_,some _⟩::_) _ _;first|refine SW.want_f rfl rfl (by with_reducible rfl) ?_|refine SW.splitd_f rfl rfl rfl (by omega) ?_)|refine SW.pure rfl rfl ?_|(show SW _ _ _ _ (⟨_,Op.fieldAddr _ _ _,_,_,_,none⟩::_) _ _;refine SW.st (st_field rfl) rfl ?_)|(show SW _ _ _ _ (⟨_,Op.binOp _ _ _ _ _,_,_,_,none⟩::_) _ _;first|refine SW.st (st_sub rfl rfl (by omega) (by omega)) rfl ?_|refine SW.st (st_quo rfl rfl (by omega) (by omega) (by omega)) rfl ?_)|(show SW _ _ _ _ (⟨_,Op.indexAddr _ _ _,_,_,_,none⟩::_) _ _;refine SW.st (st_indexI (k) rfl rfl (by assumption) (by omega) (by omega)) rfl ?_)|(show SW _ _ _ _ (⟨_,Op.load _ _,_,_,_,none⟩::_) _ _;first|refine SW.st (st_loads rfl rfl ((fun _ _=>hb1.cell))) rfl ?_|refine SW.st (st_load rfl (hb1.cell rfl)) rfl ?_|refine SW.st (st_loadx hw rfl (hr.types.one hkn rfl)) rfl ?_)|(show SW _ _ _ _ (⟨_,Op.call ⟨.value (.func _),_,_⟩,_,_,_,none⟩::_) _ _;(refine SW.call rfl rfl (c1 _ hw) ?_;intro v w1 hw1 hv;subst hv;replace hw:=Ext.trans hw hw1;replace hb1:=hb1.ext hw1;clear hw1)))
   all_goals first|(exfalso;omega)|skip
   exact Post.ret2 rfl rfl rfl ⟨_,rfl,hw,rfl⟩
  ·have e:typeV z a=(0,1):=by simp only [typeV,hq,if_true,if_neg hin]
   rw [e]
   repeat' (first|(first|refine CW.seq ?_|refine CW.region ?_|refine CW.condtr rfl (by with_reducible rfl) ?_|refine CW.condd_t rfl (by omega) ?_|refine CW.condn_f rfl (by omega) ?_|refine CW.skip ?_|refine CW.ret ?_)|(first|refine Post.seq ?_|refine Post.seq_ret ?_)|refine SW.nil ?_|(show SW _ _ _ _ (⟨_,_,_,_,_,some _⟩::_) _ _;first|refine SW.want_f rfl rfl (by with_reducible rfl) ?_|refine SW.skip_f rfl rfl (by with_reducible rfl) rfl ?_|refine SW.splitd rfl rfl rfl (fun h => ?_) (fun h => ?_))|refine SW.pure rfl rfl ?_|(show SW _ _ _ _ (⟨_,Op.fieldAddr _ _ _,_,_,_,none⟩::_) _ _;refine SW.st (st_field rfl) rfl ?_)|(show SW _ _ _ _ (⟨_,Op.load _ _,_,_,_,none⟩::_) _ _;first|refine SW.st (st_loads rfl rfl ((fun _ _=>hb1.cell))) rfl ?_|refine SW.st (st_load rfl (hb1.cell rfl)) rfl ?_)|(show SW _ _ _ _ (⟨_,Op.call ⟨.value (.func _),_,_⟩,_,_,_,none⟩::_) _ _;(refine SW.call rfl rfl (c1 _ hw) ?_;intro v w1 hw1 hv;subst hv;replace hw:=Ext.trans hw hw1;replace hb1:=hb1.ext hw1;clear hw1)))
   all_goals first|(exfalso;omega)|skip
   all_goals exact Post.ret2 rfl rfl rfl ⟨_,rfl,hw,rfl⟩
def HeapOut (lo:Nat) (o:Int×Heap) (v:Value) (w:World) : Prop := ∃ s:HRow,v = .tuple #[.agg (encH s).toArray,.int .i64 o.1]∧OwnH w lo s o.2
theorem HeapOut.zero (e:Int) (lo:Nat) (w:World) : HeapOut lo (e,⟨[],[],0,[],[]⟩) (.tuple #[.agg (encH .zero).toArray,.int .i64 e]) w:=⟨.zero,rfl,OwnH.zero w lo⟩
theorem All2.two {α β : Type} {R : α → β → Prop} {a b : α} {c d : β} (h1:R a c) (h2:R b d) : All2 R [a,b] [c,d]:=All2.snoc (All2.snoc All2.nil h1) h2
end Go.Proofs.YtigikedbffjeiaaGreat
