/-
  Texts of the claim KmemNew, part 18: what its theorem leans on.
-/
import Derived.Test.YtbidkghlpijecaaGreatDoorPackKmemNew15
import Derived.Test.YtbidkghlpijecaaGreatDoorPackKmemNew17
import Derived.Test.YtbidkghlpijecaaGreatDoorPackKmemNew1
import Derived.Great.BuildSlice
import Derived.Test.YtbidkghlpijecaaGreatDoorPackKmemNew2
import Derived.Test.YtbidkghlpijecaaGreatDoorRows
import Derived.ProofKit
import Derived.LaidMore
import Derived.OpenShut
import Derived.Stop.Joined
import Derived.Test.YtbidkghlpijecaaGreatDoorPackKmemNew3
set_option linter.unusedVariables false
set_option linter.unusedSimpArgs false
namespace Go.Proofs.YtbidkghlpijecaaGreatDoor
open Go.RowKit
theorem IndexString_ans (A:Option Addr) (n c:Nat) (l:List ByteArray) (x:ByteArray) (w:World) (hl:Sl w 1 encStr A n l) (hn:n≤9223372036854775807) :
 Ans Tryz.prog 188 [.slice A n c,.string x] w fun v _ => ∃ i:Int,v = .int .i64 i∧decide (0≤i)=hasS l x:=by
 refine ans_of Tryz.func188 rfl Tryz.ntmps188 rfl ?_
 have hw:=Ext.refl w
 have hA:=hl.base
 have hll:=hl.len
 repeat' (first|(first|refine CW.seq ?_|refine CW.region ?_|refine CW.block ?_)|(refine Post.seq ?_)|refine SW.nil ?_|refine SW.pure rfl rfl ?_|(show SW _ _ _ _ (⟨_,Op.call ⟨.builtin .len,_,_⟩,_,_,_,none⟩::_) _ _;refine SW.st (st_len rfl) rfl ?_))
 refine CW.loop (fun k:Nat=>[(0,.slice A n c),(1,.string x),(7,.int .i64 (n:Int)),(8,.int .i64 (k:Int))]) (fun k w'=>k≤n∧Ext w w' ∧ ∀ (i:Nat) (h:i<l.length),i<k→l[i]≠x)
  (fun k=>n-k) 0 ⟨rfl,rfl,rfl,rfl,trivial⟩ ⟨by omega,hw,fun i h hi=>by omega⟩ ?_
 clear hw
 rintro k w' ⟨hk,hw,hI⟩
 by_cases hkn:k<n
 ·by_cases hx:x=l[k]
  ·repeat' (first|(first|refine CW.seq ?_|refine CW.region ?_|refine CW.block ?_|refine CW.condtr rfl (by with_reducible rfl) ?_|refine CW.condd_t rfl (by omega) ?_|refine CW.skip ?_|refine CW.ret ?_)|(first|refine Post.seq ?_|refine Post.seq_ret ?_|refine Post.blk_ret ?_|refine Post.again_ret ?_)|refine SW.nil ?_|refine SW.pure rfl rfl ?_|(show SW _ _ _ _ (⟨_,Op.indexAddr _ _ _,_,_,_,none⟩::_) _ _;refine SW.st (st_indexN rfl rfl (by assumption) (by omega)) rfl ?_)|(show SW _ _ _ _ (⟨_,Op.load _ _,_,_,_,none⟩::_) _ _;refine SW.st (st_loadx hw rfl (hl.one hkn rfl)) rfl ?_)|(refine SW.st ((st_eqStr rfl rfl).eq (congrArg Value.bool (decide_eq_true hx))) rfl ?_))
   refine Post.ret1 rfl rfl ⟨_,rfl,hw,_,rfl,?_⟩
   rw [hasS_iff.2 (hx ▸ List.getElem_mem (hl.lt hkn))]
   simp
  ·repeat' (first|(first|refine CW.seq ?_|refine CW.region ?_|refine CW.block ?_|refine CW.condfr rfl (by with_reducible rfl) ?_|refine CW.condd_t rfl (by omega) ?_|refine CW.skip ?_)|(first|refine Post.seq ?_|refine Post.blk ?_)|refine SW.nil ?_|refine SW.pure rfl rfl ?_|(show SW _ _ _ _ (⟨_,Op.binOp _ _ _ _ _,_,_,_,none⟩::_) _ _;refine SW.st (st_add rfl rfl (by omega) (by omega)) rfl ?_)|(show SW _ _ _ _ (⟨_,Op.indexAddr _ _ _,_,_,_,none⟩::_) _ _;refine SW.st (st_indexN rfl rfl (by assumption) (by omega)) rfl ?_)|(show SW _ _ _ _ (⟨_,Op.load _ _,_,_,_,none⟩::_) _ _;refine SW.st (st_loadx hw rfl (hl.one hkn rfl)) rfl ?_)|(refine SW.st ((st_eqStr rfl rfl).eq (congrArg Value.bool (decide_eq_false hx))) rfl ?_))
   refine Post.again (k+1) ⟨rfl,rfl,rfl,rfl,trivial⟩ (by omega) ⟨by omega,hw,fun i h' hi => ?_⟩
   by_cases hik:i=k
   ·subst hik
    exact fun e=>hx e.symm
   ·exact hI i h' (by omega)
 ·repeat' (first|(first|refine CW.seq ?_|refine CW.region ?_|refine CW.condd_f rfl (by omega) ?_|refine CW.ret ?_|refine CW.exit ?_)|(first|refine Post.seq ?_|refine Post.seq_exit ?_|refine Post.hit ?_|refine Post.again_exit ?_)|refine SW.nil ?_|refine SW.pure rfl rfl ?_)
  refine Post.ret1 rfl rfl ⟨_,rfl,hw,_,rfl,?_⟩
  have hx:hasS l x=false:=by
   cases e:hasS l x
   ·rfl
   ·obtain ⟨i,hi,e⟩:=List.getElem_of_mem (hasS_iff.1 e)
    exact absurd e (hI i hi (by omega))
  rw [hx]
  simp
theorem ContainsString_ans (A:Option Addr) (n c:Nat) (l:List ByteArray) (x:ByteArray) (w:World) (hl:Sl w 1 encStr A n l) (hn:n≤9223372036854775807) :
 Ans Tryz.prog 98 [.slice A n c,.string x] w fun v _=>v = .bool (hasS l x):=by
 refine ans_of Tryz.func98 rfl Tryz.ntmps98 rfl ?_
 have hw:=Ext.refl w
 repeat' (first|(first|refine CW.seq ?_|refine CW.region ?_)|(refine Post.seq ?_)|refine SW.nil ?_|refine SW.pure rfl rfl ?_)
 refine SW.call rfl rfl (IndexString_ans _ _ _ _ _ _ (hl.ext hw) hn) fun v w1 hw1 hv => ?_
 obtain ⟨i,rfl,hi⟩:=hv
 replace hw:=Ext.trans hw hw1
 repeat' (first|(refine CW.ret ?_)|(refine Post.seq ?_)|refine SW.nil ?_|refine SW.pure rfl rfl ?_)
 exact Post.ret1 rfl rfl ⟨_,rfl,hw,by rw [hi]⟩
theorem idxOf_congr {α β : Type} {p : α → Bool} {q : β → Bool} {l:List α} {m:List β} (hl:l.length=m.length) (h:∀ (k:Nat) (h1:k<l.length) (h2:k<m.length),p l[k]=q m[k]) : idxOf p l=idxOf q m∧l.any p=m.any q:=by
 have e:l.map p=m.map q:=List.ext_getElem (by simp [hl]) fun k h1 h2=>by simpa using h k (by simpa using h1) (by simpa using h2)
 have a1:l.any p=m.any q:=by
  have x1:(l.map p).any id=l.any p:=by rw [List.any_map];rfl
  have x2:(m.map q).any id=m.any q:=by rw [List.any_map];rfl
  rw [← x1,← x2,e]
 have a2:l.findIdx p=m.findIdx q:=by
  have x1:(l.map p).findIdx id=l.findIdx p:=by rw [List.findIdx_map];rfl
  have x2:(m.map q).findIdx id=m.findIdx q:=by rw [List.findIdx_map];rfl
  rw [← x1,← x2,e]
 unfold idxOf
 rw [a1,a2]
 exact ⟨rfl,rfl⟩
theorem SlStr_uniq {w:World} {A:Option Addr} {n:Nat} {l l':List ByteArray} (h:Sl w 1 encStr A n l) (h':Sl w 1 encStr A n l') : l=l':=by
 have e1:=h.len
 have e2:=h'.len
 refine List.ext_getElem (by omega) fun k h1 h2 => ?_
 have a:=h.one (i:=k) (by omega) (u := .string l[k]) rfl
 have b:=h'.one (i:=k) (by omega) (u := .string l'[k]) rfl
 rw [a] at b
 simpa using b
theorem namedP_ex (w:World) (n:ByteArray) : ∃ p:CRow→Bool,∀ x c,RdC w x c→p x=hasN n c:=by
 classical
 refine ⟨fun x=>decide (∃ c,RdC w x c∧hasN n c=true),fun x c h => ?_⟩
 cases e:hasN n c
 ·refine decide_eq_false ?_
  rintro ⟨c',h',e'⟩
  unfold hasN at e e'
  rw [SlStr_uniq h'.names h.names,e] at e'
  cases e'
 ·exact decide_eq_true ⟨c,h,e⟩
theorem namedF_ans (x:CRow) (c:KCache) (b3:Nat) (n:ByteArray) (w:World) (h3:Blk w b3 9 [.string n]) (hx:RdC w x c) (hn:x.Names.n≤9223372036854775807) :
 Ans Tryz.prog 204 ([.agg (encC x).toArray]++[.pointer (some ⟨b3,0,none⟩)]) w fun v _=>v = .bool (hasN n c):=by
 refine ans_of Tryz.func204 rfl Tryz.ntmps204 rfl ?_
 refine CW.seq (CW.region (SW.box rfl rfl fun b1 w1 hw hb1b hb1 => ?_))
 replace h3:=h3.ext hw
 have h3c:=h3.cell (i:=0) (v := .string n) rfl
 rw [add_zero] at h3c
 repeat' (first|(first|refine CW.seq ?_|refine CW.region ?_|refine CW.ret ?_)|(refine Post.seq ?_)|refine SW.nil ?_|refine SW.pure rfl rfl ?_|(show SW _ _ _ _ (⟨_,Op.fieldAddr _ _ _,_,_,_,none⟩::_) _ _;refine SW.st (st_field rfl) rfl ?_)|(show SW _ _ _ _ (⟨_,Op.load _ _,_,_,_,none⟩::_) _ _;first|refine SW.st (st_load rfl (hb1.cell (i:=0) (v := .slice x.Names.A x.Names.n x.Names.c) rfl)) rfl ?_|refine SW.st (st_load rfl h3c) rfl ?_)|(show SW _ _ _ _ (⟨_,Op.call ⟨.value (.func _),_,_⟩,_,_,_,none⟩::_) _ _;(refine SW.call rfl rfl (ContainsString_ans _ _ _ _ _ _ (hx.names.ext hw) hn) ?_;intro v w1 hw1 hv;subst hv;replace hw:=Ext.trans hw hw1;replace hb1:=hb1.ext hw1;clear hw1)))
 exact Post.ret1 rfl rfl ⟨_,rfl,hw,rfl⟩
theorem named_ans (r:SRow) (s:KSystem) (n:ByteArray) (w:World) (hr:RdS w r s) (hs:s.small) :
 Ans Tryz.prog 136 [.agg (encSys r).toArray,.string n] w fun v _=>v = .tuple #[.int .i64 (idxOf (hasN n) s.Caches),.bool (s.Caches.any (hasN n))]:=by
 refine ans_of Tryz.func136 rfl Tryz.ntmps136 rfl ?_
 obtain ⟨cs,hc⟩:=hr.caches
 obtain ⟨z1,z2⟩:=hc.len
 have m3:=hs.caches
 obtain ⟨p,hp⟩:=namedP_ex w n
 have hcong:=idxOf_congr (p:=p) (q:=hasN n) (l:=cs) (m:=s.Caches) (by omega) fun k h1 h2=>hp _ _ (hc.each.get k h1 h2)
 refine CW.seq (CW.region (SW.box rfl rfl fun b2 w1 hw hb2b hb2 => ?_))
 refine SW.box1 rfl rfl rfl fun b3 w2 hw2 hb3b hb3 => ?_
 (replace hw:=Ext.trans hw hw2;replace hb2:=hb2.ext hw2)
 repeat' (first|(first|refine CW.seq ?_|refine CW.region ?_)|(refine Post.seq ?_)|refine SW.nil ?_|refine SW.pure rfl rfl ?_|(show SW _ _ _ _ (⟨_,Op.fieldAddr _ _ _,_,_,_,none⟩::_) _ _;refine SW.st (st_field rfl) rfl ?_)|(show SW _ _ _ _ (⟨_,Op.load _ _,_,_,_,none⟩::_) _ _;refine SW.st (st_load rfl (hb2.cell (i:=6) (v := .slice r.Caches.A r.Caches.n r.Caches.c) rfl)) rfl ?_)|(refine SW.st (st_func (vs:=[.pointer (some ⟨b3,0,none⟩)]) rfl) rfl ?_))
 refine SW.call rfl rfl (IndexFuncCRow_ans _ _ _ _ _ (hc.row.ext hw) _ [.pointer (some ⟨b3,0,none⟩)] p (fun x => .agg (encC x).toArray) (fun x=>rfl) (fun x hx w1 hx1=>by
  obtain ⟨k,hk,rfl⟩:=List.getElem_of_mem hx
  have hk':k<s.Caches.length:=by omega
  have hck:=hc.each.get k hk hk'
  have q1:=(hs.each _ (List.getElem_mem hk')).names
  have q2:=hck.names.len
  rw [hp _ _ hck]
  exact namedF_ans _ _ b3 n w1 (hb3.ext hx1) (hck.ext (Ext.trans hw hx1)) (by omega)) (by omega)) fun v w4 hw4 hv => ?_
 subst hv
 rw [hcong.1]
 replace hw:=Ext.trans hw hw4
 have hge:=idxOf_ge (hasN n) s.Caches
 repeat' (first|(first|refine CW.seq ?_|refine CW.region ?_|refine CW.ret ?_)|(refine Post.seq ?_)|refine SW.nil ?_|refine SW.pure rfl rfl ?_)
 all_goals exact Post.ret2 rfl rfl rfl ⟨_,rfl,hw,by rw [hge]⟩
theorem isNaNC_ans (x:ByteArray) (w:World) : Ans Tryz.prog 239 [.string x] w fun v _=>v = .bool false:=by
 refine ans_of Tryz.func239 rfl Tryz.ntmps239 rfl ?_
 have hw:=Ext.refl w
 repeat' (first|(first|refine CW.seq ?_|refine CW.region ?_|refine CW.ret ?_)|(refine Post.seq ?_)|refine SW.nil ?_|refine SW.pure rfl rfl ?_|(refine SW.st ((st_neStr' rfl rfl).eq (congrArg Value.bool (decide_eq_false (fun h=>h rfl)))) rfl ?_))
 exact Post.ret1 rfl rfl ⟨_,rfl,hw,rfl⟩
theorem isNaNS_ans (x:ByteArray) (w:World) : Ans Tryz.prog 206 [.string x] w fun v _=>v = .bool false:=by
 refine ans_of Tryz.func206 rfl Tryz.ntmps206 rfl ?_
 have hw:=Ext.refl w
 repeat' (first|(first|refine CW.seq ?_|refine CW.region ?_|refine CW.ret ?_)|(refine Post.seq ?_)|refine SW.nil ?_|refine SW.pure rfl rfl ?_|(refine SW.st ((st_neStr' rfl rfl).eq (congrArg Value.bool (decide_eq_false (fun h=>h rfl)))) rfl ?_))
 exact Post.ret1 rfl rfl ⟨_,rfl,hw,rfl⟩
theorem LessStr_ans (x y:ByteArray) (w:World) : Ans Tryz.prog 205 [.string x,.string y] w fun v _=>v = .bool (lessS x y):=by
 refine ans_of Tryz.func205 rfl Tryz.ntmps205 rfl ?_
 have hw:=Ext.refl w
 repeat' (first|(first|refine CW.seq ?_|refine CW.region ?_|refine CW.ret ?_)|(refine Post.seq ?_)|refine SW.nil ?_|(show SW _ _ _ _ (⟨_,_,_,_,_,some _⟩::_) _ _;first|refine SW.want_f rfl rfl (by with_reducible rfl) ?_|refine SW.skip_t rfl rfl (by with_reducible rfl) rfl ?_)|refine SW.pure rfl rfl ?_|(show SW _ _ _ _ (⟨_,Op.call ⟨.value (.func _),_,_⟩,_,_,_,none⟩::_) _ _;(refine SW.call rfl rfl (isNaNC_ans _ _) ?_;intro v w1 hw1 hv;subst hv;replace hw:=Ext.trans hw hw1;clear hw1))|(refine SW.st (st_ltStr rfl rfl) rfl ?_))
 exact Post.ret1 rfl rfl ⟨_,rfl,hw,rfl⟩
theorem BinStr_ans (A:Option Addr) (n c:Nat) (l:List ByteArray) (x:ByteArray) (w:World) (hl:Sl w 1 encStr A n l) (hs:Sorted l) (hn:n≤1000000000000000000) :
 Ans Tryz.prog 139 [.slice A n c,.string x] w fun v _ => ∃ b,v = .tuple #[.int .i64 (posS l x:Int),.bool b]:=by
 refine ans_of Tryz.func139 rfl Tryz.ntmps139 rfl ?_
 have hw:=Ext.refl w
 have hA:=hl.base
 have hll:=hl.len
 repeat' (first|(first|refine CW.seq ?_|refine CW.region ?_|refine CW.block ?_)|(refine Post.seq ?_)|refine SW.nil ?_|refine SW.pure rfl rfl ?_|(show SW _ _ _ _ (⟨_,Op.call ⟨.builtin .len,_,_⟩,_,_,_,none⟩::_) _ _;refine SW.st (st_len rfl) rfl ?_))
 refine CW.loop (fun s:Nat×Nat=>[(0,.slice A n c),(1,.string x),(6,.int .i64 (n:Int)),(7,.int .i64 (s.1:Int)),(8,.int .i64 (s.2:Int))])
  (fun s w'=>s.1≤s.2∧s.2≤n∧Ext w w'∧(∀ (k:Nat) (h:k<l.length),k<s.1→lessS l[k] x=true)∧(∀ (k:Nat) (h:k<l.length),s.2≤k→lessS l[k] x=false)) (fun s=>s.2-s.1) (0,n)
  ⟨rfl,rfl,rfl,rfl,rfl,trivial⟩ ⟨by omega,by omega,hw,fun k h h'=>by omega,fun k h h'=>by omega⟩ ?_
 clear hw
 rintro ⟨i,j⟩ w' ⟨hij,hjn,hw,hI,hJ⟩
 simp only at hij hjn hI hJ ⊢
 by_cases hlt:i<j
 ·have hk:(i+j) / 2<n:=by omega
  have hkl:=hl.lt hk
  obtain ⟨q,hq⟩ : ∃ q,lessS (l[(i+j) / 2]) x=q:=⟨_,rfl⟩
  have cL:∀ w',Ans Tryz.prog 205 [.string (l[(i+j) / 2]),.string x] w' fun v _=>v = .bool q:=fun w'=>by
   have:=LessStr_ans (l[(i+j) / 2]) x w'
   rwa [hq] at this
  cases q
  ·repeat' (first|(first|refine CW.seq ?_|refine CW.region ?_|refine CW.block ?_|refine CW.condfr rfl (by with_reducible rfl) ?_|refine CW.condd_t rfl (by omega) ?_|refine CW.skip ?_)|(first|refine Post.seq ?_|refine Post.blk ?_)|refine SW.nil ?_|refine SW.pure rfl rfl ?_|(show SW _ _ _ _ (⟨_,Op.binOp _ _ _ _ _,_,_,_,none⟩::_) _ _;refine SW.st (st_add rfl rfl (by omega) (by omega)) rfl ?_)|(show SW _ _ _ _ (⟨_,Op.indexAddr _ _ _,_,_,_,none⟩::_) _ _;refine SW.st (st_indexN rfl rfl (by assumption) (by omega)) rfl ?_)|(show SW _ _ _ _ (⟨_,Op.load _ _,_,_,_,none⟩::_) _ _;refine SW.st (st_loadx hw rfl (hl.one hk rfl)) rfl ?_)|(show SW _ _ _ _ (⟨_,Op.call ⟨.value (.func _),_,_⟩,_,_,_,none⟩::_) _ _;(refine SW.call rfl rfl (cL _) ?_;intro v w1 hw1 hv;subst hv;replace hw:=Ext.trans hw hw1;clear hw1))|(refine SW.st ((st_convI Tryz.underlying3 und_uint rfl).eq (congrArg (Value.int .u64) (wrap_u64 (by omega) (by omega)))) rfl ?_)|(refine SW.st ((st_convI und_uint Tryz.underlying3 rfl).eq (congrArg (Value.int .i64) (wrap_in (by omega) (by omega)))) rfl ?_)|(refine SW.st (st_shr1 rfl rfl) rfl ?_))
   refine Post.again (i,(i+j) / 2) ⟨rfl,rfl,rfl,rfl,congrArg (fun z=>some (Value.int .i64 z)) (by omega),trivial⟩ (by simp only;omega) ⟨by simp only;omega,by simp only;omega,hw,hI,fun k h h' => ?_⟩
   simp only at h'
   by_cases e:k=(i+j) / 2
   ·subst e;exact hq
   ·cases c:lessS l[k] x
    ·rfl
    ·have:=lessS_trans (hs ((i+j) / 2) k hkl h (by omega)) c
     rw [hq] at this
     cases this
  ·repeat' (first|(first|refine CW.seq ?_|refine CW.region ?_|refine CW.block ?_|refine CW.condtr rfl (by with_reducible rfl) ?_|refine CW.condd_t rfl (by omega) ?_|refine CW.skip ?_)|(first|refine Post.seq ?_|refine Post.blk ?_)|refine SW.nil ?_|refine SW.pure rfl rfl ?_|(show SW _ _ _ _ (⟨_,Op.binOp _ _ _ _ _,_,_,_,none⟩::_) _ _;refine SW.st (st_add rfl rfl (by omega) (by omega)) rfl ?_)|(show SW _ _ _ _ (⟨_,Op.indexAddr _ _ _,_,_,_,none⟩::_) _ _;refine SW.st (st_indexN rfl rfl (by assumption) (by omega)) rfl ?_)|(show SW _ _ _ _ (⟨_,Op.load _ _,_,_,_,none⟩::_) _ _;refine SW.st (st_loadx hw rfl (hl.one hk rfl)) rfl ?_)|(show SW _ _ _ _ (⟨_,Op.call ⟨.value (.func _),_,_⟩,_,_,_,none⟩::_) _ _;(refine SW.call rfl rfl (cL _) ?_;intro v w1 hw1 hv;subst hv;replace hw:=Ext.trans hw hw1;clear hw1))|(refine SW.st ((st_convI Tryz.underlying3 und_uint rfl).eq (congrArg (Value.int .u64) (wrap_u64 (by omega) (by omega)))) rfl ?_)|(refine SW.st ((st_convI und_uint Tryz.underlying3 rfl).eq (congrArg (Value.int .i64) (wrap_in (by omega) (by omega)))) rfl ?_)|(refine SW.st (st_shr1 rfl rfl) rfl ?_))
   refine Post.again ((i+j) / 2+1,j) ⟨rfl,rfl,rfl,congrArg (fun z=>some (Value.int .i64 z)) (by omega),rfl,trivial⟩ (by simp only;omega) ⟨by simp only;omega,hjn,hw,fun k h h' => ?_,hJ⟩
   simp only at h'
   by_cases e:k=(i+j) / 2
   ·subst e;exact hq
   ·exact lessS_trans (hs k ((i+j) / 2) h hkl (by omega)) hq
 ·obtain rfl:i=j:=by omega
  have hp:posS l x=i:=posS_uniq (by omega) (fun j hj h=>hI j hj h) (fun h=>hJ i h (by omega))
  rw [hp]
  by_cases hin:i<n
  ·by_cases he:l[i]'(hl.lt hin)=x
   ·repeat' (first|(first|refine CW.seq ?_|refine CW.region ?_|refine CW.condd_f rfl (by omega) ?_|refine CW.ret ?_|refine CW.exit ?_)|(first|refine Post.seq ?_|refine Post.seq_exit ?_|refine Post.hit ?_|refine Post.again_exit ?_)|refine SW.nil ?_|(show SW _ _ _ _ (⟨_,_,_,_,_,some _⟩::_) _ _;first|refine SW.want_t rfl rfl (by with_reducible rfl) ?_|refine SW.skip_f rfl rfl (by with_reducible rfl) rfl ?_|refine SW.skip_u rfl rfl (by with_reducible rfl) rfl ?_|refine SW.splitd_t rfl rfl rfl (by omega) ?_)|refine SW.pure rfl rfl ?_|(show SW _ _ _ _ (⟨_,Op.indexAddr _ _ _,_,_,_,none⟩::_) _ _;refine SW.st (st_indexN rfl rfl (by assumption) (by omega)) rfl ?_)|(show SW _ _ _ _ (⟨_,Op.load _ _,_,_,_,none⟩::_) _ _;refine SW.st (st_loadx hw rfl (hl.one hin rfl)) rfl ?_)|(refine SW.st ((st_eqStr rfl rfl).eq (congrArg Value.bool (decide_eq_true he))) rfl ?_))
    exact Post.ret2 rfl rfl rfl ⟨_,rfl,hw,_,rfl⟩
   ·repeat' (first|(first|refine CW.seq ?_|refine CW.region ?_|refine CW.condd_f rfl (by omega) ?_|refine CW.ret ?_|refine CW.exit ?_)|(first|refine Post.seq ?_|refine Post.seq_exit ?_|refine Post.hit ?_|refine Post.again_exit ?_)|refine SW.nil ?_|(show SW _ _ _ _ (⟨_,_,_,_,_,some _⟩::_) _ _;first|refine SW.want_t rfl rfl (by with_reducible rfl) ?_|refine SW.want_f rfl rfl (by with_reducible rfl) ?_|refine SW.skip_t rfl rfl (by with_reducible rfl) rfl ?_|refine SW.splitd_t rfl rfl rfl (by omega) ?_)|refine SW.pure rfl rfl ?_|(show SW _ _ _ _ (⟨_,Op.indexAddr _ _ _,_,_,_,none⟩::_) _ _;refine SW.st (st_indexN rfl rfl (by assumption) (by omega)) rfl ?_)|(show SW _ _ _ _ (⟨_,Op.load _ _,_,_,_,none⟩::_) _ _;refine SW.st (st_loadx hw rfl (hl.one hin rfl)) rfl ?_)|(show SW _ _ _ _ (⟨_,Op.call ⟨.value (.func _),_,_⟩,_,_,_,none⟩::_) _ _;(refine SW.call rfl rfl (isNaNS_ans _ _) ?_;intro v w1 hw1 hv;subst hv;replace hw:=Ext.trans hw hw1;clear hw1))|(refine SW.st ((st_eqStr rfl rfl).eq (congrArg Value.bool (decide_eq_false he))) rfl ?_))
    exact Post.ret2 rfl rfl rfl ⟨_,rfl,hw,_,rfl⟩
  ·repeat' (first|(first|refine CW.seq ?_|refine CW.region ?_|refine CW.condd_f rfl (by omega) ?_|refine CW.ret ?_|refine CW.exit ?_)|(first|refine Post.seq ?_|refine Post.seq_exit ?_|refine Post.hit ?_|refine Post.again_exit ?_)|refine SW.nil ?_|(show SW _ _ _ _ (⟨_,_,_,_,_,some _⟩::_) _ _;first|refine SW.skip_t rfl rfl (by with_reducible rfl) rfl ?_|refine SW.skip_u rfl rfl (by with_reducible rfl) rfl ?_|refine SW.splitd_f rfl rfl rfl (by omega) ?_)|refine SW.pure rfl rfl ?_)
   exact Post.ret2 rfl rfl rfl ⟨_,rfl,hw,_,rfl⟩
theorem cacheOf_ans (r:SRow) (s:KSystem) (n:ByteArray) (w:World) (hr:RdS w r s) (hs:s.small) :
 Ans Tryz.prog 118 [.agg (encSys r).toArray,.string n] w fun v _=>v = .int .i64 (idxOf (hasN n) s.Caches):=by
 refine ans_of Tryz.func118 rfl Tryz.ntmps118 rfl ?_
 refine CW.seq (CW.region (SW.box rfl rfl fun b2 w1 hw hb2b hb2 => ?_))
 obtain ⟨cs,hc⟩:=hr.caches
 obtain ⟨z1,z2⟩:=hc.len
 have m3:=hs.caches
 repeat' (first|(first|refine CW.seq ?_|refine CW.region ?_|refine CW.block ?_)|(refine Post.seq ?_)|refine SW.nil ?_|refine SW.pure rfl rfl ?_)
 refine CW.loop (fun k:Nat=>[(1,.string n),(2,.pointer (some ⟨b2,0,none⟩)),(5,.int .i64 (k:Int))])
  (fun k w'=>k≤r.Caches.n∧Ext w w'∧Blk w' b2 44 (encSys r) ∧ ∀ (j:Nat) (hj:j<s.Caches.length),j<k→hasN n s.Caches[j]=false) (fun k=>r.Caches.n-k) 0
  ⟨rfl,rfl,rfl,trivial⟩ ⟨by omega,hw,hb2,fun j hj h=>by omega⟩ ?_
 clear hw hb2
 rintro i w' ⟨hk,hw,hb2,hI⟩
 have hA:=hc.row.base
 by_cases hin:i<r.Caches.n
 ·have hic:i<cs.length:=by omega
  have hil:i<s.Caches.length:=by omega
  have hck:=hc.each.get i hic hil
  have sm:=(hs.each _ (List.getElem_mem hil)).names
  have q1:=hck.names.len
  have g0:=hc.row.fld hin (j:=0) (u := .slice cs[i].Names.A cs[i].Names.n cs[i].Names.c) rfl
  repeat' (first|(first|refine CW.seq ?_|refine CW.region ?_|refine CW.block ?_|refine CW.condd_t rfl (by omega) ?_|refine CW.skip ?_)|(refine Post.seq ?_)|refine SW.nil ?_|refine SW.pure rfl rfl ?_|(show SW _ _ _ _ (⟨_,Op.fieldAddr _ _ _,_,_,_,none⟩::_) _ _;refine SW.st (st_field rfl) rfl ?_)|(show SW _ _ _ _ (⟨_,Op.call ⟨.builtin .len,_,_⟩,_,_,_,none⟩::_) _ _;refine SW.st (st_len rfl) rfl ?_)|(show SW _ _ _ _ (⟨_,Op.load _ _,_,_,_,none⟩::_) _ _;refine SW.st (st_load rfl (hb2.cell (i:=6) (v := .slice r.Caches.A r.Caches.n r.Caches.c) rfl)) rfl ?_))
  refine CW.loop (fun k:Nat=>[(1,.string n),(2,.pointer (some ⟨b2,0,none⟩)),(5,.int .i64 (i:Int)),(6,.int .i64 (k:Int))])
   (fun k w'=>k≤cs[i].Names.n∧Ext w w'∧Blk w' b2 44 (encSys r) ∧ ∀ (j:Nat) (hj:j<s.Caches[i].Names.length),j<k→s.Caches[i].Names[j]≠n) (fun k=>cs[i].Names.n-k) 0
   ⟨rfl,rfl,rfl,rfl,trivial⟩ ⟨by omega,hw,hb2,fun j hj h=>by omega⟩ ?_
  clear hw hb2
  rintro k w' ⟨hk,hw,hb2,hJ⟩
  have hA1:=hck.names.base
  by_cases hkn:k<cs[i].Names.n
  ·have hkl:k<s.Caches[i].Names.length:=by omega
   by_cases he:s.Caches[i].Names[k]=n
   ·have hh:hasN n s.Caches[i]=true:=hasS_iff.2 (he ▸ List.getElem_mem hkl)
    repeat' (first|(first|refine CW.seq ?_|refine CW.region ?_|refine CW.block ?_|refine CW.condtr rfl (by with_reducible rfl) ?_|refine CW.condd_t rfl (by omega) ?_|refine CW.skip ?_|refine CW.ret ?_)|(first|refine Post.seq ?_|refine Post.seq_ret ?_|refine Post.blk_ret ?_|refine Post.again_ret ?_)|refine SW.nil ?_|refine SW.pure rfl rfl ?_|(show SW _ _ _ _ (⟨_,Op.fieldAddr _ _ _,_,_,_,none⟩::_) _ _;refine SW.st (st_field rfl) rfl ?_)|(show SW _ _ _ _ (⟨_,Op.indexAddr _ _ _,_,_,_,none⟩::_) _ _;refine SW.st (st_indexN rfl rfl (by assumption) (by omega)) rfl ?_)|(show SW _ _ _ _ (⟨_,Op.call ⟨.builtin .len,_,_⟩,_,_,_,none⟩::_) _ _;refine SW.st (st_len rfl) rfl ?_)|(show SW _ _ _ _ (⟨_,Op.load _ _,_,_,_,none⟩::_) _ _;first|refine SW.st (st_load rfl (hb2.cell (i:=6) (v := .slice r.Caches.A r.Caches.n r.Caches.c) rfl)) rfl ?_|refine SW.st (st_loadx hw rfl g0) rfl ?_|refine SW.st (st_loadx hw rfl (hck.names.one hkn rfl)) rfl ?_)|(refine SW.st ((st_eqStr rfl rfl).eq (congrArg Value.bool (decide_eq_true he))) rfl ?_))
    exact Post.ret1 rfl rfl ⟨_,rfl,hw,by rw [idxOf_hit hil hh hI]⟩
   ·repeat' (first|(first|refine CW.seq ?_|refine CW.region ?_|refine CW.block ?_|refine CW.condfr rfl (by with_reducible rfl) ?_|refine CW.condd_t rfl (by omega) ?_|refine CW.skip ?_)|(first|refine Post.seq ?_|refine Post.blk ?_)|refine SW.nil ?_|refine SW.pure rfl rfl ?_|(show SW _ _ _ _ (⟨_,Op.fieldAddr _ _ _,_,_,_,none⟩::_) _ _;refine SW.st (st_field rfl) rfl ?_)|(show SW _ _ _ _ (⟨_,Op.binOp _ _ _ _ _,_,_,_,none⟩::_) _ _;refine SW.st (st_add rfl rfl (by omega) (by omega)) rfl ?_)|(show SW _ _ _ _ (⟨_,Op.indexAddr _ _ _,_,_,_,none⟩::_) _ _;refine SW.st (st_indexN rfl rfl (by assumption) (by omega)) rfl ?_)|(show SW _ _ _ _ (⟨_,Op.call ⟨.builtin .len,_,_⟩,_,_,_,none⟩::_) _ _;refine SW.st (st_len rfl) rfl ?_)|(show SW _ _ _ _ (⟨_,Op.load _ _,_,_,_,none⟩::_) _ _;first|refine SW.st (st_load rfl (hb2.cell (i:=6) (v := .slice r.Caches.A r.Caches.n r.Caches.c) rfl)) rfl ?_|refine SW.st (st_loadx hw rfl g0) rfl ?_|refine SW.st (st_loadx hw rfl (hck.names.one hkn rfl)) rfl ?_)|(refine SW.st ((st_eqStr rfl rfl).eq (congrArg Value.bool (decide_eq_false he))) rfl ?_))
    exact Post.again (k+1) ⟨rfl,rfl,rfl,rfl,trivial⟩ (by omega) ⟨by omega,hw,hb2,fun j hj h=>by
     by_cases e:j=k
     ·subst e;exact he
     ·exact hJ j hj (by omega)⟩
  ·have hh:hasN n s.Caches[i]=false:=by
    cases e:hasN n s.Caches[i]
    ·rfl
    ·obtain ⟨j,hj,e⟩:=List.getElem_of_mem (hasS_iff.1 e)
     exact absurd e (hJ j hj (by omega))
   repeat' (first|(first|refine CW.seq ?_|refine CW.region ?_|refine CW.condd_f rfl (by omega) ?_|refine CW.exit ?_)|(first|refine Post.seq ?_|refine Post.seq_exit ?_|refine Post.hit ?_|refine Post.blk ?_|refine Post.again_exit ?_)|refine SW.nil ?_|refine SW.pure rfl rfl ?_|(show SW _ _ _ _ (⟨_,Op.fieldAddr _ _ _,_,_,_,none⟩::_) _ _;refine SW.st (st_field rfl) rfl ?_)|(show SW _ _ _ _ (⟨_,Op.binOp _ _ _ _ _,_,_,_,none⟩::_) _ _;refine SW.st (st_add rfl rfl (by omega) (by omega)) rfl ?_)|(show SW _ _ _ _ (⟨_,Op.indexAddr _ _ _,_,_,_,none⟩::_) _ _;refine SW.st (st_indexN rfl rfl (by assumption) (by omega)) rfl ?_)|(show SW _ _ _ _ (⟨_,Op.call ⟨.builtin .len,_,_⟩,_,_,_,none⟩::_) _ _;refine SW.st (st_len rfl) rfl ?_)|(show SW _ _ _ _ (⟨_,Op.load _ _,_,_,_,none⟩::_) _ _;first|refine SW.st (st_load rfl (hb2.cell (i:=6) (v := .slice r.Caches.A r.Caches.n r.Caches.c) rfl)) rfl ?_|refine SW.st (st_loadx hw rfl g0) rfl ?_))
   exact Post.again (i+1) ⟨rfl,rfl,rfl,trivial⟩ (by omega) ⟨by omega,hw,hb2,fun j hj h=>by
    by_cases e:j=i
    ·subst e;exact hh
    ·exact hI j hj (by omega)⟩
 ·repeat' (first|(first|refine CW.seq ?_|refine CW.region ?_|refine CW.condd_f rfl (by omega) ?_|refine CW.ret ?_|refine CW.exit ?_)|(first|refine Post.seq ?_|refine Post.seq_exit ?_|refine Post.hit ?_|refine Post.again_exit ?_)|refine SW.nil ?_|refine SW.pure rfl rfl ?_|(show SW _ _ _ _ (⟨_,Op.fieldAddr _ _ _,_,_,_,none⟩::_) _ _;refine SW.st (st_field rfl) rfl ?_)|(show SW _ _ _ _ (⟨_,Op.call ⟨.builtin .len,_,_⟩,_,_,_,none⟩::_) _ _;refine SW.st (st_len rfl) rfl ?_)|(show SW _ _ _ _ (⟨_,Op.load _ _,_,_,_,none⟩::_) _ _;refine SW.st (st_load rfl (hb2.cell (i:=6) (v := .slice r.Caches.A r.Caches.n r.Caches.c) rfl)) rfl ?_))
  exact Post.ret1 rfl rfl ⟨_,rfl,hw,by rw [(idxOf_none (fun j hj=>hI j hj (by omega))).1]⟩
open Go.RowKit
theorem setAt_app:∀ (vs X Y Z:List Value),vs.length=Y.length→setAt (X++Y++Z) X.length vs=X++vs++Z
 | [],X,Y,Z,h=>by
   have:Y=[]:=List.length_eq_zero_iff.1 (by simpa using h.symm)
   subst this;rfl
 | v::r,X,[],Z,h=>by simp at h
 | v::r,X,y::Y,Z,h=>by
   have e:=setAt_app r (X++[v]) Y Z (by simpa using h)
   simp only [List.length_append,List.length_singleton] at e
   simp only [setAt]
   have e2:(X++(y::Y)++Z).set X.length v=X++[v]++Y++Z:=by
    rw [List.append_assoc,List.set_append_right _ _ (Nat.le_refl _)]
    simp
   rw [e2,e]
   simp
theorem fill_two {sz:Nat} {u v:Value} {cs ds Z:List Value} (hu:u.cells.toList=cs) (hv:v.cells.toList=ds) (hc:cs.length=sz) (hd:ds.length=sz) (hZ:Z.length=2*sz) :
 Instr.fill (fun i=>some (i*sz,sz)) Z.toArray [(0,u),(1,v)]=some (cs++ds).toArray:=by
 have h1:u.cells.size=sz:=by rw [← Array.length_toList,hu,hc]
 have h2:v.cells.size=sz:=by rw [← Array.length_toList,hv,hd]
 have eZ:Z=[]++Z.take sz++Z.drop sz:=by simp
 have s1:setAt Z 0 cs=cs++Z.drop sz:=by
  have:=setAt_app cs [] (Z.take sz) (Z.drop sz) (by simp;omega)
  rw [← eZ] at this
  simpa using this
 have s2:setAt (cs++Z.drop sz) sz ds=cs++ds:=by
  have:=setAt_app ds cs (Z.drop sz) [] (by simp;omega)
  rw [List.append_nil,hc] at this
  simpa using this
 have fold:∀ (x:Value) (off:Nat) (X:List Value),Array.foldl (fun (cs:Array Value) (p:Value×Nat)=>cs.setIfInBounds (off+p.2) p.1) X.toArray x.cells.zipIdx=(setAt X off x.cells.toList).toArray:=fun x off X=>by
  have:=fold_setAt x.cells.toList 0 off X
  rw [Nat.add_zero] at this
  rw [← this,← Array.foldl_toList]
  simp [Array.toList_zipIdx]
 simp only [Instr.fill]
 rw [if_neg (by simp;omega)]
 have f1:=fold u (0*sz) Z
 rw [hu,Nat.zero_mul,s1] at f1
 have f2:=fold v (1*sz) (cs++Z.drop sz)
 rw [hv,Nat.one_mul,s2] at f2
 simp only [Nat.zero_mul,Nat.one_mul] at f1 f2 ⊢
 simp only [f1,f2]
 rw [if_neg (by simp;omega)]
theorem SW.build2 {α : Type} {P:Program} {n:Nat} {ops:Array Oper} {Q:Exit→Act→World→Prop} {rest:List Oper} {L:Env} {w:World} {d:Nat} {T:TypeId} {pos:String} {af:Array Edge} {t e:TypeId} {z:Value} {sz bytes:Nat} {enc : α → List Value}
 [S:SliceTy P t e sz] [E:ElemTy P e z sz bytes] [C:Enc enc sz] {x y:Operand} {u v:Value} (a b : α) (hx:opv L x=some u) (hy:opv L y=some v) (hu:u.cells.toList=enc a) (hv:v.cells.toList=enc b) (hs:Nat.ble sz 1000=true)
 (hn:Nat.blt d n=true) (h:∀ g w',Ext w w'→w.heap.size≤g→Own w' w.heap.size e sz enc (some ⟨g,0,none⟩) 2 2 [a,b]→SW P n ops (.eff Q) rest ((d,.slice (some ⟨g,0,none⟩) 2 2)::L) w') :
 SW P n ops (.eff Q) (⟨some d,.buildSlice t 2 #[(0,x),(1,y)],T,pos,af,none⟩::rest) L w :=
 ⟨fun q hq=>by
  obtain ⟨i,hi,hz,hs',hby⟩:=elem_parts P e (z:=z) (sz:=sz) (bytes:=bytes)
  have hle:sz≤1000:=by simpa using hs
  have hp : 0<sz:=E.pos
  simp only [swp]
  refine wpList_buildSlice rfl t e 2 _ rfl (enc a++enc b).toArray i z S.und hi hz (by rw [hs'];omega) (by rw [hs'];omega) ?_ ?_
  ·have e1:(Array.map (fun (p:Nat×Operand)=>(p.1,q.eval p.2)) #[(0,x),(1,y)]).toList=[(0,u),(1,v)]:=by
    simp [hq.eval hx,hq.eval hy]
   have e2:∀ X:Array Value,X=X.toList.toArray:=fun X=>rfl
   rw [e1,e2 (Array.map _ (Array.range _)),hs']
   exact fill_two hu hv (C.len a) (C.len b) (by simp)
  ·refine (h w.heap.size _ (Ext.alloc w _) (Nat.le_refl _) ⟨rfl,.inr ⟨by omega,w.heap.size,_,rfl,Nat.le_refl _,Blk.new w e (enc a++enc b),Nat.le_refl _,by simp only [maxLen];omega,by simp [C.len];omega,?_⟩⟩).out _ (hq.put hn _)
   simp only [List.flatMap_cons,List.flatMap_nil,List.append_nil]
   exact List.take_of_length_le (by simp [C.len];omega)⟩
open Go.RowKit
section
variable {P:Program} {L:Env} {w:World} {d:Option Nat} {T:TypeId} {pos:String} {af:Array Edge} {g:Option (Nat×Bool)}
theorem st_sliceStr {t:TypeId} [c:StrTy P t] {x lo hi:Operand} {s r:ByteArray} {i j:Int} (hx:opv L x=some (.string s)) (hlo:opv L lo=some (.int .i64 i)) (hhi:opv L hi=some (.int .i64 j)) (h0 : 0≤i) (h1:i≤j) (h2:j≤s.size) (hr:s.extract i.toNat j.toNat=r) :
 St P ⟨d,.slice t x (some lo) (some hi) none,T,pos,af,g⟩ L w (.string r) :=
 ⟨fun _ a ha w' _=>by
  subst hr
  have e1:=ha.eval hx
  have e2:=ha.eval hlo
  have e3:=ha.eval hhi
  have h3:i≤(j.toNat:Int):=by omega
  have h4 : ¬ max j 0<i:=by omega
  generalize a.eval = ρ at *
  simp [execOp,e1,e2,e3,Instr.sliceAt,Instr.slice,Instr.sliceBounds,Instr.sliceBound,asIntOf,run_underlying c.und,h0,h1,h2,h3,h4,show 0≤j by omega]⟩
theorem st_addStr {t ty:TypeId} {x y:Operand} {s r:ByteArray} (hx:opv L x=some (.string s)) (hy:opv L y=some (.string r)) (hb:s.size+r.size≤9223372036854775807) : St P ⟨d,.binOp .add t x y ty,T,pos,af,g⟩ L w (.string (s++r)) :=
 ⟨fun _ a ha w' _=>by
  have e1:=ha.eval hx
  have e2:=ha.eval hy
  generalize a.eval = ρ at *
  have h1 : ¬ IntKind.i64.max<((s.size+r.size:Nat) : Int):=by
   have:IntKind.i64.max=9223372036854775807:=rfl
   omega
  simp only [Int.natCast_add] at h1
  simp [go_sem,e1,e2,Op.stringOp,h1]
  omega⟩
end
theorem fill_six {Z:List Value} {a b c d e f:Value} (hZ:Z.length=6) (ha:a.cells = #[a]) (hb:b.cells = #[b]) (hc:c.cells = #[c]) (hd:d.cells = #[d]) (he:e.cells = #[e]) (hf:f.cells = #[f]) :
 Instr.fill (fun i=>some (i*1,1)) Z.toArray [(0,a),(1,b),(2,c),(3,d),(4,e),(5,f)]=some #[a,b,c,d,e,f]:=by
 match Z,hZ with
 | [z0,z1,z2,z3,z4,z5],_=>simp [Instr.fill,ha,hb,hc,hd,he,hf]
theorem SW.build6 {α : Type} {P:Program} {n:Nat} {ops:Array Oper} {Q:Exit→Act→World→Prop} {rest:List Oper} {L:Env} {w:World} {d:Nat} {T:TypeId} {pos:String} {af:Array Edge} {t e:TypeId} {z:Value} {bytes:Nat} {enc : α → List Value}
 [S:SliceTy P t e 1] [E:ElemTy P e z 1 bytes] [C:Enc enc 1] {x0 x1 x2 x3 x4 x5:Operand} {u0 u1 u2 u3 u4 u5:Value} (l:List α)
 (h0:opv L x0=some u0) (h1:opv L x1=some u1) (h2:opv L x2=some u2) (h3:opv L x3=some u3) (h4:opv L x4=some u4) (h5:opv L x5=some u5)
 (ho:(u0.cells = #[u0]∧u1.cells = #[u1]∧u2.cells = #[u2]∧u3.cells = #[u3]∧u4.cells = #[u4]∧u5.cells = #[u5])) (hl:l.flatMap enc=[u0,u1,u2,u3,u4,u5]) (hl6:l.length=6)
 (hn:Nat.blt d n=true) (h:∀ g w',Ext w w'→w.heap.size≤g→Own w' w.heap.size e 1 enc (some ⟨g,0,none⟩) 6 6 l→SW P n ops (.eff Q) rest ((d,.slice (some ⟨g,0,none⟩) 6 6)::L) w') :
 SW P n ops (.eff Q) (⟨some d,.buildSlice t 6 #[(0,x0),(1,x1),(2,x2),(3,x3),(4,x4),(5,x5)],T,pos,af,none⟩::rest) L w :=
 ⟨fun q hq=>by
  obtain ⟨i,hi,hz,hs',hby⟩:=elem_parts P e (z:=z) (sz:=1) (bytes:=bytes)
  simp only [swp]
  refine wpList_buildSlice rfl t e 6 _ rfl #[u0,u1,u2,u3,u4,u5] i z S.und hi hz (by rw [hs'];omega) (by rw [hs'];omega) ?_ ?_
  ·have e1:(Array.map (fun (p:Nat×Operand)=>(p.1,q.eval p.2)) #[(0,x0),(1,x1),(2,x2),(3,x3),(4,x4),(5,x5)]).toList=[(0,u0),(1,u1),(2,u2),(3,u3),(4,u4),(5,u5)]:=by
    simp [hq.eval h0,hq.eval h1,hq.eval h2,hq.eval h3,hq.eval h4,hq.eval h5]
   have e2:∀ X:Array Value,X=X.toList.toArray:=fun X=>rfl
   rw [e1,e2 (Array.map _ (Array.range _)),hs']
   obtain ⟨a0,a1,a2,a3,a4,a5⟩:=ho
   exact fill_six (by simp) a0 a1 a2 a3 a4 a5
  ·refine (h w.heap.size _ (Ext.alloc w _) (Nat.le_refl _) ⟨hl6,.inr ⟨by omega,w.heap.size,_,rfl,Nat.le_refl _,Blk.new w e [u0,u1,u2,u3,u4,u5],Nat.le_refl _,by simp [maxLen],by simp,?_⟩⟩).out _ (hq.put hn _)
   rw [hl]
   rfl⟩
open Go.RowKit
def kL:List Int:=[1,2,4,8,16,32]
def istr (k:Int) : ByteArray:=if k=1 then ⟨#[49]⟩ else if k=2 then ⟨#[50]⟩ else if k=4 then ⟨#[52]⟩ else if k=8 then ⟨#[56]⟩ else if k=16 then ⟨#[49,54]⟩ else ⟨#[51,50]⟩
def kstr (k:Int) : ByteArray:=if k=1 then ⟨#[107,49]⟩ else if k=2 then ⟨#[107,50]⟩ else if k=4 then ⟨#[107,52]⟩ else if k=8 then ⟨#[107,56]⟩ else if k=16 then ⟨#[107,49,54]⟩ else ⟨#[107,51,50]⟩
theorem kL_cases {k:Int} (h:k∈kL) : k=1∨k=2∨k=4∨k=8∨k=16∨k=32:=by simpa [kL] using h
theorem small_ans (k:Int) (hk:k∈kL) (w:World) : Ans Tryz.prog 258 [.int .i64 k] w fun v _=>v = .string (istr k):=by
 refine ans_of Tryz.func258 rfl Tryz.ntmps258 rfl ?_
 have hw:=Ext.refl w
 rcases kL_cases hk with rfl|rfl|rfl|rfl|rfl|rfl
 all_goals
  repeat' (first|(first|refine CW.seq ?_|refine CW.region ?_|refine CW.condd_t rfl (by omega) ?_|refine CW.condd_f rfl (by omega) ?_|refine CW.skip ?_)|(refine Post.seq ?_)|refine SW.nil ?_|refine SW.pure rfl rfl ?_|(show SW _ _ _ _ (⟨_,Op.binOp _ _ _ _ _,_,_,_,none⟩::_) _ _;first|refine SW.st (st_add rfl rfl (by omega) (by omega)) rfl ?_|refine SW.st (st_mul rfl rfl (by omega) (by omega)) rfl ?_))
  refine SW.st (st_sliceStr rfl rfl rfl (by decide) (by decide) (of_decide_eq_true (by kernel_rfl)) rfl) rfl ?_
  repeat' (first|(refine CW.ret ?_)|(first|refine Post.seq ?_|refine Post.seq_ret ?_)|refine SW.nil ?_|refine SW.pure rfl rfl ?_)
  exact Post.ret1 rfl rfl ⟨_,rfl,hw,congrArg Value.string (by kernel_rfl)⟩
theorem FormatInt_ans (k:Int) (hk:k∈kL) (w:World) : Ans Tryz.prog 241 [.int .i64 k,.int .i64 10] w fun v _=>v = .string (istr k):=by
 refine ans_of Tryz.func241 rfl Tryz.ntmps241 rfl ?_
 have hw:=Ext.refl w
 have hk' : 1≤k∧k≤32:=by rcases kL_cases hk with h|h|h|h|h|h<;>omega
 repeat' (first|(first|refine CW.seq ?_|refine CW.region ?_|refine CW.condd_t rfl (by omega) ?_|refine CW.ret ?_)|(first|refine Post.seq ?_|refine Post.seq_ret ?_)|refine SW.nil ?_|(show SW _ _ _ _ (⟨_,_,_,_,_,some _⟩::_) _ _;first|refine SW.want_t rfl rfl (by with_reducible rfl) ?_|refine SW.splitd_t rfl rfl rfl (by omega) ?_)|refine SW.pure rfl rfl ?_|(show SW _ _ _ _ (⟨_,Op.call ⟨.value (.func _),_,_⟩,_,_,_,none⟩::_) _ _;(refine SW.call rfl rfl (small_ans k hk _) ?_;intro v w1 hw1 hv;subst hv;replace hw:=Ext.trans hw hw1;clear hw1)))
 exact Post.ret1 rfl rfl ⟨_,rfl,hw,rfl⟩
theorem ItoaI_ans (k:Int) (hk:k∈kL) (w:World) : Ans Tryz.prog 209 [.int .i64 k] w fun v _=>v = .string (istr k):=by
 refine ans_of Tryz.func209 rfl Tryz.ntmps209 rfl ?_
 have hw:=Ext.refl w
 repeat' (first|(first|refine CW.seq ?_|refine CW.region ?_|refine CW.ret ?_)|(refine Post.seq ?_)|refine SW.nil ?_|refine SW.pure rfl rfl ?_|(show SW _ _ _ _ (⟨_,Op.call ⟨.value (.func _),_,_⟩,_,_,_,none⟩::_) _ _;(refine SW.call rfl rfl (FormatInt_ans k hk _) ?_;intro v w1 hw1 hv;subst hv;replace hw:=Ext.trans hw hw1;clear hw1)))
 exact Post.ret1 rfl rfl ⟨_,rfl,hw,rfl⟩
theorem Itoa_ans (k:Int) (hk:k∈kL) (w:World) : Ans Tryz.prog 142 [.int .i64 k] w fun v _=>v = .string (istr k):=by
 refine ans_of Tryz.func142 rfl Tryz.ntmps142 rfl ?_
 have hw:=Ext.refl w
 repeat' (first|(first|refine CW.seq ?_|refine CW.region ?_|refine CW.ret ?_)|(refine Post.seq ?_)|refine SW.nil ?_|refine SW.pure rfl rfl ?_|(show SW _ _ _ _ (⟨_,Op.call ⟨.value (.func _),_,_⟩,_,_,_,none⟩::_) _ _;(refine SW.call rfl rfl (ItoaI_ans k hk _) ?_;intro v w1 hw1 hv;subst hv;replace hw:=Ext.trans hw hw1;clear hw1)))
 exact Post.ret1 rfl rfl ⟨_,rfl,hw,rfl⟩
theorem kname_ans (k:Int) (hk:k∈kL) (w:World) : Ans Tryz.prog 59 [.int .i64 k] w fun v _=>v = .string (kstr k):=by
 refine ans_of Tryz.func59 rfl Tryz.ntmps59 rfl ?_
 have hw:=Ext.refl w
 have e:(⟨#[107]⟩ : ByteArray)++istr k=kstr k:=by rcases kL_cases hk with rfl|rfl|rfl|rfl|rfl|rfl<;>kernel_rfl
 have hs:(⟨#[107]⟩ : ByteArray).size+(istr k).size≤9223372036854775807:=by rcases kL_cases hk with rfl|rfl|rfl|rfl|rfl|rfl<;>decide
 repeat' (first|(first|refine CW.seq ?_|refine CW.region ?_|refine CW.ret ?_)|(refine Post.seq ?_)|refine SW.nil ?_|refine SW.pure rfl rfl ?_|(show SW _ _ _ _ (⟨_,Op.call ⟨.value (.func _),_,_⟩,_,_,_,none⟩::_) _ _;(refine SW.call rfl rfl (Itoa_ans k hk _) ?_;intro v w1 hw1 hv;subst hv;replace hw:=Ext.trans hw hw1;clear hw1))|(refine SW.st ((st_addStr rfl rfl hs).eq (congrArg Value.string e)) rfl ?_))
 exact Post.ret1 rfl rfl ⟨_,rfl,hw,rfl⟩
structure SizesW (w:World) : Prop where
 sl:Sl w 1 encI (some ⟨0,0,none⟩) 6 kL
theorem SizesW.ext {w w':World} (h:SizesW w) (hx:Ext w w') : SizesW w':=⟨h.sl.ext hx⟩
def classS (n:Int) : ByteArray:=if n≤1 then kstr 1 else if n≤2 then kstr 2 else if n≤4 then kstr 4 else if n≤8 then kstr 8 else if n≤16 then kstr 16 else if n≤32 then kstr 32 else ⟨#[]⟩
def kN:List ByteArray:=[kstr 1,kstr 2,kstr 4,kstr 8,kstr 16,kstr 32]
theorem classS_k {k:Int} (hk:k∈kL) : classS k=kstr k:=by rcases kL_cases hk with rfl|rfl|rfl|rfl|rfl|rfl<;>rfl
theorem className_ans (n:Int) (w:World) : Ans Tryz.prog 64 [.int .i64 n] w fun v _=>v = .string (classS n):=by
 refine ans_of Tryz.func64 rfl Tryz.ntmps64 rfl ?_
 have hw:=Ext.refl w
 repeat' (first|(first|refine CW.seq ?_|refine CW.region ?_)|(refine Post.seq ?_)|refine SW.nil ?_|refine SW.pure rfl rfl ?_)
 refine SW.build6 (enc:=encI) kL rfl rfl rfl rfl rfl rfl ⟨rfl,rfl,rfl,rfl,rfl,rfl⟩ rfl rfl rfl fun g1 w1 hw1 hg1 hU => ?_
 replace hw:=Ext.trans hw hw1
 replace hU:=hU.sl
 repeat' (first|(first|refine CW.seq ?_|refine CW.region ?_)|(refine Post.seq ?_)|refine SW.nil ?_|refine SW.pure rfl rfl ?_)
 refine SW.build6 (enc:=encStr) kN rfl rfl rfl rfl rfl rfl ⟨rfl,rfl,rfl,rfl,rfl,rfl⟩ rfl rfl rfl fun g2 w2 hw2 hg2 hV => ?_
 replace hw:=Ext.trans hw hw2
 replace hU:=hU.ext hw2
 replace hV:=hV.sl
 repeat' (first|(first|refine CW.seq ?_|refine CW.region ?_|refine CW.block ?_)|(refine Post.seq ?_)|refine SW.nil ?_|refine SW.pure rfl rfl ?_)
 have hAU:=hU.base
 have hAV:=hV.base
 refine CW.loop (fun i:Nat=>[(0,.int .i64 n),(3,.slice (some ⟨g1,0,none⟩) 6 6),(4,.slice (some ⟨g2,0,none⟩) 6 6),(5,.int .i64 (i:Int))])
  (fun i w'=>i≤6∧Ext w w'∧Sl w' 1 encI (some ⟨g1,0,none⟩) 6 kL∧Sl w' 1 encStr (some ⟨g2,0,none⟩) 6 kN ∧ ∀ (j:Nat) (hj:j<6),j<i→(kL[j]'hj)<n) (fun i=>6-i) 0
  ⟨rfl,rfl,rfl,rfl,trivial⟩ ⟨by omega,hw,hU,hV,fun j hj h=>by omega⟩ ?_
 clear hw hU hV
 rintro i w' ⟨hi,hw,hU,hV,hI⟩
 by_cases hi6:i<6
 ·obtain ⟨k,hk⟩ : ∃ k,kL[i]'hi6=k:=⟨_,rfl⟩
  have g0:=hU.one hi6 (u := .int .i64 k) (by show encI (kL[i]'hi6)=_;rw [hk];rfl)
  have g1':=hV.one hi6 (u := .string (kN[i]'hi6)) rfl
  by_cases hle:n≤k
  ·repeat' (first|(first|refine CW.seq ?_|refine CW.region ?_|refine CW.block ?_|refine CW.condd_t rfl (by omega) ?_|refine CW.skip ?_|refine CW.ret ?_)|(first|refine Post.seq ?_|refine Post.seq_ret ?_|refine Post.blk_ret ?_|refine Post.again_ret ?_)|refine SW.nil ?_|refine SW.pure rfl rfl ?_|(show SW _ _ _ _ (⟨_,Op.indexAddr _ _ _,_,_,_,none⟩::_) _ _;refine SW.st (st_indexN rfl rfl (by assumption) (by omega)) rfl ?_)|(show SW _ _ _ _ (⟨_,Op.load _ _,_,_,_,none⟩::_) _ _;first|refine SW.st (st_load rfl g0) rfl ?_|refine SW.st (st_load rfl (g1')) rfl ?_))
   refine Post.ret1 rfl rfl ⟨_,rfl,hw,congrArg Value.string ?_⟩
   have h0 : 0<i→1<n:=fun h=>hI 0 (by decide) h
   have h1 : 1<i→2<n:=fun h=>hI 1 (by decide) h
   have h2 : 2<i→4<n:=fun h=>hI 2 (by decide) h
   have h3 : 3<i→8<n:=fun h=>hI 3 (by decide) h
   have h4 : 4<i→16<n:=fun h=>hI 4 (by decide) h
   subst hk
   unfold classS
   rcases (show i=0∨i=1∨i=2∨i=3∨i=4∨i=5 by omega) with rfl|rfl|rfl|rfl|rfl|rfl
   ·have hle:n≤1:=hle
    rw [if_pos hle];rfl
   ·have hle:n≤2:=hle
    rw [if_neg (by omega),if_pos hle];rfl
   ·have hle:n≤4:=hle
    rw [if_neg (by omega),if_neg (by omega),if_pos hle];rfl
   ·have hle:n≤8:=hle
    rw [if_neg (by omega),if_neg (by omega),if_neg (by omega),if_pos hle];rfl
   ·have hle:n≤16:=hle
    rw [if_neg (by omega),if_neg (by omega),if_neg (by omega),if_neg (by omega),if_pos hle];rfl
   ·have hle:n≤32:=hle
    rw [if_neg (by omega),if_neg (by omega),if_neg (by omega),if_neg (by omega),if_neg (by omega),if_pos hle];rfl
  ·repeat' (first|(first|refine CW.seq ?_|refine CW.region ?_|refine CW.block ?_|refine CW.condd_t rfl (by omega) ?_|refine CW.condd_f rfl (by omega) ?_|refine CW.skip ?_)|(first|refine Post.seq ?_|refine Post.blk ?_)|refine SW.nil ?_|refine SW.pure rfl rfl ?_|(show SW _ _ _ _ (⟨_,Op.binOp _ _ _ _ _,_,_,_,none⟩::_) _ _;refine SW.st (st_add rfl rfl (by omega) (by omega)) rfl ?_)|(show SW _ _ _ _ (⟨_,Op.indexAddr _ _ _,_,_,_,none⟩::_) _ _;refine SW.st (st_indexN rfl rfl (by assumption) (by omega)) rfl ?_)|(show SW _ _ _ _ (⟨_,Op.load _ _,_,_,_,none⟩::_) _ _;refine SW.st (st_load rfl g0) rfl ?_))
   refine Post.again (i+1) ⟨rfl,rfl,rfl,rfl,trivial⟩ (by omega) ⟨by omega,hw,hU,hV,fun j hj h => ?_⟩
   by_cases e:j=i
   ·subst e;omega
   ·exact hI j hj (by omega)
 ·obtain rfl:i=6:=by omega
  have h0 : 32<n:=hI 5 (by decide) (by decide)
  repeat' (first|(first|refine CW.seq ?_|refine CW.region ?_|refine CW.condd_f rfl (by omega) ?_|refine CW.ret ?_|refine CW.exit ?_)|(first|refine Post.seq ?_|refine Post.seq_exit ?_|refine Post.hit ?_|refine Post.again_exit ?_)|refine SW.nil ?_|refine SW.pure rfl rfl ?_)
  refine Post.ret1 rfl rfl ⟨_,rfl,hw,congrArg Value.string ?_⟩
  unfold classS
  rw [if_neg (by omega),if_neg (by omega),if_neg (by omega),if_neg (by omega),if_neg (by omega),if_neg (by omega)]
open Go.RowKit
theorem sizes_named : Tryz.prog.globalNamed "paddock/kmem.sizes" = some 0 := by kernel_rfl
theorem sizes_type:(Tryz.prog.globals[0]?).map (·.type)=some 111:=by kernel_rfl
set_option maxRecDepth 100000 in
theorem sizes_cells {W:World} {cs:List Value} {fuel:Nat} {p:List MemPlace} {enc:TypeId×Value→Unit} {base:Nat} {spare:Nat→Bool} {held:Bool} (h:DataW.trod enc Tryz.prog W base spare held fuel 111 cs=some (Rows.laid_paddock_kmem_sizes,p)) :
 cs=[.int .i64 1,.int .i64 2,.int .i64 4,.int .i64 8,.int .i64 16,.int .i64 32]:=by
 have c6:Tryz.prog.cellsOf 111=6:=by kernel_rfl
 have c1:Tryz.prog.cellsOf 3=1:=by kernel_rfl
 obtain ⟨xs,m,rfl,hx,hlen,hn,hel⟩:=DataW.trod_array Tryz.underlying111 h
 rw [c6] at hlen
 rw [c1] at hel
 simp only [Prod.mk.injEq] at hx
 have one:∀ (a:Value) (u:Int) (x:DataW Unit×List MemPlace),DataW.trod enc Tryz.prog W base spare held m 3 [a]=some x→x.1 = .lit (.int .i64 u)→a = .int .i64 u:=by
  intro a u x hx e
  obtain ⟨z0,e0,f0,_⟩:=DataW.trod_int Tryz.underlying3 hx
  rw [f0] at e
  simp at e e0
  rw [e0,e]
 match cs,hlen,xs,hn with
 | [a,b,c,d,e,f],_,[x0,x1,x2,x3,x4,x5],_ =>
   have hx1:=hx.1
   simp only [Rows.laid_paddock_kmem_sizes,List.map_cons,List.map_nil,DataW.agg.injEq,List.cons.injEq,and_true] at hx1
   obtain rfl:=one a 1 x0 (hel 0 (by decide)) hx1.1.symm
   obtain rfl:=one b 2 x1 (hel 1 (by decide)) hx1.2.1.symm
   obtain rfl:=one c 4 x2 (hel 2 (by decide)) hx1.2.2.1.symm
   obtain rfl:=one d 8 x3 (hel 3 (by decide)) hx1.2.2.2.1.symm
   obtain rfl:=one e 16 x4 (hel 4 (by decide)) hx1.2.2.2.2.1.symm
   obtain rfl:=one f 32 x5 (hel 5 (by decide)) hx1.2.2.2.2.2.symm
   rfl
theorem sizes_of {W : World} {ps : List MemPlace} (h : DataW.LaidVars Tryz.prog W [("paddock/kmem.sizes", Rows.laid_paddock_kmem_sizes)] ps) : SizesW W := by
 obtain ⟨g0,t0,cs0,f0,p0,q0,hg0,ht0,hv0,hd0,_⟩:=h
 obtain rfl:=Option.some.inj (sizes_named.symm.trans hg0)
 obtain rfl:=Option.some.inj (sizes_type.symm.trans ht0)
 have hc:=sizes_cells hd0
 have hcell:∀ i,W.cell? ⟨0,i,none⟩=cs0.toList[i]?:=fun i=>by
  have:=World.var?_cell hg0 hv0 i
  simpa using this
 refine ⟨⟨rfl,fun _=>rfl,fun i hi j u hu => ?_⟩⟩
 have hi6:i<6:=hi
 rw [add_add]
 show W.cell? ((⟨0,0,none⟩ : Addr).add _)=_
 rw [addr_of,hcell,hc]
 have hj:j=0:=by
  rcases Nat.eq_zero_or_pos j with h|h
  ·exact h
  ·rw [List.getElem?_eq_none (by simp [encI];omega)] at hu;cases hu
 subst hj
 rcases (show i=0∨i=1∨i=2∨i=3∨i=4∨i=5 by omega) with rfl|rfl|rfl|rfl|rfl|rfl
 all_goals simpa [kL,encI] using hu
theorem sizes_of_laid {W : World} {D1 D2 D3 : DataW Unit} (hp : ([("math/bits.deBruijn32tab", D1), ("math/bits.deBruijn64tab", D2), ("internal/strconv.uint64pow10", D3), ("paddock/kmem.sizes", Rows.laid_paddock_kmem_sizes)].all fun x => x.2.handleName?.isNone) = true)
 (h : laidMetH Tryz.prog [("math/bits.deBruijn32tab", D1), ("math/bits.deBruijn64tab", D2), ("internal/strconv.uint64pow10", D3), ("paddock/kmem.sizes", Rows.laid_paddock_kmem_sizes)] W) : SizesW W := by
 rw [MakeChecks.laidMetH_plain _ _ _ hp] at h
 obtain ⟨ps,⟨_,_,_,_,_,_,_,_,_,_,⟨_,_,_,_,_,_,_,_,_,_,⟨_,_,_,_,_,_,_,_,_,_,h4,_⟩,_⟩,_⟩,_,_⟩:=h
 exact sizes_of h4
open Go.RowKit
theorem list_ans (A:Option Addr) (n c:Nat) (l:List Region) (w:World) (hl:Sl w 2 encR A n l) (hn:n≤9223372036854775807) :
 Ans Tryz.prog 202 [.slice A n c] w fun v _=>v = .bool (regionsB l):=by
 refine ans_of Tryz.func202 rfl Tryz.ntmps202 rfl ?_
 have hw:=Ext.refl w
 have hA:=hl.base
 have hll:=hl.len
 repeat' (first|(first|refine CW.seq ?_|refine CW.region ?_|refine CW.block ?_|refine CW.condd rfl (fun h => ?_) (fun h => ?_)|refine CW.skip ?_|refine CW.ret ?_)|(first|refine Post.seq ?_|refine Post.seq_ret ?_)|refine SW.nil ?_|refine SW.pure rfl rfl ?_|(show SW _ _ _ _ (⟨_,Op.call ⟨.builtin .len,_,_⟩,_,_,_,none⟩::_) _ _;refine SW.st (st_len rfl) rfl ?_))
 ·refine Post.ret1 rfl rfl ⟨_,rfl,hw,?_⟩
  rw [regionsB_f (fun h=>by have:=h.1;omega)]
 ·refine CW.loop (fun k:Nat=>[(0,.slice A n c),(8,.slice A n c),(9,.int .i64 (n:Int)),(10,.int .i64 (k:Int))]) (fun k w'=>k≤n∧Ext w w' ∧ ∀ (i:Nat) (h:i<l.length),i<k→(l[i]).ok ∧ ∀ (h0 : 0<i),(l[i-1]'(by omega)).From+(l[i-1]'(by omega)).Size<(l[i]).From)
   (fun k=>n-k) 0 ⟨rfl,rfl,rfl,rfl,trivial⟩ ⟨by omega,hw,fun i h hi=>by omega⟩ ?_
  clear hw
  rintro k w' ⟨hk,hw,hI⟩
  by_cases hkn:k<n
  ·have hkl:=hl.lt hkn
   have hrow:∀ {w1 w2:World} {b:Nat},Ext w w1→w.heap.size≤b→w1.grownBy w2 (some b)→Ext w w2:=fun h1 h2 hg=>ext_grown h1 hg (Nat.le_refl _) (fun k e=>by cases e;exact h2)
   by_cases hok:(l[k]).ok
   ·by_cases hk0:k=0
    ·subst hk0
     repeat' (first|(first|refine CW.seq ?_|refine CW.region ?_|refine CW.block ?_|refine CW.condd_t rfl (by omega) ?_|refine CW.skip ?_)|(refine Post.seq ?_)|refine SW.nil ?_|refine SW.pure rfl rfl ?_|(show SW _ _ _ _ (⟨_,Op.indexAddr _ _ _,_,_,_,none⟩::_) _ _;refine SW.st (st_indexN rfl rfl (by assumption) (by omega)) rfl ?_)|(show SW _ _ _ _ (⟨_,Op.load _ _,_,_,_,none⟩::_) _ _;refine SW.st (st_loadsx hw rfl rfl ((hl.all hkn))) rfl ?_))
     refine SW.alloc rfl fun b w1 hw1 hb hB => ?_
     have hbw:w.heap.size≤b:=Nat.le_trans hw.size hb
     replace hw:=Ext.trans hw hw1
     repeat' (refine SW.pure rfl rfl ?_)
     refine SW.storeAgg hB rfl rfl rfl rfl (Enc.one (enc:=encR) _) fun w2 hB2 hg => ?_
     replace hw:=hrow hw hbw hg
     repeat' (first|(first|refine CW.seq ?_|refine CW.region ?_|refine CW.condfr rfl (by with_reducible rfl) ?_|refine CW.skip ?_|(apply CW.quiet1 mixed;(· kernel_rfl);rotate_left;intro w1 hw1;replace hw:=Ext.trans hw hw1;replace hB2:=hB2.ext hw1;clear hw1;rotate_right))|(first|refine Post.seq ?_|refine Post.blk ?_)|refine SW.nil ?_|(show SW _ _ _ _ (⟨_,_,_,_,_,some _⟩::_) _ _;first|refine SW.want_f rfl rfl (by with_reducible rfl) ?_|refine SW.skip_t rfl rfl (by with_reducible rfl) rfl ?_|refine SW.splitd_f rfl rfl rfl (by omega) ?_|refine SW.splitn_f rfl rfl rfl (by omega) ?_)|refine SW.pure rfl rfl ?_|(show SW _ _ _ _ (⟨_,Op.binOp _ _ _ _ _,_,_,_,none⟩::_) _ _;refine SW.st (st_add rfl rfl (by omega) (by omega)) rfl ?_)|(show SW _ _ _ _ (⟨_,Op.load _ _,_,_,_,none⟩::_) _ _;refine SW.st (st_loads rfl rfl ((fun _ _=>hB2.cell))) rfl ?_)|(show SW _ _ _ _ (⟨_,Op.call ⟨.value (.func _),_,_⟩,_,_,_,none⟩::_) _ _;refine SW.qcall rfl rfl (fun w1 hw1=>(CheckRegion_ok hok _)) ?_)|exact SW.qnil rfl)
     refine Post.again (0+1) ⟨rfl,rfl,rfl,rfl,trivial⟩ (by omega) ⟨by omega,hw,fun i h hi => ?_⟩
     obtain rfl:i=0:=by omega
     exact ⟨hok,fun h0=>by omega⟩
    ·obtain ⟨j,rfl⟩ : ∃ j,k=j+1:=⟨k-1,by omega⟩
     have hj:j<n:=by omega
     have hp:=(hI j (hl.lt hj) (by omega)).1
     by_cases hlt:(l[j]'(hl.lt hj)).From+(l[j]'(hl.lt hj)).Size<(l[j+1]).From
     all_goals
      repeat' (first|(first|refine CW.seq ?_|refine CW.region ?_|refine CW.block ?_|refine CW.condd_t rfl (by omega) ?_|refine CW.skip ?_)|(refine Post.seq ?_)|refine SW.nil ?_|refine SW.pure rfl rfl ?_|(show SW _ _ _ _ (⟨_,Op.indexAddr _ _ _,_,_,_,none⟩::_) _ _;refine SW.st (st_indexN rfl rfl (by assumption) (by omega)) rfl ?_)|(show SW _ _ _ _ (⟨_,Op.load _ _,_,_,_,none⟩::_) _ _;refine SW.st (st_loadsx hw rfl rfl ((hl.all hkn))) rfl ?_))
      refine SW.alloc rfl fun b w1 hw1 hb hB => ?_
      have hbw:w.heap.size≤b:=Nat.le_trans hw.size hb
      replace hw:=Ext.trans hw hw1
      repeat' (refine SW.pure rfl rfl ?_)
      refine SW.storeAgg hB rfl rfl rfl rfl (Enc.one (enc:=encR) _) fun w2 hB2 hg => ?_
      replace hw:=hrow hw hbw hg
      repeat' (first|(first|refine CW.seq ?_|refine CW.region ?_|refine CW.condd_t rfl (by omega) ?_|refine CW.condd_f rfl (by omega) ?_|refine CW.skip ?_|refine CW.ret ?_|(apply CW.quiet1 mixed;(· kernel_rfl);rotate_left;intro w1 hw1;replace hw:=Ext.trans hw hw1;replace hB2:=hB2.ext hw1;clear hw1;rotate_right))|(first|refine Post.seq ?_|refine Post.seq_ret ?_|refine Post.blk ?_|refine Post.blk_ret ?_|refine Post.again_ret ?_)|refine SW.nil ?_|(show SW _ _ _ _ (⟨_,_,_,_,_,some _⟩::_) _ _;first|refine SW.want_t rfl rfl (by with_reducible rfl) ?_|refine SW.want_f rfl rfl (by with_reducible rfl) ?_|refine SW.splitd_t rfl rfl rfl (by omega) ?_|refine SW.splitd_f rfl rfl rfl (by omega) ?_|refine SW.splitn_f rfl rfl rfl (by omega) ?_)|refine SW.pure rfl rfl ?_|(show SW _ _ _ _ (⟨_,Op.fieldAddr _ _ _,_,_,_,none⟩::_) _ _;refine SW.st (st_field rfl) rfl ?_)|(show SW _ _ _ _ (⟨_,Op.binOp _ _ _ _ _,_,_,_,none⟩::_) _ _;first|refine SW.st (st_add rfl rfl (by omega) (by omega)) rfl ?_|refine SW.st (st_sub rfl rfl (by omega) (by omega)) rfl ?_)|(show SW _ _ _ _ (⟨_,Op.indexAddr _ _ _,_,_,_,none⟩::_) _ _;refine SW.st (st_indexI (j) rfl rfl (by assumption) (by omega) (by omega)) rfl ?_)|(show SW _ _ _ _ (⟨_,Op.load _ _,_,_,_,none⟩::_) _ _;first|refine SW.st (st_loads rfl rfl ((fun _ _=>hB2.cell))) rfl ?_|refine SW.st (st_load rfl (hB2.cell rfl)) rfl ?_|refine SW.st (st_loadsx hw rfl rfl ((hl.all hj))) rfl ?_)|(show SW _ _ _ _ (⟨_,Op.call ⟨.value (.func _),_,_⟩,_,_,_,none⟩::_) _ _;first|refine SW.qcall rfl rfl (fun w1 hw1=>(CheckRegion_ok hok _)) ?_|refine SW.qcall rfl rfl (fun w1 hw1=>(end_ok hp _)) ?_)|exact SW.qnil rfl)
     ·refine Post.again (j+1+1) ⟨rfl,rfl,rfl,rfl,trivial⟩ (by omega) ⟨by omega,hw,fun i h hi => ?_⟩
      by_cases hij:i=j+1
      ·subst hij
       exact ⟨hok,fun _=>hlt⟩
      ·exact hI i h (by omega)
     ·refine Post.ret1 rfl rfl ⟨_,rfl,hw,?_⟩
      rw [regionsB_f (fun h=>hlt ((h.2 (j+1) hkl).2 (by omega)))]
   ·repeat' (first|(first|refine CW.seq ?_|refine CW.region ?_|refine CW.block ?_|refine CW.condd_t rfl (by omega) ?_|refine CW.skip ?_)|(refine Post.seq ?_)|refine SW.nil ?_|refine SW.pure rfl rfl ?_|(show SW _ _ _ _ (⟨_,Op.indexAddr _ _ _,_,_,_,none⟩::_) _ _;refine SW.st (st_indexN rfl rfl (by assumption) (by omega)) rfl ?_)|(show SW _ _ _ _ (⟨_,Op.load _ _,_,_,_,none⟩::_) _ _;refine SW.st (st_loadsx hw rfl rfl ((hl.all hkn))) rfl ?_))
    refine SW.alloc rfl fun b w1 hw1 hb hB => ?_
    have hbw:w.heap.size≤b:=Nat.le_trans hw.size hb
    replace hw:=Ext.trans hw hw1
    repeat' (refine SW.pure rfl rfl ?_)
    refine SW.storeAgg hB rfl rfl rfl rfl (Enc.one (enc:=encR) _) fun w2 hB2 hg => ?_
    replace hw:=hrow hw hbw hg
    repeat' (first|(first|refine CW.seq ?_|refine CW.region ?_|refine CW.condtr rfl (by with_reducible rfl) ?_|refine CW.ret ?_|(apply CW.quiet1 mixed;(· kernel_rfl);rotate_left;intro w1 hw1;replace hw:=Ext.trans hw hw1;replace hB2:=hB2.ext hw1;clear hw1;rotate_right))|(first|refine Post.seq ?_|refine Post.seq_ret ?_|refine Post.blk_ret ?_|refine Post.again_ret ?_)|refine SW.nil ?_|(show SW _ _ _ _ (⟨_,_,_,_,_,some _⟩::_) _ _;first|refine SW.skip_f rfl rfl (by with_reducible rfl) rfl ?_|refine SW.skip_u rfl rfl (by with_reducible rfl) rfl ?_|refine SW.splitn_t rfl rfl rfl (by omega) ?_)|refine SW.pure rfl rfl ?_|(show SW _ _ _ _ (⟨_,Op.load _ _,_,_,_,none⟩::_) _ _;refine SW.st (st_loads rfl rfl ((fun _ _=>hB2.cell))) rfl ?_)|(show SW _ _ _ _ (⟨_,Op.call ⟨.value (.func _),_,_⟩,_,_,_,none⟩::_) _ _;refine SW.qcall rfl rfl (fun w1 hw1=>(CheckRegion_no hok _)) ?_)|exact SW.qnil rfl)
    refine Post.ret1 rfl rfl ⟨_,rfl,hw,?_⟩
    rw [regionsB_f (fun h=>hok (h.2 k hkl).1)]
  ·repeat' (first|(first|refine CW.seq ?_|refine CW.region ?_|refine CW.condd_f rfl (by omega) ?_|refine CW.ret ?_|refine CW.exit ?_)|(first|refine Post.seq ?_|refine Post.seq_exit ?_|refine Post.hit ?_|refine Post.again_exit ?_)|refine SW.nil ?_|refine SW.pure rfl rfl ?_)
   refine Post.ret1 rfl rfl ⟨_,rfl,hw,?_⟩
   rw [regionsB_t ⟨by omega,fun i h=>hI i h (by omega)⟩]
def bootCells (A:Option Addr) (n c:Nat) (B:Option Addr) (m d:Nat) : List Value:=[.slice A n c,.slice B m d]
noncomputable def bootB (x y:List Region) : Bool:=regionsB x && regionsB y
theorem Check_ans (A:Option Addr) (n c:Nat) (B:Option Addr) (m d:Nat) (x y:List Region) (w:World) (hx:Sl w 2 encR A n x) (hy:Sl w 2 encR B m y) (hn:n≤9223372036854775807) (hm:m≤9223372036854775807) :
 Ans Tryz.prog 131 [.agg (bootCells A n c B m d).toArray] w fun v _=>v = .int .i64 (if bootB x y then 0 else 8):=by
 refine ans_of Tryz.func131 rfl Tryz.ntmps131 rfl ?_
 refine CW.seq (CW.region (SW.box rfl rfl fun b w1 hw hb hB => ?_))
 obtain ⟨bx,hxb⟩ : ∃ b,regionsB x=b:=⟨_,rfl⟩
 obtain ⟨bY,hyb⟩ : ∃ b,regionsB y=b:=⟨_,rfl⟩
 have l1:∀ w',Ext w w'→Ans Tryz.prog 202 [.slice A n c] w' fun v _=>v = .bool bx:=fun w' h=>by have:=list_ans A n c x w' (hx.ext h) hn;rwa [hxb] at this
 have l2:∀ w',Ext w w'→Ans Tryz.prog 202 [.slice B m d] w' fun v _=>v = .bool bY:=fun w' h=>by have:=list_ans B m d y w' (hy.ext h) hm;rwa [hyb] at this
 cases bx<;>cases bY
 all_goals
  repeat' (first|(first|refine CW.seq ?_|refine CW.region ?_|refine CW.condtr rfl (by with_reducible rfl) ?_|refine CW.condt rfl ?_|refine CW.condf rfl ?_|refine CW.skip ?_|refine CW.ret ?_)|(first|refine Post.seq ?_|refine Post.seq_ret ?_)|refine SW.nil ?_|(show SW _ _ _ _ (⟨_,_,_,_,_,some _⟩::_) _ _;first|refine SW.want rfl rfl ?_|refine SW.skip rfl rfl rfl rfl ?_)|refine SW.pure rfl rfl ?_|(show SW _ _ _ _ (⟨_,Op.fieldAddr _ _ _,_,_,_,none⟩::_) _ _;refine SW.st (st_field rfl) rfl ?_)|(show SW _ _ _ _ (⟨_,Op.load _ _,_,_,_,none⟩::_) _ _;refine SW.st (st_load rfl (hB.cell rfl)) rfl ?_)|(show SW _ _ _ _ (⟨_,Op.call ⟨.value (.func _),_,_⟩,_,_,_,none⟩::_) _ _;first|(refine SW.call rfl rfl (l1 _ hw) ?_;intro v w1 hw1 hv;subst hv;replace hw:=Ext.trans hw hw1;replace hB:=hB.ext hw1;clear hw1)|(refine SW.call rfl rfl (l2 _ hw) ?_;intro v w1 hw1 hv;subst hv;replace hw:=Ext.trans hw hw1;replace hB:=hB.ext hw1;clear hw1)))
  refine Post.ret1 rfl rfl ⟨_,rfl,hw,?_⟩
  simp [bootB,hxb,hyb]
theorem BootMay_ans (A:Option Addr) (n c:Nat) (B:Option Addr) (m d:Nat) (x y:List Region) (w:World) (hx:Sl w 2 encR A n x) (hy:Sl w 2 encR B m y) (hn:n≤9223372036854775807) (hm:m≤9223372036854775807) :
 Ans Tryz.prog 143 [.agg (bootCells A n c B m d).toArray] w fun v _=>v = .bool (bootB x y):=by
 refine ans_of Tryz.func143 rfl Tryz.ntmps143 rfl ?_
 refine CW.seq (CW.region (SW.box rfl rfl fun b w1 hw hb hB => ?_))
 obtain ⟨bx,hxb⟩ : ∃ b,regionsB x=b:=⟨_,rfl⟩
 obtain ⟨bY,hyb⟩ : ∃ b,regionsB y=b:=⟨_,rfl⟩
 have l1:∀ w',Ext w w'→Ans Tryz.prog 147 [.slice A n c] w' fun v _=>v = .bool bx:=fun w' h=>by have:=regionsMay_ans A n c x w' (hx.ext h) hn;rwa [hxb] at this
 have l2:∀ w',Ext w w'→Ans Tryz.prog 147 [.slice B m d] w' fun v _=>v = .bool bY:=fun w' h=>by have:=regionsMay_ans B m d y w' (hy.ext h) hm;rwa [hyb] at this
 cases bx<;>cases bY
 all_goals
  repeat' (first|(first|refine CW.seq ?_|refine CW.region ?_|refine CW.ret ?_)|(refine Post.seq ?_)|refine SW.nil ?_|(show SW _ _ _ _ (⟨_,_,_,_,_,some _⟩::_) _ _;first|refine SW.want_t rfl rfl (by with_reducible rfl) ?_|refine SW.skip_t rfl rfl (by with_reducible rfl) rfl ?_)|refine SW.pure rfl rfl ?_|(show SW _ _ _ _ (⟨_,Op.fieldAddr _ _ _,_,_,_,none⟩::_) _ _;refine SW.st (st_field rfl) rfl ?_)|(show SW _ _ _ _ (⟨_,Op.load _ _,_,_,_,none⟩::_) _ _;refine SW.st (st_load rfl (hB.cell rfl)) rfl ?_)|(show SW _ _ _ _ (⟨_,Op.call ⟨.value (.func _),_,_⟩,_,_,_,none⟩::_) _ _;first|(refine SW.call rfl rfl (l1 _ hw) ?_;intro v w1 hw1 hv;subst hv;replace hw:=Ext.trans hw hw1;replace hB:=hB.ext hw1;clear hw1)|(refine SW.call rfl rfl (l2 _ hw) ?_;intro v w1 hw1 hv;subst hv;replace hw:=Ext.trans hw hw1;replace hB:=hB.ext hw1;clear hw1)))
  refine Post.ret1 rfl rfl ⟨_,rfl,hw,?_⟩
  simp [bootB,hxb,hyb]
end Go.Proofs.YtbidkghlpijecaaGreatDoor
