/-
  Texts of the claim SlabDestroys, part 18: what its theorem leans on.
-/
import Derived.Test.YtigikedbffjeiaaGreatPackSlabDestroys17
import Derived.Test.YtigikedbffjeiaaGreatPackSlabDestroys16
import Derived.Test.YtigikedbffjeiaaGreatPackSlabDestroys12
set_option linter.unusedVariables false
set_option linter.unusedSimpArgs false
namespace Go.Proofs.YtigikedbffjeiaaGreat
open Go.RowKit Go.Maps
def strK (s:ByteArray) : Lit := .string s.data.toList
def intK (z:Int) : Lit := .int .i64 z
def hasS (l:List ByteArray) (n:ByteArray) : Bool:=l.any fun m=>decide (m=n)
theorem hasS_iff {l:List ByteArray} {n:ByteArray}:hasS l n=true↔n∈l:=by
 unfold hasS
 rw [List.any_eq_true]
 exact ⟨fun ⟨m,h,e⟩=>of_decide_eq_true e ▸ h,fun h=>⟨n,h,decide_eq_true rfl⟩⟩
theorem strK_any (l:List ByteArray) (n:ByteArray) : ((l.map strK).any fun y=>y.sameKey (strK n))=hasS l n:=by
 rw [Bool.eq_iff_iff,List.any_eq_true,hasS_iff]
 constructor
 ·rintro ⟨y,hy,hs⟩
  obtain ⟨m,hm,rfl⟩:=List.mem_map.1 hy
  have:=WideAt.sameKey_eq hs
  simp only [strK,Lit.string.injEq] at this
  have e:m=n:=by
   cases m;cases n
   simpa using this
  rw [← e];exact hm
 ·intro h
  exact ⟨strK n,List.mem_map.2 ⟨n,h,rfl⟩,WideAt.sameKey_self trivial⟩
theorem intK_any (l:List Int) (n:Int) : ((l.map intK).any fun y=>y.sameKey (intK n))=decide (n∈l):=by
 rw [Bool.eq_iff_iff,List.any_eq_true,decide_eq_true_iff]
 constructor
 ·rintro ⟨y,hy,hs⟩
  obtain ⟨m,hm,rfl⟩:=List.mem_map.1 hy
  have:=WideAt.sameKey_eq hs
  simp only [intK,Lit.int.injEq] at this
  rw [← this.2];exact hm
 ·intro h
  exact ⟨intK n,List.mem_map.2 ⟨n,h,rfl⟩,WideAt.sameKey_self trivial⟩
theorem und_str:Tryz.prog.underlying 9=some .string:=by kernel_rfl
theorem und_int:Tryz.prog.underlying 3=some (.int .i64):=by kernel_rfl
theorem und_bool:Tryz.prog.underlying 4=some .bool:=by kernel_rfl
theorem und_mapS:Tryz.prog.underlying 96=some (.map 9 4):=by kernel_rfl
theorem und_mapI:Tryz.prog.underlying 97=some (.map 3 4):=by kernel_rfl
theorem zero_bool (w:World) : (zeroValue 4).run Tryz.prog w = .ok (.bool false) w:=by
 obtain ⟨inf,hi,hz,hs,hby⟩:=elem_parts Tryz.prog 4 (z := .bool false) (sz:=1) (bytes:=1)
 simp [zeroValue,typeInfo,hi,hz]
theorem keyOf_str (s:ByteArray) (h:s.size≤140737488351232) : Go.keyOf Tryz.prog 9 (.string s)=some (strK s):=by
 simp [Go.keyOf,mapKey,strK]
 unfold maxLen
 omega
theorem keyOf_int {z:Int} (h : -9223372036854775808≤z∧z≤9223372036854775807) : Go.keyOf Tryz.prog 3 (.int .i64 z)=some (intK z):=keyOf_int_mk und_int (by
 have h1:IntKind.i64.min = -9223372036854775808:=by decide
 have h2:IntKind.i64.max=9223372036854775807:=by decide
 simp [Lit.wf,h1,h2]
 omega)
section
variable {L:Env} {w:World} {d:Option Nat} {T:TypeId} {pos:String} {af:Array Edge} {g:Option (Nat×Bool)}
theorem st_lookS {b:Nat} {l:List ByteArray} {n:ByteArray} {m x:Operand} (hB:BMap w Tryz.prog 9 4 b (l.map strK)) (hn:n.size≤140737488351232) (hm:opv L m=some (.map (some b))) (hx:opv L x=some (.string n)) :
  St Tryz.prog ⟨d,.lookup 96 m x false,T,pos,af,g⟩ L w (.bool (hasS l n)) :=
 (st_lookupB hB (string_keyed und_str) und_mapS und_bool zero_bool hm hx (keyOf_str n hn)).eq (by rw [strK_any])
theorem st_lookI {b:Nat} {l:List Int} {n:Int} {m x:Operand} (hB:BMap w Tryz.prog 3 4 b (l.map intK)) (hn : -9223372036854775808≤n∧n≤9223372036854775807) (hm:opv L m=some (.map (some b))) (hx:opv L x=some (.int .i64 n)) :
  St Tryz.prog ⟨d,.lookup 97 m x false,T,pos,af,g⟩ L w (.bool (decide (n∈l))) :=
 (st_lookupB hB (int_keyed und_int) und_mapI und_bool zero_bool hm hx (keyOf_int hn)).eq (by rw [intK_any])
end
theorem sizeF_ans (d:CRow) (b6:Nat) (q:CRow) (w:World) (h6:Blk w b6 44 (encC q)) :
  Ans Tryz.prog 57 ([.agg (encC d).toArray]++[.pointer (some ⟨b6,0,none⟩)]) w fun v _=>v = .bool (decide (d.Size=q.Size)):=by
 refine ans_of Tryz.func57 rfl Tryz.ntmps57 rfl ?_
 refine CW.seq (CW.region (SW.box rfl rfl fun b1 w1 hw hb1b hb1 => ?_))
 replace h6:=h6.ext hw
 repeat' (first|(first|refine CW.seq ?_|refine CW.region ?_|refine CW.ret ?_)|(refine Post.seq ?_)|refine SW.nil ?_|refine SW.pure rfl rfl ?_|(show SW _ _ _ _ (⟨_,Op.fieldAddr _ _ _,_,_,_,none⟩::_) _ _;refine SW.st (st_field rfl) rfl ?_)|(show SW _ _ _ _ (⟨_,Op.load _ _,_,_,_,none⟩::_) _ _;first|refine SW.st (st_load rfl (hb1.cell rfl)) rfl ?_|refine SW.st (st_load rfl (h6.cell rfl)) rfl ?_))
 exact Post.ret1 rfl rfl ⟨_,rfl,hw,rfl⟩
structure KSystem.fine (s:KSystem) : Prop where
 small:s.small
 zones:∀ z∈s.Heap.Zones,big64 z
 slabs:∀ c∈s.Caches,∀ x∈c.Slabs,-9223372036854775808≤x.At∧x.At≤9223372036854775807
 names:∀ c∈s.Caches,∀ n∈c.Names,n.size≤140737488351232
theorem namesAhead_len (cs:List KCache) (h:∀ c∈cs,c.small) : (namesAhead cs).length≤cs.length*8796093022208:=by
 induction cs with
 | nil=>simp [namesAhead]
 | cons c r ih =>
  have h1:=(h c (by simp)).names
  have h2:=ih (fun x hx=>h x (by simp [hx]))
  simp only [namesAhead,List.flatMap_cons,List.length_append,List.length_cons] at h2 ⊢
  omega
theorem slabsAhead_len (cs:List KCache) (h:∀ c∈cs,c.small) : (slabsAhead cs).length≤cs.length*8796093022208:=by
 induction cs with
 | nil=>simp [slabsAhead]
 | cons c r ih =>
  have h1:=(h c (by simp)).slabs
  have h2:=ih (fun x hx=>h x (by simp [hx]))
  simp only [slabsAhead,List.flatMap_cons,List.length_append,List.length_cons,List.length_map] at h2 ⊢
  omega
set_option maxHeartbeats 4000000 in
theorem Scheck_ans (r:SRow) (s:KSystem) (w:World) (hr:RdS w r s) (hf:s.fine) :
  Ans Tryz.prog 36 [.agg (encSys r).toArray] w fun v _=>v = .int .i64 (if sysB s then 0 else 8):=by
 refine ans_of Tryz.func36 rfl Tryz.ntmps36 rfl ?_
 refine CW.seq (CW.region (SW.box rfl rfl fun b1 w1 hw hb1b hb1 => ?_))
 obtain ⟨cs,hc⟩:=hr.caches
 obtain ⟨z1,z2⟩:=hc.len
 have wl:=hr.words.len
 have hs:=hf.small
 have m3:=hs.caches
 have hcap:=hc.cap
 obtain ⟨q,hq⟩ : ∃ q,heapB s.Heap=q:=⟨_,rfl⟩
 have c1:∀ w',Ext w w'→Ans Tryz.prog 54 [.agg (encH r.Heap).toArray] w' fun v _=>v = .int .i64 (if q then 0 else 8):=fun w' hx=>by
  have:=Pcheck_ans r.Heap s.Heap w' (hr.heap.ext hx) hs.heap hf.zones
  rwa [hq] at this
 by_cases hgood:s.Words.length=4096∧q=true∧s.Caches.length≤20
 ·obtain ⟨g1,g2,g3⟩:=hgood
  subst g2
  have hH:=heapB_iff.1 hq
  simp only [if_true] at c1
  repeat' (first|(first|refine CW.seq ?_|refine CW.region ?_|refine CW.condd_f rfl (by omega) ?_|refine CW.skip ?_)|(refine Post.seq ?_)|refine SW.nil ?_|(show SW _ _ _ _ (⟨_,_,_,_,_,some _⟩::_) _ _;first|refine SW.want_f rfl rfl (by with_reducible rfl) ?_|refine SW.splitn_f rfl rfl rfl (by omega) ?_)|refine SW.pure rfl rfl ?_|(show SW _ _ _ _ (⟨_,Op.fieldAddr _ _ _,_,_,_,none⟩::_) _ _;refine SW.st (st_field rfl) rfl ?_)|(show SW _ _ _ _ (⟨_,Op.call ⟨.builtin .len,_,_⟩,_,_,_,none⟩::_) _ _;refine SW.st (st_len rfl) rfl ?_)|(show SW _ _ _ _ (⟨_,Op.load _ _,_,_,_,none⟩::_) _ _;first|refine SW.st (st_load rfl (hb1.cell rfl)) rfl ?_|refine SW.st (st_loads rfl rfl ((heapIn hb1))) rfl ?_)|(show SW _ _ _ _ (⟨_,Op.call ⟨.value (.func _),_,_⟩,_,_,_,none⟩::_) _ _;(refine SW.call rfl rfl (c1 _ hw) ?_;intro v w1 hw1 hv;subst hv;replace hw:=Ext.trans hw hw1;replace hb1:=hb1.ext hw1;clear hw1)))
  all_goals first|(exfalso;omega)|skip
  clear c1
  refine SW.makeMap 9 4 rfl fun bN w3 hw3 hbN0 hN => ?_
  have hbN:w.heap.size≤bN:=Nat.le_trans hw.size hbN0
  have hlt1:=hb1.lt
  (replace hw:=Ext.trans hw hw3;replace hb1:=hb1.ext hw3)
  refine SW.makeMap 3 4 rfl fun bS w4 hw4 hbS0 hS => ?_
  have hbS:w.heap.size≤bS:=Nat.le_trans hw.size hbS0
  have hlt2:=hN.lt
  (replace hw:=Ext.trans hw hw4;replace hb1:=hb1.ext hw4;replace hN:=hN.ext hw4)
  have ne1N:b1≠bN:=by omega
  have ne1S:b1≠bS:=by omega
  have neNS:bN≠bS:=by omega
  clear hlt1 hlt2 hbN0 hbS0
  repeat' (first|(first|refine CW.seq ?_|refine CW.region ?_|refine CW.block ?_)|(refine Post.seq ?_)|refine SW.nil ?_|refine SW.pure rfl rfl ?_|(show SW _ _ _ _ (⟨_,Op.fieldAddr _ _ _,_,_,_,none⟩::_) _ _;refine SW.st (st_field rfl) rfl ?_)|(show SW _ _ _ _ (⟨_,Op.call ⟨.builtin .len,_,_⟩,_,_,_,none⟩::_) _ _;refine SW.st (st_len rfl) rfl ?_)|(show SW _ _ _ _ (⟨_,Op.load _ _,_,_,_,none⟩::_) _ _;refine SW.st (st_load rfl (hb1.cell rfl)) rfl ?_))
  refine CW.loop (fun k:Nat=>[(1,.pointer (some ⟨b1,0,none⟩)),(3,.map (some bN)),(4,.map (some bS)),(30,.slice r.Caches.A r.Caches.n r.Caches.c),(31,.int .i64 (r.Caches.n:Int)),(32,.int .i64 (k:Int))])
   (fun k w'=>k≤r.Caches.n∧Ext w w'∧Blk w' b1 30 (encSys r)∧BMap w' Tryz.prog 9 4 bN ((namesAhead (s.Caches.take k)).map strK)∧BMap w' Tryz.prog 3 4 bS ((slabsAhead (s.Caches.take k)).map intK) ∧ ∀ (i:Nat) (h:i<s.Caches.length),i<k→CacheIn s i h) (fun k=>r.Caches.n-k) 0
   ⟨rfl,rfl,rfl,rfl,rfl,rfl,trivial⟩ ⟨by omega,hw,hb1,hN,hS,fun i h h'=>by omega⟩ ?_
  clear hw hb1 hN hS
  rintro k w' ⟨hk,hw,hb1,hN,hS,hI⟩
  have hA:=hc.row.base
  by_cases hkn:k<r.Caches.n
  ·have hkc:k<cs.length:=by omega
   have hkl:k<s.Caches.length:=by omega
   have hck:=hc.each.get k hkc hkl
   have sm:=hs.each _ (List.getElem_mem hkl)
   have fS:=hf.slabs _ (List.getElem_mem hkl)
   have fN:=hf.names _ (List.getElem_mem hkl)
   have q1:=hck.names.len
   have q2:=hck.slabs.len
   have q4:=sm.names
   have q5:=sm.slabs
   have bn:=namesAhead_len (s.Caches.take k) (fun c hc=>hs.each c (List.mem_of_mem_take hc))
   have bs:=slabsAhead_len (s.Caches.take k) (fun c hc=>hs.each c (List.mem_of_mem_take hc))
   rw [List.length_take] at bn bs
   repeat' (first|(first|refine CW.seq ?_|refine CW.region ?_|refine CW.block ?_|refine CW.condd_t rfl (by omega) ?_|refine CW.skip ?_)|(refine Post.seq ?_)|refine SW.nil ?_|refine SW.pure rfl rfl ?_|(show SW _ _ _ _ (⟨_,Op.indexAddr _ _ _,_,_,_,none⟩::_) _ _;refine SW.st (st_indexN rfl rfl (by assumption) (by omega)) rfl ?_)|(show SW _ _ _ _ (⟨_,Op.load _ _,_,_,_,none⟩::_) _ _;refine SW.st (st_loadsx hw rfl rfl ((hc.row.all hkn))) rfl ?_))
   have hltN:=hN.lt
   have hltS:=hS.lt
   refine SW.alloc rfl fun b6 w1 hw1 hb6b hb6 => ?_
   repeat' (refine SW.pure rfl rfl ?_)
   refine SW.storeAgg hb6 rfl rfl rfl rfl (one_c _) fun w2 hb6' hg => ?_
   have hXX:=hw1.own hb6b hg
   have hb6w:w.heap.size≤b6:=Nat.le_trans hw.size hb6b
   replace hw:=Ext.trans hw hXX
   replace hb1:=hb1.ext hXX
   replace hN:=hN.ext hXX
   replace hS:=hS.ext hXX
   replace hb6:=hb6'
   clear hb6' hw1 hg hXX
   have neN6:bN≠b6:=by omega
   have neS6:bS≠b6:=by omega
   clear hltN hltS
   obtain ⟨qc,hqc⟩ : ∃ qc,cacheB s s.Caches[k]=qc:=⟨_,rfl⟩
   have cC:∀ w',Ext w w'→Ans Tryz.prog 55 [.agg (encSys r).toArray,.agg (encC cs[k]).toArray] w' fun v _=>v = .bool qc:=fun w' hx=>by
    have:=cache_ans r s cs[k] s.Caches[k] w' (hr.ext hx) (hck.ext hx) hs sm hH fS
    rwa [hqc] at this
   cases qc
   ·have hF:sysB s=false:=sysB_f fun hm=>by
     have:=cacheB_t (hm.each k hkl).may
     rw [hqc] at this
     cases this
    rw [hF]
    repeat' (first|(first|refine CW.seq ?_|refine CW.region ?_|refine CW.condtr rfl (by with_reducible rfl) ?_|refine CW.ret ?_)|(first|refine Post.seq ?_|refine Post.seq_ret ?_|refine Post.blk_ret ?_|refine Post.again_ret ?_)|refine SW.nil ?_|(show SW _ _ _ _ (⟨_,_,_,_,_,some _⟩::_) _ _;refine SW.skip rfl rfl rfl rfl ?_)|refine SW.pure rfl rfl ?_|(show SW _ _ _ _ (⟨_,Op.load _ _,_,_,_,none⟩::_) _ _;first|refine SW.st (st_loads rfl rfl ((fun _ _=>hb1.cell))) rfl ?_|refine SW.st (st_loads rfl rfl ((fun _ _=>hb6.cell))) rfl ?_)|(show SW _ _ _ _ (⟨_,Op.call ⟨.value (.func _),_,_⟩,_,_,_,none⟩::_) _ _;(refine SW.call rfl rfl (cC _ hw) ?_;intro v w1 hw1 hv;subst hv;replace hw:=Ext.trans hw hw1;replace hb1:=hb1.ext hw1;replace hb6:=hb6.ext hw1;replace hN:=hN.ext hw1;replace hS:=hS.ext hw1;clear hw1)))
    exact Post.ret1 rfl rfl ⟨_,rfl,hw,rfl⟩
   ·have hCM:=cacheB_iff.1 hqc
    obtain ⟨y,hy⟩ : ∃ y,((cs.take k).any fun d=>decide (d.Size=cs[k].Size))=y:=⟨_,rfl⟩
    have cD:∀ w',Ext w w'→Blk w' b6 44 (encC cs[k])→Ans Tryz.prog 56 [.slice r.Caches.A k r.Caches.c,.func (.func 57) #[] [.pointer (some ⟨b6,0,none⟩)].toArray] w' fun v _=>v = .bool y:=fun w' hx h6=>by
     have:=ContainsFuncCRow_ans r.Caches.A k r.Caches.c (cs.take k) w' ((hc.row.ext hx).pre (show k≤r.Caches.n by omega)) 57 [.pointer (some ⟨b6,0,none⟩)] (fun d=>decide (d.Size=cs[k].Size)) (fun d => .agg (encC d).toArray) (fun x=>rfl)
      (fun x _ w1 hx1=>sizeF_ans x b6 cs[k] w1 (h6.ext hx1)) (by omega)
     rwa [hy] at this
    cases y
    ·have hsz:∀ (j:Nat) (hj:j<k),(s.Caches[j]'(by omega)).Size≠s.Caches[k].Size:=fun j hj e=>by
      rw [List.any_eq_false] at hy
      refine hy cs[j] (List.mem_take_iff_getElem.2 ⟨j,by omega,rfl⟩) ?_
      have e1:=(hc.each.get j (by omega) (by omega)).size
      have e2:=hck.size
      exact decide_eq_true (by rw [e1,e2];exact e)
     repeat' (first|(first|refine CW.seq ?_|refine CW.region ?_|refine CW.block ?_|refine CW.condfr rfl (by with_reducible rfl) ?_|refine CW.skip ?_)|(refine Post.seq ?_)|refine SW.nil ?_|(show SW _ _ _ _ (⟨_,_,_,_,_,some _⟩::_) _ _;refine SW.want rfl rfl ?_)|refine SW.pure rfl rfl ?_|(show SW _ _ _ _ (⟨_,Op.fieldAddr _ _ _,_,_,_,none⟩::_) _ _;refine SW.st (st_field rfl) rfl ?_)|(show SW _ _ _ _ (⟨_,Op.call ⟨.builtin .len,_,_⟩,_,_,_,none⟩::_) _ _;refine SW.st (st_len rfl) rfl ?_)|(show SW _ _ _ _ (⟨_,Op.load _ _,_,_,_,none⟩::_) _ _;first|refine SW.st (st_loads rfl rfl ((fun _ _=>hb1.cell))) rfl ?_|refine SW.st (st_loads rfl rfl ((fun _ _=>hb6.cell))) rfl ?_|refine SW.st (st_load rfl (hb1.cell rfl)) rfl ?_|refine SW.st (st_load rfl (hb6.cell rfl)) rfl ?_)|(show SW _ _ _ _ (⟨_,Op.call ⟨.value (.func _),_,_⟩,_,_,_,none⟩::_) _ _;first|(refine SW.call rfl rfl (cC _ hw) ?_;intro v w1 hw1 hv;subst hv;replace hw:=Ext.trans hw hw1;replace hb1:=hb1.ext hw1;replace hb6:=hb6.ext hw1;replace hN:=hN.ext hw1;replace hS:=hS.ext hw1;clear hw1)|(refine SW.call rfl rfl (cD _ hw hb6) ?_;intro v w1 hw1 hv;subst hv;replace hw:=Ext.trans hw hw1;replace hb1:=hb1.ext hw1;replace hb6:=hb6.ext hw1;replace hN:=hN.ext hw1;replace hS:=hS.ext hw1;clear hw1))|(refine SW.st (st_sliceHi (k:=k) rfl rfl (by omega)) rfl ?_)|(refine SW.st (st_func (vs:=[.pointer (some ⟨b6,0,none⟩)]) rfl) rfl ?_))
     obtain ⟨acc,hacc⟩ : ∃ acc,namesAhead (s.Caches.take k)=acc:=⟨_,rfl⟩
     rw [hacc] at hN bn
     obtain ⟨sac,hsac⟩ : ∃ sac,slabsAhead (s.Caches.take k)=sac:=⟨_,rfl⟩
     rw [hsac] at hS bs
     clear cC cD
     refine CW.loop (fun j:Nat=>[(1,.pointer (some ⟨b1,0,none⟩)),(3,.map (some bN)),(4,.map (some bS)),(6,.pointer (some ⟨b6,0,none⟩)),(30,.slice r.Caches.A r.Caches.n r.Caches.c),(31,.int .i64 (r.Caches.n:Int)),(32,.int .i64 (k:Int)),(50,.slice cs[k].Names.A cs[k].Names.n cs[k].Names.c),(51,.int .i64 (cs[k].Names.n:Int)),(52,.int .i64 (j:Int))])
      (fun j w'=>j≤cs[k].Names.n∧Ext w w'∧Blk w' b1 30 (encSys r)∧Blk w' b6 44 (encC cs[k])∧BMap w' Tryz.prog 9 4 bN ((acc++s.Caches[k].Names.take j).map strK)∧BMap w' Tryz.prog 3 4 bS (sac.map intK) ∧
       ∀ (i:Nat) (h:i<s.Caches[k].Names.length),i<j→nameB s.Caches[k].Names[i]=true∧s.Caches[k].Names[i]∉acc++s.Caches[k].Names.take i∧(0<i→lessS (s.Caches[k].Names[i-1]'(by omega)) s.Caches[k].Names[i]=true)) (fun j=>cs[k].Names.n-j) 0
      ⟨rfl,rfl,rfl,rfl,rfl,rfl,rfl,rfl,rfl,rfl,trivial⟩ ⟨by omega,hw,hb1,hb6,by simpa using hN,hS,fun i h h'=>by omega⟩ ?_
     clear hw hb1 hN hS hb6
     rintro j w' ⟨hj,hw,hb1,hb6,hN,hS,hJ⟩
     have hA1:=hck.names.base
     by_cases hjn:j<cs[k].Names.n
     ·have hjl:j<s.Caches[k].Names.length:=by omega
      obtain ⟨nm,hnm⟩ : ∃ nm,s.Caches[k].Names[j]=nm:=⟨_,rfl⟩
      have gN:=hck.names.one hjn (u := .string nm) (by rw [← hnm];rfl)
      have fnm:nm.size≤140737488351232:=by rw [← hnm];exact fN _ (List.getElem_mem hjl)
      obtain ⟨qn,hqn⟩ : ∃ qn,nameB nm=qn:=⟨_,rfl⟩
      obtain ⟨qh,hqh⟩ : ∃ qh,hasS (acc++s.Caches[k].Names.take j) nm=qh:=⟨_,rfl⟩
      have cNm:∀ w',Ans Tryz.prog 58 [.string nm] w' fun v _=>v = .bool qn:=fun w'=>by
       have:=name_ans nm w' fnm
       rwa [hqn] at this
      have hbadN:(qn=false∨qh=true ∨ ∃ hj0 : 0<j,lessS (s.Caches[k].Names[j-1]'(by omega)) nm=false)→sysB s=false:=fun h=>sysB_f fun hm=>by
       have h1:=(hm.each k hkl).names.each j hjl
       rw [hnm,hacc] at h1
       rcases h with h|h|⟨hj0,h⟩
       ·rw [hqn,h] at h1;exact absurd h1.1 (by simp)
       ·exact h1.2.1 (hasS_iff.1 (by rw [hqh,h]))
       ·rw [h1.2.2 hj0] at h;cases h
      cases qn
      ·rw [hbadN (.inl rfl)]
       repeat' (first|(first|refine CW.seq ?_|refine CW.region ?_|refine CW.block ?_|refine CW.condtr rfl (by with_reducible rfl) ?_|refine CW.condd_t rfl (by omega) ?_|refine CW.skip ?_|refine CW.ret ?_)|(first|refine Post.seq ?_|refine Post.seq_ret ?_|refine Post.blk_ret ?_|refine Post.again_ret ?_)|refine SW.nil ?_|(show SW _ _ _ _ (⟨_,_,_,_,_,some _⟩::_) _ _;first|refine SW.skip_f rfl rfl (by with_reducible rfl) rfl ?_|refine SW.skip_u rfl rfl (by with_reducible rfl) rfl ?_|refine SW.skip rfl rfl rfl rfl ?_)|refine SW.pure rfl rfl ?_|(show SW _ _ _ _ (⟨_,Op.indexAddr _ _ _,_,_,_,none⟩::_) _ _;refine SW.st (st_indexN rfl rfl (by assumption) (by omega)) rfl ?_)|(show SW _ _ _ _ (⟨_,Op.load _ _,_,_,_,none⟩::_) _ _;refine SW.st (st_loadx hw rfl gN) rfl ?_)|(show SW _ _ _ _ (⟨_,Op.call ⟨.value (.func _),_,_⟩,_,_,_,none⟩::_) _ _;(refine SW.call rfl rfl (cNm _) ?_;intro v w1 hw1 hv;subst hv;replace hw:=Ext.trans hw hw1;replace hb1:=hb1.ext hw1;replace hb6:=hb6.ext hw1;replace hN:=hN.ext hw1;replace hS:=hS.ext hw1;clear hw1)))
       exact Post.ret1 rfl rfl ⟨_,rfl,hw,rfl⟩
      ·cases qh
       ·have go:∀ (hless : 0<j→lessS (s.Caches[k].Names[j-1]'(by omega)) nm=true) (i:Nat) (h:i<s.Caches[k].Names.length),i<j+1→nameB s.Caches[k].Names[i]=true∧s.Caches[k].Names[i]∉acc++s.Caches[k].Names.take i∧(0<i→lessS (s.Caches[k].Names[i-1]'(by omega)) s.Caches[k].Names[i]=true):=fun hless i h h'=>by
         by_cases ei:i=j
         ·subst ei
          rw [hnm]
          exact ⟨hqn,(fun hm=>by rw [hasS_iff.2 hm] at hqh;cases hqh),hless⟩
         ·exact hJ i h (by omega)
        rcases Nat.eq_zero_or_pos j with hj0|hj0
        ·repeat' (first|(first|refine CW.seq ?_|refine CW.region ?_|refine CW.block ?_|refine CW.condfr rfl (by with_reducible rfl) ?_|refine CW.condd_t rfl (by omega) ?_|refine CW.skip ?_)|(refine Post.seq ?_)|refine SW.nil ?_|(show SW _ _ _ _ (⟨_,_,_,_,_,some _⟩::_) _ _;first|refine SW.want_f rfl rfl (by with_reducible rfl) ?_|refine SW.skip_t rfl rfl (by with_reducible rfl) rfl ?_|refine SW.splitd_f rfl rfl rfl (by omega) ?_|refine SW.want rfl rfl ?_)|refine SW.pure rfl rfl ?_|(show SW _ _ _ _ (⟨_,Op.indexAddr _ _ _,_,_,_,none⟩::_) _ _;refine SW.st (st_indexN rfl rfl (by assumption) (by omega)) rfl ?_)|(show SW _ _ _ _ (⟨_,Op.load _ _,_,_,_,none⟩::_) _ _;refine SW.st (st_loadx hw rfl gN) rfl ?_)|(show SW _ _ _ _ (⟨_,Op.call ⟨.value (.func _),_,_⟩,_,_,_,none⟩::_) _ _;(refine SW.call rfl rfl (cNm _) ?_;intro v w1 hw1 hv;subst hv;replace hw:=Ext.trans hw hw1;replace hb1:=hb1.ext hw1;replace hb6:=hb6.ext hw1;replace hN:=hN.ext hw1;replace hS:=hS.ext hw1;clear hw1))|(refine SW.st ((st_lookS hN fnm rfl rfl).eq (congrArg Value.bool hqh)) rfl ?_))
         all_goals first|(exfalso;omega)|skip
         refine SW.mapPut hN (string_keyed und_str) und_mapS und_bool (by simp only [List.length_map,List.length_append,List.length_take];unfold maxLen;omega) rfl rfl rfl (keyOf_str nm fnm) trivial fun w5 hN' hg => ?_
         replace hw:=hw.own hbN hg
         replace hb1:=hb1.grown hg (by simpa using ne1N)
         replace hb6:=hb6.grown hg (by simpa using neN6.symm)
         replace hS:=hS.grown hg (by simpa using neNS.symm)
         have eN:(acc++s.Caches[k].Names.take j).map strK++[strK nm]=(acc++s.Caches[k].Names.take (j+1)).map strK:=by rw [List.take_succ_eq_append_getElem hjl,hnm];simp
         rw [eN] at hN'
         repeat' (first|(refine CW.region ?_)|(first|refine Post.seq ?_|refine Post.blk ?_)|refine SW.nil ?_|refine SW.pure rfl rfl ?_|(show SW _ _ _ _ (⟨_,Op.binOp _ _ _ _ _,_,_,_,none⟩::_) _ _;refine SW.st (st_add rfl rfl (by omega) (by omega)) rfl ?_))
         exact Post.again (j+1) ⟨rfl,rfl,rfl,rfl,rfl,rfl,rfl,rfl,rfl,rfl,trivial⟩ (by omega) ⟨by omega,hw,hb1,hb6,hN',hS,go (fun h=>by omega)⟩
        ·obtain ⟨ql,hql⟩ : ∃ ql,(!lessS (s.Caches[k].Names[j-1]'(by omega)) nm)=ql:=⟨_,rfl⟩
         have gP:=hck.names.one (show j-1<cs[k].Names.n by omega) (u := .string (s.Caches[k].Names[j-1]'(by omega))) rfl
         cases ql
         ·repeat' (first|(first|refine CW.seq ?_|refine CW.region ?_|refine CW.block ?_|refine CW.condfr rfl (by with_reducible rfl) ?_|refine CW.condd_t rfl (by omega) ?_|refine CW.skip ?_)|(refine Post.seq ?_)|refine SW.nil ?_|(show SW _ _ _ _ (⟨_,_,_,_,_,some _⟩::_) _ _;first|refine SW.want_t rfl rfl (by with_reducible rfl) ?_|refine SW.want_f rfl rfl (by with_reducible rfl) ?_|refine SW.splitd_t rfl rfl rfl (by omega) ?_|refine SW.want rfl rfl ?_)|refine SW.pure rfl rfl ?_|(show SW _ _ _ _ (⟨_,Op.fieldAddr _ _ _,_,_,_,none⟩::_) _ _;refine SW.st (st_field rfl) rfl ?_)|(show SW _ _ _ _ (⟨_,Op.binOp _ _ _ _ _,_,_,_,none⟩::_) _ _;refine SW.st (st_sub rfl rfl (by omega) (by omega)) rfl ?_)|(show SW _ _ _ _ (⟨_,Op.indexAddr _ _ _,_,_,_,none⟩::_) _ _;first|refine SW.st (st_indexN rfl rfl (by assumption) (by omega)) rfl ?_|refine SW.st (st_indexI (j-1) rfl rfl (by assumption) (by omega) (by omega)) rfl ?_)|(show SW _ _ _ _ (⟨_,Op.load _ _,_,_,_,none⟩::_) _ _;first|refine SW.st (st_loadx hw rfl gN) rfl ?_|refine SW.st (st_loadx hw rfl gP) rfl ?_|refine SW.st (st_load rfl (hb6.cell rfl)) rfl ?_)|(show SW _ _ _ _ (⟨_,Op.call ⟨.value (.func _),_,_⟩,_,_,_,none⟩::_) _ _;(refine SW.call rfl rfl (cNm _) ?_;intro v w1 hw1 hv;subst hv;replace hw:=Ext.trans hw hw1;replace hb1:=hb1.ext hw1;replace hb6:=hb6.ext hw1;replace hN:=hN.ext hw1;replace hS:=hS.ext hw1;clear hw1))|(refine SW.st ((st_lookS hN fnm rfl rfl).eq (congrArg Value.bool hqh)) rfl ?_)|(refine SW.st ((st_geStr rfl rfl).eq (congrArg Value.bool hql)) rfl ?_))
          all_goals first|(exfalso;omega)|skip
          refine SW.mapPut hN (string_keyed und_str) und_mapS und_bool (by simp only [List.length_map,List.length_append,List.length_take];unfold maxLen;omega) rfl rfl rfl (keyOf_str nm fnm) trivial fun w5 hN' hg => ?_
          replace hw:=hw.own hbN hg
          replace hb1:=hb1.grown hg (by simpa using ne1N)
          replace hb6:=hb6.grown hg (by simpa using neN6.symm)
          replace hS:=hS.grown hg (by simpa using neNS.symm)
          have eN:(acc++s.Caches[k].Names.take j).map strK++[strK nm]=(acc++s.Caches[k].Names.take (j+1)).map strK:=by rw [List.take_succ_eq_append_getElem hjl,hnm];simp
          rw [eN] at hN'
          repeat' (first|(refine CW.region ?_)|(first|refine Post.seq ?_|refine Post.blk ?_)|refine SW.nil ?_|refine SW.pure rfl rfl ?_|(show SW _ _ _ _ (⟨_,Op.binOp _ _ _ _ _,_,_,_,none⟩::_) _ _;refine SW.st (st_add rfl rfl (by omega) (by omega)) rfl ?_))
          exact Post.again (j+1) ⟨rfl,rfl,rfl,rfl,rfl,rfl,rfl,rfl,rfl,rfl,trivial⟩ (by omega) ⟨by omega,hw,hb1,hb6,hN',hS,go (fun _=>by simpa using hql)⟩
         ·rw [hbadN (.inr (.inr ⟨hj0,by simpa using hql⟩))]
          repeat' (first|(first|refine CW.seq ?_|refine CW.region ?_|refine CW.block ?_|refine CW.condtr rfl (by with_reducible rfl) ?_|refine CW.condd_t rfl (by omega) ?_|refine CW.skip ?_|refine CW.ret ?_)|(first|refine Post.seq ?_|refine Post.seq_ret ?_|refine Post.blk_ret ?_|refine Post.again_ret ?_)|refine SW.nil ?_|(show SW _ _ _ _ (⟨_,_,_,_,_,some _⟩::_) _ _;first|refine SW.want_t rfl rfl (by with_reducible rfl) ?_|refine SW.want_f rfl rfl (by with_reducible rfl) ?_|refine SW.splitd_t rfl rfl rfl (by omega) ?_|refine SW.want rfl rfl ?_)|refine SW.pure rfl rfl ?_|(show SW _ _ _ _ (⟨_,Op.fieldAddr _ _ _,_,_,_,none⟩::_) _ _;refine SW.st (st_field rfl) rfl ?_)|(show SW _ _ _ _ (⟨_,Op.binOp _ _ _ _ _,_,_,_,none⟩::_) _ _;refine SW.st (st_sub rfl rfl (by omega) (by omega)) rfl ?_)|(show SW _ _ _ _ (⟨_,Op.indexAddr _ _ _,_,_,_,none⟩::_) _ _;first|refine SW.st (st_indexN rfl rfl (by assumption) (by omega)) rfl ?_|refine SW.st (st_indexI (j-1) rfl rfl (by assumption) (by omega) (by omega)) rfl ?_)|(show SW _ _ _ _ (⟨_,Op.load _ _,_,_,_,none⟩::_) _ _;first|refine SW.st (st_loadx hw rfl gN) rfl ?_|refine SW.st (st_loadx hw rfl gP) rfl ?_|refine SW.st (st_load rfl (hb6.cell rfl)) rfl ?_)|(show SW _ _ _ _ (⟨_,Op.call ⟨.value (.func _),_,_⟩,_,_,_,none⟩::_) _ _;(refine SW.call rfl rfl (cNm _) ?_;intro v w1 hw1 hv;subst hv;replace hw:=Ext.trans hw hw1;replace hb1:=hb1.ext hw1;replace hb6:=hb6.ext hw1;replace hN:=hN.ext hw1;replace hS:=hS.ext hw1;clear hw1))|(refine SW.st ((st_lookS hN fnm rfl rfl).eq (congrArg Value.bool hqh)) rfl ?_)|(refine SW.st ((st_geStr rfl rfl).eq (congrArg Value.bool hql)) rfl ?_))
          all_goals first|(exfalso;omega)|skip
          exact Post.ret1 rfl rfl ⟨_,rfl,hw,rfl⟩
       ·rw [hbadN (.inr (.inl rfl))]
        repeat' (first|(first|refine CW.seq ?_|refine CW.region ?_|refine CW.block ?_|refine CW.condtr rfl (by with_reducible rfl) ?_|refine CW.condd_t rfl (by omega) ?_|refine CW.skip ?_|refine CW.ret ?_)|(first|refine Post.seq ?_|refine Post.seq_ret ?_|refine Post.blk_ret ?_|refine Post.again_ret ?_)|refine SW.nil ?_|(show SW _ _ _ _ (⟨_,_,_,_,_,some _⟩::_) _ _;first|refine SW.skip_f rfl rfl (by with_reducible rfl) rfl ?_|refine SW.skip_u rfl rfl (by with_reducible rfl) rfl ?_|refine SW.want rfl rfl ?_)|refine SW.pure rfl rfl ?_|(show SW _ _ _ _ (⟨_,Op.indexAddr _ _ _,_,_,_,none⟩::_) _ _;refine SW.st (st_indexN rfl rfl (by assumption) (by omega)) rfl ?_)|(show SW _ _ _ _ (⟨_,Op.load _ _,_,_,_,none⟩::_) _ _;refine SW.st (st_loadx hw rfl gN) rfl ?_)|(show SW _ _ _ _ (⟨_,Op.call ⟨.value (.func _),_,_⟩,_,_,_,none⟩::_) _ _;(refine SW.call rfl rfl (cNm _) ?_;intro v w1 hw1 hv;subst hv;replace hw:=Ext.trans hw hw1;replace hb1:=hb1.ext hw1;replace hb6:=hb6.ext hw1;replace hN:=hN.ext hw1;replace hS:=hS.ext hw1;clear hw1))|(refine SW.st ((st_lookS hN fnm rfl rfl).eq (congrArg Value.bool hqh)) rfl ?_))
        exact Post.ret1 rfl rfl ⟨_,rfl,hw,rfl⟩
     ·have hNin:NamesIn (namesAhead (s.Caches.take k)) s.Caches[k].Names:=⟨fun i h=>by rw [hacc];exact hJ i h (by omega)⟩
      rw [List.take_of_length_le (by omega)] at hN
      repeat' (first|(first|refine CW.seq ?_|refine CW.region ?_|refine CW.block ?_|refine CW.condd_f rfl (by omega) ?_|refine CW.exit ?_)|(first|refine Post.seq ?_|refine Post.seq_exit ?_|refine Post.hit ?_|refine Post.again_exit ?_)|refine SW.nil ?_|refine SW.pure rfl rfl ?_|(show SW _ _ _ _ (⟨_,Op.fieldAddr _ _ _,_,_,_,none⟩::_) _ _;refine SW.st (st_field rfl) rfl ?_)|(show SW _ _ _ _ (⟨_,Op.call ⟨.builtin .len,_,_⟩,_,_,_,none⟩::_) _ _;refine SW.st (st_len rfl) rfl ?_)|(show SW _ _ _ _ (⟨_,Op.load _ _,_,_,_,none⟩::_) _ _;refine SW.st (st_load rfl (hb6.cell rfl)) rfl ?_))
      clear hJ hj hjn hA1
      refine CW.loop (fun j:Nat=>[(1,.pointer (some ⟨b1,0,none⟩)),(3,.map (some bN)),(4,.map (some bS)),(30,.slice r.Caches.A r.Caches.n r.Caches.c),(31,.int .i64 (r.Caches.n:Int)),(32,.int .i64 (k:Int)),(83,.slice cs[k].Slabs.A cs[k].Slabs.n cs[k].Slabs.c),(84,.int .i64 (cs[k].Slabs.n:Int)),(85,.int .i64 (j:Int))])
       (fun j w'=>j≤cs[k].Slabs.n∧Ext w w'∧Blk w' b1 30 (encSys r)∧BMap w' Tryz.prog 9 4 bN ((acc++s.Caches[k].Names).map strK)∧BMap w' Tryz.prog 3 4 bS ((sac++(s.Caches[k].Slabs.take j).map fun x=>x.At).map intK) ∧
        ∀ (i:Nat) (h:i<s.Caches[k].Slabs.length),i<j→s.Caches[k].Slabs[i].At∉sac++(s.Caches[k].Slabs.take i).map fun x=>x.At) (fun j=>cs[k].Slabs.n-j) 0
       ⟨rfl,rfl,rfl,rfl,rfl,rfl,rfl,rfl,rfl,trivial⟩ ⟨by omega,hw,hb1,hN,by simpa using hS,fun i h h'=>by omega⟩ ?_
      clear hw hb1 hN hS hb6
      rintro j w' ⟨hj,hw,hb1,hN,hS,hJ⟩
      have hA1:=hck.slabs.base
      by_cases hjn:j<cs[k].Slabs.n
      ·have hjl:j<s.Caches[k].Slabs.length:=by omega
       obtain ⟨x,hx⟩ : ∃ x,s.Caches[k].Slabs[j]=x:=⟨_,rfl⟩
       have gS:=hck.slabs.all hjn
       rw [hx] at gS
       have fx : -9223372036854775808≤x.At∧x.At≤9223372036854775807:=by rw [← hx];exact fS _ (List.getElem_mem hjl)
       repeat' (first|(first|refine CW.seq ?_|refine CW.region ?_|refine CW.block ?_|refine CW.condd_t rfl (by omega) ?_|refine CW.skip ?_)|(refine Post.seq ?_)|refine SW.nil ?_|refine SW.pure rfl rfl ?_|(show SW _ _ _ _ (⟨_,Op.indexAddr _ _ _,_,_,_,none⟩::_) _ _;refine SW.st (st_indexN rfl rfl (by assumption) (by omega)) rfl ?_)|(show SW _ _ _ _ (⟨_,Op.load _ _,_,_,_,none⟩::_) _ _;refine SW.st (st_loadsx hw rfl rfl gS) rfl ?_))
       refine SW.alloc rfl fun b10 w1 hw1 hb10b hb10 => ?_
       skip
       refine SW.storeAgg hb10 rfl rfl rfl rfl (Enc.one (enc:=encSb) _) fun w2 hb10' hg => ?_
       have hXX:=hw1.own hb10b hg
       have hb10w:w.heap.size≤b10:=Nat.le_trans hw.size hb10b
       replace hw:=Ext.trans hw hXX
       replace hb1:=hb1.ext hXX
       replace hN:=hN.ext hXX
       replace hS:=hS.ext hXX
       replace hb10:=hb10'
       clear hb10' hw1 hg hXX
       by_cases hmem:x.At∈sac++(s.Caches[k].Slabs.take j).map fun x=>x.At
       ·have hdm:=decide_eq_true hmem
        rw [sysB_f fun hm=>by
         have:=(hm.each k hkl).slabs j hjl
         rw [hx,hsac] at this
         exact this hmem]
        repeat' (first|(first|refine CW.seq ?_|refine CW.region ?_|refine CW.condtr rfl (by with_reducible rfl) ?_|refine CW.ret ?_)|(first|refine Post.seq ?_|refine Post.seq_ret ?_|refine Post.blk_ret ?_|refine Post.again_ret ?_)|refine SW.nil ?_|refine SW.pure rfl rfl ?_|(show SW _ _ _ _ (⟨_,Op.fieldAddr _ _ _,_,_,_,none⟩::_) _ _;refine SW.st (st_field rfl) rfl ?_)|(show SW _ _ _ _ (⟨_,Op.load _ _,_,_,_,none⟩::_) _ _;refine SW.st (st_load rfl (hb10.cell rfl)) rfl ?_)|(refine SW.st ((st_lookI hS fx rfl rfl).eq (congrArg Value.bool hdm)) rfl ?_))
        exact Post.ret1 rfl rfl ⟨_,rfl,hw,rfl⟩
       ·have hdm:=decide_eq_false hmem
        repeat' (first|(first|refine CW.seq ?_|refine CW.region ?_|refine CW.condfr rfl (by with_reducible rfl) ?_|refine CW.skip ?_)|(refine Post.seq ?_)|refine SW.nil ?_|refine SW.pure rfl rfl ?_|(show SW _ _ _ _ (⟨_,Op.fieldAddr _ _ _,_,_,_,none⟩::_) _ _;refine SW.st (st_field rfl) rfl ?_)|(show SW _ _ _ _ (⟨_,Op.load _ _,_,_,_,none⟩::_) _ _;refine SW.st (st_load rfl (hb10.cell rfl)) rfl ?_)|(refine SW.st ((st_lookI hS fx rfl rfl).eq (congrArg Value.bool hdm)) rfl ?_))
        refine SW.mapPut hS (int_keyed und_int) und_mapI und_bool (by simp only [List.length_map,List.length_append,List.length_take];unfold maxLen;omega) rfl rfl rfl (keyOf_int fx) trivial fun w5 hS' hg => ?_
        replace hw:=hw.own hbS hg
        replace hb1:=hb1.grown hg (by simpa using ne1S)
        replace hN:=hN.grown hg (by simpa using neNS)
        have eN:(sac++(s.Caches[k].Slabs.take j).map fun x=>x.At).map intK++[intK x.At]=(sac++(s.Caches[k].Slabs.take (j+1)).map fun x=>x.At).map intK:=by rw [List.take_succ_eq_append_getElem hjl,hx];simp
        rw [eN] at hS'
        repeat' (first|(refine CW.region ?_)|(first|refine Post.seq ?_|refine Post.blk ?_)|refine SW.nil ?_|refine SW.pure rfl rfl ?_|(show SW _ _ _ _ (⟨_,Op.binOp _ _ _ _ _,_,_,_,none⟩::_) _ _;refine SW.st (st_add rfl rfl (by omega) (by omega)) rfl ?_))
        exact Post.again (j+1) ⟨rfl,rfl,rfl,rfl,rfl,rfl,rfl,rfl,rfl,trivial⟩ (by omega) ⟨by omega,hw,hb1,hN,hS',fun i h h'=>by
         by_cases ei:i=j
         ·subst ei;rw [hx];exact hmem
         ·exact hJ i h (by omega)⟩
      ·rw [List.take_of_length_le (by omega),← hsac,← slabsAhead_take s.Caches k hkl] at hS
       rw [← hacc,← namesAhead_take s.Caches k hkl] at hN
       repeat' (first|(first|refine CW.seq ?_|refine CW.region ?_|refine CW.condd_f rfl (by omega) ?_|refine CW.exit ?_)|(first|refine Post.seq ?_|refine Post.seq_exit ?_|refine Post.hit ?_|refine Post.blk ?_|refine Post.again_exit ?_)|refine SW.nil ?_|refine SW.pure rfl rfl ?_|(show SW _ _ _ _ (⟨_,Op.binOp _ _ _ _ _,_,_,_,none⟩::_) _ _;refine SW.st (st_add rfl rfl (by omega) (by omega)) rfl ?_))
       exact Post.again (k+1) ⟨rfl,rfl,rfl,rfl,rfl,rfl,trivial⟩ (by omega) ⟨by omega,hw,hb1,hN,hS,fun i h h'=>by
        by_cases ei:i=k
        ·subst ei
         exact ⟨hCM,hsz,hNin,fun i h=>by rw [hsac];exact hJ i h (by omega)⟩
        ·exact hI i h (by omega)⟩
    ·have hF:sysB s=false:=sysB_f fun hm=>by
      obtain ⟨d,hd,he⟩:=List.any_eq_true.1 hy
      obtain ⟨j,hj,rfl⟩:=List.mem_take_iff_getElem.1 hd
      have e1:=(hc.each.get j (by omega) (by omega)).size
      have e2:=hck.size
      have:=of_decide_eq_true he
      exact (hm.each k hkl).size j (by omega) (by rw [← e1,← e2];exact this)
     rw [hF]
     repeat' (first|(first|refine CW.seq ?_|refine CW.region ?_|refine CW.condtr rfl (by with_reducible rfl) ?_|refine CW.ret ?_)|(first|refine Post.seq ?_|refine Post.seq_ret ?_|refine Post.blk_ret ?_|refine Post.again_ret ?_)|refine SW.nil ?_|(show SW _ _ _ _ (⟨_,_,_,_,_,some _⟩::_) _ _;refine SW.want rfl rfl ?_)|refine SW.pure rfl rfl ?_|(show SW _ _ _ _ (⟨_,Op.fieldAddr _ _ _,_,_,_,none⟩::_) _ _;refine SW.st (st_field rfl) rfl ?_)|(show SW _ _ _ _ (⟨_,Op.load _ _,_,_,_,none⟩::_) _ _;first|refine SW.st (st_loads rfl rfl ((fun _ _=>hb1.cell))) rfl ?_|refine SW.st (st_loads rfl rfl ((fun _ _=>hb6.cell))) rfl ?_|refine SW.st (st_load rfl (hb1.cell rfl)) rfl ?_)|(show SW _ _ _ _ (⟨_,Op.call ⟨.value (.func _),_,_⟩,_,_,_,none⟩::_) _ _;first|(refine SW.call rfl rfl (cC _ hw) ?_;intro v w1 hw1 hv;subst hv;replace hw:=Ext.trans hw hw1;replace hb1:=hb1.ext hw1;replace hb6:=hb6.ext hw1;replace hN:=hN.ext hw1;replace hS:=hS.ext hw1;clear hw1)|(refine SW.call rfl rfl (cD _ hw hb6) ?_;intro v w1 hw1 hv;subst hv;replace hw:=Ext.trans hw hw1;replace hb1:=hb1.ext hw1;replace hb6:=hb6.ext hw1;replace hN:=hN.ext hw1;replace hS:=hS.ext hw1;clear hw1))|(refine SW.st (st_sliceHi (k:=k) rfl rfl (by omega)) rfl ?_)|(refine SW.st (st_func (vs:=[.pointer (some ⟨b6,0,none⟩)]) rfl) rfl ?_))
     exact Post.ret1 rfl rfl ⟨_,rfl,hw,rfl⟩
  ·rw [sysB_t ⟨g1,hH,g3,fun i h=>hI i h (by omega)⟩]
   repeat' (first|(first|refine CW.seq ?_|refine CW.region ?_|refine CW.condd_f rfl (by omega) ?_|refine CW.ret ?_|refine CW.exit ?_)|(first|refine Post.seq ?_|refine Post.seq_exit ?_|refine Post.hit ?_|refine Post.again_exit ?_)|refine SW.nil ?_|refine SW.pure rfl rfl ?_)
   exact Post.ret1 rfl rfl ⟨_,rfl,hw,rfl⟩
 ·have hF:sysB s=false:=sysB_f fun hm=>hgood ⟨hm.words,by rw [← hq];exact heapB_t hm.heap,hm.most⟩
  rw [hF]
  cases q
  all_goals simp only [if_true,Bool.false_eq_true,if_false] at c1
  all_goals simp only [true_and,Bool.false_eq_true,false_and,and_false,not_false_eq_true] at hgood
  ·rcases (show s.Words.length≠4096∨s.Words.length=4096 by omega) with g|g
   all_goals
    repeat' (first|(first|refine CW.seq ?_|refine CW.region ?_|refine CW.condtr rfl (by with_reducible rfl) ?_|refine CW.ret ?_)|(first|refine Post.seq ?_|refine Post.seq_ret ?_)|refine SW.nil ?_|(show SW _ _ _ _ (⟨_,_,_,_,_,some _⟩::_) _ _;first|refine SW.want_f rfl rfl (by with_reducible rfl) ?_|refine SW.skip_f rfl rfl (by with_reducible rfl) rfl ?_|refine SW.splitn_t rfl rfl rfl (by omega) ?_|refine SW.splitn_f rfl rfl rfl (by omega) ?_)|refine SW.pure rfl rfl ?_|(show SW _ _ _ _ (⟨_,Op.fieldAddr _ _ _,_,_,_,none⟩::_) _ _;refine SW.st (st_field rfl) rfl ?_)|(show SW _ _ _ _ (⟨_,Op.call ⟨.builtin .len,_,_⟩,_,_,_,none⟩::_) _ _;refine SW.st (st_len rfl) rfl ?_)|(show SW _ _ _ _ (⟨_,Op.load _ _,_,_,_,none⟩::_) _ _;first|refine SW.st (st_load rfl (hb1.cell rfl)) rfl ?_|refine SW.st (st_loads rfl rfl ((heapIn hb1))) rfl ?_)|(show SW _ _ _ _ (⟨_,Op.call ⟨.value (.func _),_,_⟩,_,_,_,none⟩::_) _ _;(refine SW.call rfl rfl (c1 _ hw) ?_;intro v w1 hw1 hv;subst hv;replace hw:=Ext.trans hw hw1;replace hb1:=hb1.ext hw1;clear hw1)))
    all_goals first|(exfalso;omega)|skip
    exact Post.ret1 rfl rfl ⟨_,rfl,hw,rfl⟩
  ·rcases (show s.Words.length≠4096∨(s.Words.length=4096∧20<s.Caches.length) by omega) with g|g
   all_goals
    repeat' (first|(first|refine CW.seq ?_|refine CW.region ?_|refine CW.condtr rfl (by with_reducible rfl) ?_|refine CW.condd_t rfl (by omega) ?_|refine CW.ret ?_)|(first|refine Post.seq ?_|refine Post.seq_ret ?_)|refine SW.nil ?_|(show SW _ _ _ _ (⟨_,_,_,_,_,some _⟩::_) _ _;first|refine SW.want_f rfl rfl (by with_reducible rfl) ?_|refine SW.skip_f rfl rfl (by with_reducible rfl) rfl ?_|refine SW.splitn_t rfl rfl rfl (by omega) ?_|refine SW.splitn_f rfl rfl rfl (by omega) ?_)|refine SW.pure rfl rfl ?_|(show SW _ _ _ _ (⟨_,Op.fieldAddr _ _ _,_,_,_,none⟩::_) _ _;refine SW.st (st_field rfl) rfl ?_)|(show SW _ _ _ _ (⟨_,Op.call ⟨.builtin .len,_,_⟩,_,_,_,none⟩::_) _ _;refine SW.st (st_len rfl) rfl ?_)|(show SW _ _ _ _ (⟨_,Op.load _ _,_,_,_,none⟩::_) _ _;first|refine SW.st (st_load rfl (hb1.cell rfl)) rfl ?_|refine SW.st (st_loads rfl rfl ((heapIn hb1))) rfl ?_)|(show SW _ _ _ _ (⟨_,Op.call ⟨.value (.func _),_,_⟩,_,_,_,none⟩::_) _ _;(refine SW.call rfl rfl (c1 _ hw) ?_;intro v w1 hw1 hv;subst hv;replace hw:=Ext.trans hw hw1;replace hb1:=hb1.ext hw1;clear hw1)))
    all_goals first|(exfalso;omega)|skip
    exact Post.ret1 rfl rfl ⟨_,rfl,hw,rfl⟩
theorem nodup_bd:∀ (n:Nat) (l:List Nat),l.Nodup→(∀ x∈l,x<n)→l.length≤n
 | 0,l,_,h=>by
  cases l with
  | nil=>simp
  | cons a r=>exact absurd (h a (by simp)) (by omega)
 | n+1,l,hd,h=>by
  have h1:=nodup_bd n (l.erase n) (hd.erase n) (fun x hx=>by
   have:=hd.mem_erase_iff.1 hx
   have:=h x this.2
   omega)
  have h2:l.length≤(l.erase n).length+1:=by
   rw [List.length_erase]
   split<;>omega
  omega
theorem nodup_map {α β : Type} {f : α → β} {l:List α} (hd:l.Nodup) (hf:∀ x∈l,∀ y∈l,f x=f y→x=y) : (l.map f).Nodup:=by
 induction l with
 | nil=>simp
 | cons a r ih =>
  rw [List.nodup_cons] at hd
  rw [List.map_cons,List.nodup_cons]
  refine ⟨fun h => ?_,ih hd.2 fun x hx y hy=>hf x (by simp [hx]) y (by simp [hy])⟩
  obtain ⟨b,hb,e⟩:=List.mem_map.1 h
  have:=hf b (by simp [hb]) a (by simp) e
  subst this
  exact hd.1 hb
theorem nodup_step {α : Type} {acc l:List α} (h:acc.Nodup) : ∀ (j:Nat),(∀ (k:Nat) (hk:k<l.length),k<j→l[k]∉acc++l.take k)→(acc++l.take j).Nodup
 | 0,_=>by simpa using h
 | j+1,hi=>by
  have ih:=nodup_step (l:=l) h j (fun k hk hj=>hi k hk (by omega))
  by_cases hj:j<l.length
  ·rw [List.take_succ_eq_append_getElem hj,← List.append_assoc,List.nodup_append]
   refine ⟨ih,by simp,fun a ha b hb e => ?_⟩
   simp at hb
   subst hb e
   exact hi j hj (by omega) ha
  ·rw [List.take_of_length_le (by omega)]
   rwa [List.take_of_length_le (by omega)] at ih
def digU (b:UInt8) : Nat:=if b.toNat<97 then b.toNat-47 else b.toNat-86
def codeU:List UInt8→Nat
 | []=>0
 | b::r=>digU b+37*codeU r
theorem digU_ok {b:UInt8} (h:oddU b=false) : 1≤digU b∧digU b≤36:=by
 unfold oddU at h
 simp at h
 unfold digU
 split<;>omega
theorem digU_inj {b c:UInt8} (h:oddU b=false) (k:oddU c=false) (e:digU b=digU c) : b=c:=by
 unfold oddU at h k
 simp at h k
 unfold digU at e
 apply UInt8.toNat_inj.1
 split at e<;>split at e<;>omega
theorem codeU_lt:∀ (l:List UInt8),(∀ b∈l,oddU b=false)→codeU l<37 ^ l.length
 | [],_=>by simp [codeU]
 | b::r,h=>by
  have h1:=digU_ok (h b (by simp))
  have h2:=codeU_lt r (fun x hx=>h x (by simp [hx]))
  simp only [codeU,List.length_cons,Nat.pow_succ]
  omega
theorem codeU_inj:∀ (l m:List UInt8),(∀ b∈l,oddU b=false)→(∀ b∈m,oddU b=false)→codeU l=codeU m→l=m
 | [],[],_,_,_=>rfl
 | [],c::t,_,k,e=>by
  have:=digU_ok (k c (by simp))
  simp only [codeU] at e
  omega
 | b::r,[],h,_,e=>by
  have:=digU_ok (h b (by simp))
  simp only [codeU] at e
  omega
 | b::r,c::t,h,k,e=>by
  have h1:=digU_ok (h b (by simp))
  have h2:=digU_ok (k c (by simp))
  simp only [codeU] at e
  have e1:digU b=digU c:=by omega
  have e2:codeU r=codeU t:=by omega
  rw [digU_inj (h b (by simp)) (k c (by simp)) e1,codeU_inj r t (fun x hx=>h x (by simp [hx])) (fun x hx=>k x (by simp [hx])) e2]
theorem nameB_iff {s:ByteArray}:nameB s=true↔(1≤s.size∧s.size≤8) ∧ ∀ b∈s.data.toList,oddU b=false:=by
 unfold nameB
 rw [Bool.and_eq_true,decide_eq_true_iff,Bool.not_eq_true',List.any_eq_false]
 constructor
 ·rintro ⟨h,k⟩
  exact ⟨by omega,fun b hb=>by simpa using k b hb⟩
 ·rintro ⟨h,k⟩
  exact ⟨by omega,fun b hb=>by simp [k b hb]⟩
theorem names_count {l:List ByteArray} (hd:l.Nodup) (hv:∀ n∈l,nameB n=true) : l.length≤3512479453921:=by
 have h:=nodup_bd 3512479453921 (l.map fun n=>codeU n.data.toList) (nodup_map hd fun x hx y hy e => ?_) (fun z hz => ?_)
 ·simpa using h
 ·have h1:=codeU_inj _ _ (nameB_iff.1 (hv x hx)).2 (nameB_iff.1 (hv y hy)).2 e
  cases x;cases y
  simpa using h1
 ·obtain ⟨n,hn,rfl⟩:=List.mem_map.1 hz
  obtain ⟨h1,h2⟩:=nameB_iff.1 (hv n hn)
  have h3:=codeU_lt _ h2
  have h4:n.data.toList.length≤8:=by rw [Array.length_toList];exact h1.2
  have h5 : 37 ^ n.data.toList.length≤37 ^ 8:=Nat.pow_le_pow_right (by omega) h4
  exact Nat.lt_of_lt_of_le h3 h5
theorem ats_count {l:List Int} (hd:l.Nodup) (hv:∀ n∈l,0≤n∧n≤255) : l.length≤256:=by
 have h:=nodup_bd 256 (l.map Int.toNat) (nodup_map hd fun x hx y hy e => ?_) (fun z hz => ?_)
 ·simpa using h
 ·have:=hv x hx
  have:=hv y hy
  omega
 ·obtain ⟨n,hn,rfl⟩:=List.mem_map.1 hz
  have:=hv n hn
  omega
theorem live_at {l:List Block} (h:LiveOk l) {a:Int} (hf:foundA l a=true) : 0≤a∧a≤255:=by
 obtain ⟨hm,e⟩:=found_at hf
 have:=(h.each _ hm).2.1
 omega
theorem SlabMay.at_ {s:KSystem} {c:KCache} {i:Nat} {h:i<c.Slabs.length} (hm:SlabMay s c i h) (hH:HeapMay s.Heap) (ho : 0≤c.Order) : foundA s.Heap.Live c.Slabs[i].At=true∧0≤c.Slabs[i].At∧c.Slabs[i].At≤255:=by
 have hf:foundA s.Heap.Live c.Slabs[i].At=true:=by
  cases hf:foundA s.Heap.Live c.Slabs[i].At
  ·have:=hm.live
   rw [ordA_f hf] at this
   omega
  ·rfl
 exact ⟨hf,live_at hH.live hf⟩
theorem CacheMay.ats {s:KSystem} {c:KCache} (hm:CacheMay s c) (hH:HeapMay s.Heap) : ∀ x∈c.Slabs,0≤x.At∧x.At≤255:=fun x hx=>by
 obtain ⟨i,hi,rfl⟩:=List.getElem_of_mem hx
 exact ((hm.slabs i hi).at_ hH (layoutF_ok hm.lay).2.1.1).2
theorem ahead_ok {s:KSystem} (hH:HeapMay s.Heap) : ∀ (k:Nat),k≤s.Caches.length→(∀ (i:Nat) (h:i<s.Caches.length),i<k→CacheIn s i h) →
  ((namesAhead (s.Caches.take k)).Nodup ∧ ∀ n∈namesAhead (s.Caches.take k),nameB n=true)∧((slabsAhead (s.Caches.take k)).Nodup ∧ ∀ a∈slabsAhead (s.Caches.take k),0≤a∧a≤255)
 | 0,_,_=>by simp [namesAhead,slabsAhead]
 | k+1,hk,hI=>by
  obtain ⟨⟨h1,h2⟩,h3,h4⟩:=ahead_ok hH k (by omega) (fun i h h'=>hI i h (by omega))
  have hc:=hI k (by omega) (by omega)
  rw [namesAhead_take _ _ (by omega),slabsAhead_take _ _ (by omega)]
  refine ⟨⟨?_,fun n hn => ?_⟩,?_,fun a ha => ?_⟩
  ·have:=nodup_step (l:=(s.Caches[k]'(by omega)).Names) h1 (s.Caches[k]'(by omega)).Names.length (fun i hi _=>(hc.names.each i hi).2.1)
   rwa [List.take_length] at this
  ·rcases List.mem_append.1 hn with hn|hn
   ·exact h2 n hn
   ·obtain ⟨i,hi,rfl⟩:=List.getElem_of_mem hn
    exact (hc.names.each i hi).1
  ·have:=nodup_step (l:=(s.Caches[k]'(by omega)).Slabs.map fun x=>x.At) h3 (s.Caches[k]'(by omega)).Slabs.length (fun i hi _=>by
    have:=hc.slabs i (by simpa using hi)
    simpa [List.map_take] using this)
   rwa [← List.map_take,List.take_length] at this
  ·rcases List.mem_append.1 ha with ha|ha
   ·exact h4 a ha
   ·obtain ⟨x,hx,rfl⟩:=List.mem_map.1 ha
    exact hc.may.ats hH x hx
def hasN (n:ByteArray) (c:KCache) : Bool:=hasS c.Names n
def KSystem.zero:KSystem:=⟨[],.zero,[]⟩
def posS (l:List ByteArray) (n:ByteArray) : Nat:=(l.takeWhile fun m=>lessS m n).length
theorem posS_le (l:List ByteArray) (n:ByteArray) : posS l n≤l.length:=by
 unfold posS
 exact (List.takeWhile_sublist _).length_le
theorem posS_lt {l:List ByteArray} {n:ByteArray} {j:Nat} (h:j<posS l n) (hj:j<l.length) : lessS l[j] n=true:=by
 unfold posS at h
 have h1:(l.takeWhile fun m=>lessS m n)[j]=l[j]:=List.IsPrefix.getElem (List.takeWhile_prefix _) h
 rw [← h1]
 have:=List.all_takeWhile (p:=fun m=>lessS m n) (l:=l)
 rw [List.all_eq_true] at this
 exact this _ (List.getElem_mem h)
theorem posS_at {l:List ByteArray} {n:ByteArray} (h:posS l n<l.length) : lessS l[posS l n] n=false:=by
 induction l with
 | nil=>simp at h
 | cons a r ih =>
  unfold posS at h ih ⊢
  by_cases e:lessS a n=true
  ·simp only [List.takeWhile_cons,e,if_true,List.length_cons] at h ih ⊢
   simp only [List.getElem_cons_succ]
   exact ih (by omega)
  ·have e':lessS a n=false:=by simpa using e
   simp [e']
theorem posS_uniq {l:List ByteArray} {n:ByteArray} {k:Nat} (hk:k≤l.length) (h1:∀ j (hj:j<l.length),j<k→lessS l[j] n=true) (h2:∀ h:k<l.length,lessS l[k] n=false) : posS l n=k:=by
 rcases Nat.lt_trichotomy (posS l n) k with h|h|h
 ·have:=h1 (posS l n) (by omega) h
  rw [posS_at (by omega)] at this
  cases this
 ·exact h
 ·have:=posS_lt h (by have:=posS_le l n;omega)
  rw [h2 (by have:=posS_le l n;omega)] at this
  cases this
def Sorted (l:List ByteArray) : Prop := ∀ (i j:Nat) (hi:i<l.length) (hj:j<l.length),i<j→lessS l[i] l[j]=true
theorem NamesIn.sorted {acc l:List ByteArray} (h:NamesIn acc l) : Sorted l:=by
 have:∀ (d i:Nat) (hi:i<l.length) (hj:i+d+1<l.length),lessS l[i] l[i+d+1]=true:=by
  intro d
  induction d with
  | zero=>intro i hi hj;exact (h.each (i+1) hj).2.2 (by omega)
  | succ d ih =>
   intro i hi hj
   exact lessS_trans (ih i hi (by omega)) ((h.each (i+(d+1)+1) hj).2.2 (by omega))
 intro i j hi hj hij
 obtain ⟨d,rfl⟩ : ∃ d,j=i+d+1:=⟨j-i-1,by omega⟩
 exact this d i hi hj
theorem CacheIn.names_len {s:KSystem} {i:Nat} {hi:i<s.Caches.length} (h:CacheIn s i hi) (hH:HeapMay s.Heap) (hI:∀ (j:Nat) (h:j<s.Caches.length),CacheIn s j h) : s.Caches[i].Names.length≤3512479453921:=by
 have h1:=ahead_ok hH i (by omega) (fun j hj _=>hI j hj)
 have h2:=nodup_step (l:=s.Caches[i].Names) h1.1.1 s.Caches[i].Names.length (fun k hk _=>(h.names.each k hk).2.1)
 rw [List.take_length] at h2
 refine names_count (List.nodup_append.1 h2).2.1 fun n hn => ?_
 obtain ⟨k,hk,rfl⟩:=List.getElem_of_mem hn
 exact (h.names.each k hk).1
def SysOut (lo:Nat) (u:KSystem×Int) (v:Value) (w:World) : Prop := ∃ q,v = .tuple #[.agg (encSys q).toArray,.int .i64 u.2]∧OwnS w lo q u.1
theorem SysOut.zero (e:Int) (lo:Nat) (w:World) : SysOut lo (.zero,e) (.tuple #[.agg (encSys .zero).toArray,.int .i64 e]) w :=
 ⟨.zero,rfl,Own.nil_ _ _ _ _ _ _,OwnH.zero w lo,⟨[],OwnCs.nil _ _⟩⟩
theorem Heap.zero_small:Heap.zero.small:=by constructor<;>simp [Heap.zero]
theorem KSystem.zero_small:KSystem.zero.small:=⟨by simp [KSystem.zero],Heap.zero_small,by simp [KSystem.zero],by simp [KSystem.zero]⟩
end Go.Proofs.YtigikedbffjeiaaGreat
