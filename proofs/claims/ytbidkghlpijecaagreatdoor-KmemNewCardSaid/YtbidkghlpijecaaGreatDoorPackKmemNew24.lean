/-
  Texts of the claim KmemNew, part 24: what its theorem leans on.
-/
import Derived.Test.YtbidkghlpijecaaGreatDoorPackKmemNew22
import Derived.Test.YtbidkghlpijecaaGreatDoorPackKmemNew23
import Derived.Test.YtbidkghlpijecaaGreatDoorPackKmemNew19
set_option linter.unusedVariables false
set_option linter.unusedSimpArgs false
namespace Go.Proofs.YtbidkghlpijecaaGreatDoor
open Go.RowKit
theorem lessS_asym {a b:ByteArray} (h:lessS a b=true) : lessS b a=false:=by
 cases e:lessS b a
 ·rfl
 ·have:=lessS_trans h e
  rw [lessS_irrefl] at this
  cases this
theorem lessS_ge {a b:ByteArray} (h:lessS a b=false) (hne:a≠b) : lessS b a=true:=by
 have:=lessS_tri b a
 rw [h,decide_eq_false (fun e=>hne e.symm)] at this
 simpa using this
theorem take_ins_lt {α : Type} {l:List α} {p k:Nat} {x : α} (hp:p≤l.length) (hk:k<p) : (insAt l p x).take (k+1)=(insAt l p x).take k++[l[k]'(by omega)]:=by
 have hl:=length_insAt l hp x
 rw [List.take_succ_eq_append_getElem (by omega)]
 have:=insAt_lt (x:=x) hp hk
 rw [List.getElem?_eq_getElem (by omega),List.getElem?_eq_getElem (by omega)] at this
 rw [Option.some.inj this]
theorem take_ins_eq {α : Type} {l:List α} {p:Nat} {x : α} (hp:p≤l.length) : (insAt l p x).take (p+1)=(insAt l p x).take p++[x]:=by
 have hl:=length_insAt l hp x
 rw [List.take_succ_eq_append_getElem (by omega)]
 have:=insAt_eq (x:=x) hp
 rw [List.getElem?_eq_getElem (by omega)] at this
 rw [Option.some.inj this]
theorem take_ins_gt {α : Type} {l:List α} {p k:Nat} {x : α} (hp:p≤l.length) (hk:p≤k) (h:k<l.length) : (insAt l p x).take (k+1+1)=(insAt l p x).take (k+1)++[l[k]]:=by
 have hl:=length_insAt l hp x
 rw [List.take_succ_eq_append_getElem (by omega)]
 have:=insAt_gt (x:=x) hp hk
 rw [List.getElem?_eq_getElem (by omega),List.getElem?_eq_getElem (by omega)] at this
 rw [Option.some.inj this]
set_option maxHeartbeats 8000000 in
theorem CreatedOf_ans (r:SRow) (s:KSystem) (n:ByteArray) (size align:Int) (w:World) (hr:RdS w r s) (hf:s.fine) (hns:n.size≤140737488351232) :
 Ans Tryz.prog 63 [.agg (encSys r).toArray,.string n,.int .i64 size,.int .i64 align] w fun v w' => ∃ u,CreR s n size align u∧SysOut w.heap.size u v w':=by
 refine ans_of Tryz.func63 rfl Tryz.ntmps63 rfl ?_
 have hs:=hf.small
 refine CW.seq (CW.region (SW.box rfl rfl fun b4 w1 hw hb4b hb4 => ?_))
 have hb4w:=hb4b
 refine SW.alloc rfl fun b8 w3 hw3 hb8b hb8 => ?_
 have hb8w:w.heap.size≤b8:=Nat.le_trans hw.size hb8b
 have hne48:b4≠b8:=by have:=hb4.lt;omega
 (replace hw:=Ext.trans hw hw3;replace hb4:=hb4.ext hw3)
 obtain ⟨q,hq⟩ : ∃ q,sysB s=q:=⟨_,rfl⟩
 have c1:∀ w',Ext w w'→Ans Tryz.prog 47 [.agg (encSys r).toArray] w' fun v _=>v = .bool q:=fun w' hx=>by
  have:=SMay_ans r s w' (hr.ext hx) hf
  rwa [hq] at this
 cases q
 ·repeat' (first|(first|refine CW.seq ?_|refine CW.region ?_|refine CW.condt rfl ?_)|(refine Post.seq ?_)|refine SW.nil ?_|refine SW.pure rfl rfl ?_|(show SW _ _ _ _ (⟨_,Op.build _ _,_,_,_,none⟩::_) _ _;refine SW.st (st_build rfl rfl) rfl ?_)|(show SW _ _ _ _ (⟨_,Op.load _ _,_,_,_,none⟩::_) _ _;refine SW.st (st_loads rfl rfl ((fun _ _=>hb4.cell))) rfl ?_)|(show SW _ _ _ _ (⟨_,Op.call ⟨.value (.func _),_,_⟩,_,_,_,none⟩::_) _ _;(refine SW.call rfl rfl (c1 _ hw) ?_;intro v w1 hw1 hv;subst hv;replace hw:=Ext.trans hw hw1;replace hb4:=hb4.ext hw1;replace hb8:=hb8.ext hw1;clear hw1)))
  refine SW.storeAgg hb8 rfl rfl rfl rfl (one_s .zero) fun w5 hR2 hg => ?_
  replace hw:=hw.own hb8w hg
  repeat' (first|(refine CW.ret ?_)|(first|refine Post.seq ?_|refine Post.seq_ret ?_)|refine SW.nil ?_|refine SW.pure rfl rfl ?_)
  exact Post.ret2c rfl rfl rfl hR2 rfl ⟨_,rfl,hw,_,.bad hq,SysOut.zero 8 _ _⟩
 ·have hM:=sysB_iff.1 hq
  obtain ⟨p,hp⟩ : ∃ p,nameB n=p:=⟨_,rfl⟩
  have c2:∀ w',Ans Tryz.prog 116 [.string n] w' fun v _=>v = .bool p:=fun w'=>by
   have:=nameMay_ans n w' hns
   rwa [hp] at this
  by_cases hal:p=true∧alignOk align
  ·obtain ⟨rfl,hal⟩:=hal
   have hal':=hal
   unfold alignOk at hal'
   have hnA:nameB n=true∧alignOk align:=⟨hp,hal⟩
   repeat' (first|(first|refine CW.seq ?_|refine CW.region ?_|refine CW.condf rfl ?_|refine CW.skip ?_)|(refine Post.seq ?_)|refine SW.nil ?_|refine SW.pure rfl rfl ?_|(show SW _ _ _ _ (⟨_,Op.load _ _,_,_,_,none⟩::_) _ _;refine SW.st (st_loads rfl rfl ((fun _ _=>hb4.cell))) rfl ?_)|(show SW _ _ _ _ (⟨_,Op.call ⟨.value (.func _),_,_⟩,_,_,_,none⟩::_) _ _;(refine SW.call rfl rfl (c1 _ hw) ?_;intro v w1 hw1 hv;subst hv;replace hw:=Ext.trans hw hw1;replace hb4:=hb4.ext hw1;replace hb8:=hb8.ext hw1;clear hw1)))
   obtain ⟨K,hK⟩ : ∃ K:Env→World→Prop,K=fun L' w'=>subEnv L' [(1,.string n),(2,.int .i64 size),(3,.int .i64 align),(4,.pointer (some ⟨b4,0,none⟩)),(8,.pointer (some ⟨b8,0,none⟩)),(42,.bool false)]∧Ext w w'∧Blk w' b4 44 (encSys r)∧Blk w' b8 44 (encSys .zero):=⟨_,rfl⟩
   refine SW.cutq K ?_ ?_
   ·repeat' (first|refine SW.nil ?_|(show SW _ _ _ _ (⟨_,_,_,_,_,some _⟩::_) _ _;first|refine SW.want_t rfl rfl (by with_reducible rfl) ?_|refine SW.skip_t rfl rfl (by with_reducible rfl) rfl ?_|refine SW.splitn rfl rfl rfl (fun h => ?_) (fun h => ?_)|refine SW.want rfl rfl ?_)|refine SW.pure rfl rfl ?_|(show SW _ _ _ _ (⟨_,Op.call ⟨.value (.func _),_,_⟩,_,_,_,none⟩::_) _ _;(refine SW.call rfl rfl (c2 _) ?_;intro v w1 hw1 hv;subst hv;replace hw:=Ext.trans hw hw1;replace hb4:=hb4.ext hw1;replace hb8:=hb8.ext hw1;clear hw1)))
    all_goals first|(exfalso;omega)|skip
    all_goals exact Post.cutn (by rw [hK];exact ⟨⟨rfl,rfl,rfl,rfl,rfl,by first|rfl|exact congrArg (fun b=>some (Value.bool b)) (by rw [decide_eq_true (by omega)];rfl),trivial⟩,hw,hb4,hb8⟩)
   ·clear hw hb4 hb8 c1 c2
    subst hK
    rintro L' w' ⟨hsub,hw,hb4,hb8⟩
    refine Post.sub hsub ?_
    by_cases hsz : 1≤size∧size≤64
    ·have hu:=upTo_ok hal hsz
     obtain ⟨ix,hix⟩ : ∃ ix,idxOf (hasN n) s.Caches=ix:=⟨_,rfl⟩
     have hge:=idxOf_ge (hasN n) s.Caches
     rw [hix] at hge
     have c3:∀ w',Ext w w'→Ans Tryz.prog 118 [.agg (encSys r).toArray,.string n] w' fun v _=>v = .int .i64 ix:=fun w' hx=>by
      have:=cacheOf_ans r s n w' (hr.ext hx) hs
      rwa [hix] at this
     by_cases hix0 : 0≤ix
     ·have ht:s.Caches.any (hasN n)=true:=by rw [← hge];exact decide_eq_true hix0
      repeat' (first|(first|refine CW.seq ?_|refine CW.region ?_|refine CW.condfr rfl (by with_reducible rfl) ?_|refine CW.condd_t rfl (by omega) ?_|refine CW.condn_f rfl (by omega) ?_|refine CW.skip ?_)|(refine Post.seq ?_)|refine SW.nil ?_|refine SW.pure rfl rfl ?_|(show SW _ _ _ _ (⟨_,Op.build _ _,_,_,_,none⟩::_) _ _;refine SW.st (st_build rfl rfl) rfl ?_)|(show SW _ _ _ _ (⟨_,Op.load _ _,_,_,_,none⟩::_) _ _;refine SW.st (st_loads rfl rfl ((fun _ _=>hb4.cell))) rfl ?_)|(show SW _ _ _ _ (⟨_,Op.call ⟨.value (.func _),_,_⟩,_,_,_,none⟩::_) _ _;first|(refine SW.call rfl rfl (In_ans _ _ _ _) ?_;intro v w1 hw1 hv;subst hv;replace hw:=Ext.trans hw hw1;replace hb4:=hb4.ext hw1;replace hb8:=hb8.ext hw1;clear hw1)|(refine SW.call rfl rfl (c3 _ hw) ?_;intro v w1 hw1 hv;subst hv;replace hw:=Ext.trans hw hw1;replace hb4:=hb4.ext hw1;replace hb8:=hb8.ext hw1;clear hw1)))
      all_goals first|(exfalso;omega)|skip
      refine SW.storeAgg hb8 rfl rfl rfl rfl (one_s .zero) fun w5 hR2 hg => ?_
      replace hw:=hw.own hb8w hg
      repeat' (first|(refine CW.ret ?_)|(first|refine Post.seq ?_|refine Post.seq_ret ?_)|refine SW.nil ?_|refine SW.pure rfl rfl ?_)
      exact Post.ret2c rfl rfl rfl hR2 rfl ⟨_,rfl,hw,_,.twice hq hnA hsz ht,SysOut.zero 5 _ _⟩
     ·have ht:s.Caches.any (hasN n)=false:=by rw [← hge];exact decide_eq_false hix0
      repeat' (first|(first|refine CW.seq ?_|refine CW.region ?_|refine CW.block ?_|refine CW.condfr rfl (by with_reducible rfl) ?_|refine CW.condd_f rfl (by omega) ?_|refine CW.condn_f rfl (by omega) ?_|refine CW.skip ?_)|(refine Post.seq ?_)|refine SW.nil ?_|refine SW.pure rfl rfl ?_|(show SW _ _ _ _ (⟨_,Op.load _ _,_,_,_,none⟩::_) _ _;refine SW.st (st_loads rfl rfl ((fun _ _=>hb4.cell))) rfl ?_)|(show SW _ _ _ _ (⟨_,Op.call ⟨.value (.func _),_,_⟩,_,_,_,none⟩::_) _ _;first|(refine SW.call rfl rfl (In_ans _ _ _ _) ?_;intro v w1 hw1 hv;subst hv;replace hw:=Ext.trans hw hw1;replace hb4:=hb4.ext hw1;replace hb8:=hb8.ext hw1;clear hw1)|(refine SW.call rfl rfl (c3 _ hw) ?_;intro v w1 hw1 hv;subst hv;replace hw:=Ext.trans hw hw1;replace hb4:=hb4.ext hw1;replace hb8:=hb8.ext hw1;clear hw1)))
      all_goals first|(exfalso;omega)|skip
      clear c3
      refine CW.loop (fun z:Int=>[(1,.string n),(2,.int .i64 z),(3,.int .i64 align),(4,.pointer (some ⟨b4,0,none⟩)),(8,.pointer (some ⟨b8,0,none⟩))])
       (fun z w'=>size≤z∧z≤upTo size align∧(∀ y,size≤y→y<z→y % align≠0)∧Ext w w'∧Blk w' b4 44 (encSys r)∧Blk w' b8 44 (encSys .zero)) (fun z=>(upTo size align-z).toNat) size
       ⟨rfl,rfl,rfl,rfl,rfl,trivial⟩ ⟨Int.le_refl _,hu.1,fun y h1 h2=>by omega,hw,hb4,hb8⟩ ?_
      clear hw hb4 hb8 hsub
      rintro z w' ⟨hz1,hz2,hz3,hw,hb4,hb8⟩
      by_cases hm:z % align=0
      ·have ez:z=upTo size align:=upTo_uniq hal hsz hz1 hm hz3
       have hmt:z.tmod align=0:=(Int.tmod_eq_emod_of_nonneg (by omega)).trans hm
       repeat' (first|(first|refine CW.seq ?_|refine CW.region ?_|refine CW.condn_f rfl (by omega) ?_|refine CW.exit ?_)|(first|refine Post.seq ?_|refine Post.seq_exit ?_|refine Post.hit ?_|refine Post.again_exit ?_)|refine SW.nil ?_|refine SW.pure rfl rfl ?_|(show SW _ _ _ _ (⟨_,Op.binOp _ _ _ _ _,_,_,_,none⟩::_) _ _;refine SW.st (st_rem rfl rfl (by omega)) rfl ?_))
       all_goals first|(exfalso;omega)|skip
       clear hmt
       all_goals first|(exfalso;omega)|skip
       have hzs : 1≤z∧z≤64:=by omega
       clear hu hz1 hz2 hz3 hm
       have hz:upTo size align=z:=ez.symm
       clear ez
       repeat' ((show SW _ _ _ _ (⟨_,Op.load _ _,_,_,_,none⟩::_) _ _;refine SW.st (st_loads rfl rfl ((fun _ _=>hb4.cell))) rfl ?_))
       refine SW.call rfl rfl (SystemCopy_ans r s _ (hr.ext hw) hs) fun v w6 hXX hv => ?_
       obtain ⟨q,rfl,hO⟩:=hv
       replace hO:=hO.low hw.size
       (replace hw:=Ext.trans hw hXX;replace hb4:=hb4.ext hXX;replace hb8:=hb8.ext hXX)
       have hlt4:=hb4.lt
       have hlt8:=hb8.lt
       refine SW.alloc rfl fun b10 w1 hw1 hb10b hb10 => ?_
       skip
       refine SW.storeAgg hb10 rfl rfl rfl rfl (one_s q) fun w2 hb10' hg => ?_
       have hXX:=hw1.own hb10b hg
       have hb10w:w.heap.size≤b10:=Nat.le_trans hw.size hb10b
       replace hw:=Ext.trans hw hXX
       replace hb4:=hb4.ext hXX
       replace hb8:=hb8.ext hXX
       replace hO:=hO.ext hXX
       replace hb10:=hb10'
       clear hb10' hw1 hg hXX
       have hne810:b8≠b10:=by omega
       have hne410:b4≠b10:=by omega
       obtain ⟨hX,hY,zr,hC⟩:=hO
       obtain ⟨z1,z2⟩:=hC.rd.len
       obtain ⟨cs,hc⟩:=hr.caches
       obtain ⟨z3,z4⟩:=hc.len
       have m3:=hs.caches
       repeat' (first|(first|refine CW.seq ?_|refine CW.region ?_|refine CW.block ?_)|(refine Post.seq ?_)|refine SW.nil ?_|refine SW.pure rfl rfl ?_)
       refine CW.loop (fun i:Nat=>[(1,.string n),(2,.int .i64 z),(4,.pointer (some ⟨b4,0,none⟩)),(8,.pointer (some ⟨b8,0,none⟩)),(10,.pointer (some ⟨b10,0,none⟩)),(11,.int .i64 (i:Int))])
        (fun i w'=>i≤q.Caches.n∧Ext w w'∧Blk w' b4 44 (encSys r)∧Blk w' b8 44 (encSys .zero)∧Blk w' b10 44 (encSys q)∧Own w' w.heap.size 3 1 encI q.Words.A q.Words.n q.Words.c s.Words∧OwnH w' w.heap.size q.Heap s.Heap∧OwnCs w' w.heap.size q.Caches zr s.Caches ∧
          ∀ (j:Nat) (hj:j<s.Caches.length),j<i→s.Caches[j].Size≠z) (fun i=>q.Caches.n-i) 0
        ⟨rfl,rfl,rfl,rfl,rfl,rfl,trivial⟩ ⟨by omega,hw,hb4,hb8,hb10,hX,hY,hC,fun j hj h=>by omega⟩ ?_
       clear hw hb4 hb8 hb10 hX hY hC
       rintro i w3 ⟨hi,hw,hb4,hb8,hb10,hX,hY,hC,hno⟩
       have hAc:=hC.row.sl.base
       by_cases hin:i<q.Caches.n
       ·have hil:i<s.Caches.length:=by omega
        have hir:i<zr.length:=by omega
        have hck:=hC.each.get i hir hil
        have eS:=hck.size
        have g1:=hC.row.sl.fld hin (j:=1) (u := .int .i64 zr[i].Size) rfl
        have g0:=hC.row.sl.fld hin (j:=0) (u := .slice zr[i].Names.A zr[i].Names.n zr[i].Names.c) rfl
        by_cases hsi:s.Caches[i].Size=z
        ·have q1:=hck.names.sl.len
         have q2:=(hM.each i hil).names_len hM.heap (fun j h=>hM.each j h)
         have hNi:=(hM.each i hil).names.sorted
         have hAn:=hck.names.sl.base
         have hp1:=posS_le s.Caches[i].Names n
         have hnot:∀ (k:Nat) (hk:k<s.Caches[i].Names.length),s.Caches[i].Names[k]≠n:=fun k hk e=>by
          have:=List.any_eq_false.1 ht _ (List.getElem_mem hil)
          exact this (hasS_iff.2 (e ▸ List.getElem_mem hk))
         obtain ⟨P,hP⟩ : ∃ P,posS s.Caches[i].Names n=P:=⟨_,rfl⟩
         rw [hP] at hp1
         have hlo:∀ (k:Nat) (hk:k<s.Caches[i].Names.length),k<P→lessS n s.Caches[i].Names[k]=false:=fun k hk h=>lessS_asym (posS_lt (by omega) hk)
         have hhi:∀ hk:P<s.Caches[i].Names.length,lessS n s.Caches[i].Names[P]=true:=fun hk=>by
          subst hP
          exact lessS_ge (posS_at hk) (hnot _ hk)
         repeat' (first|(first|refine CW.seq ?_|refine CW.region ?_|refine CW.block ?_|refine CW.condd_t rfl (by omega) ?_|refine CW.condn_f rfl (by omega) ?_|refine CW.skip ?_)|(refine Post.seq ?_)|refine SW.nil ?_|refine SW.pure rfl rfl ?_|(show SW _ _ _ _ (⟨_,Op.fieldAddr _ _ _,_,_,_,none⟩::_) _ _;refine SW.st (st_field rfl) rfl ?_)|(show SW _ _ _ _ (⟨_,Op.indexAddr _ _ _,_,_,_,none⟩::_) _ _;refine SW.st (st_indexN rfl rfl (by assumption) (by omega)) rfl ?_)|(show SW _ _ _ _ (⟨_,Op.call ⟨.builtin .len,_,_⟩,_,_,_,none⟩::_) _ _;refine SW.st (st_len rfl) rfl ?_)|(show SW _ _ _ _ (⟨_,Op.load _ _,_,_,_,none⟩::_) _ _;first|refine SW.st (st_load rfl (hb10.cell (i:=6) (v := .slice q.Caches.A q.Caches.n q.Caches.c) rfl)) rfl ?_|refine SW.st (st_load rfl g1) rfl ?_))
         have hwA:Ext w w3:=hw
         refine CW.loop (fun t:Nat×Bool×Option Addr×Nat=>[(1,.string n),(8,.pointer (some ⟨b8,0,none⟩)),(10,.pointer (some ⟨b10,0,none⟩)),(11,.int .i64 (i:Int)),(12,.slice t.2.2.1 (t.1+t.2.1.toNat) t.2.2.2),(13,.bool t.2.1),(14,.int .i64 (t.1:Int))])
          (fun t w'=>t.1≤zr[i].Names.n∧t.2.1=decide (P<t.1)∧Ext w3 w'∧Own w' w3.heap.size 9 1 encStr t.2.2.1 (t.1+t.2.1.toNat) t.2.2.2 ((insAt s.Caches[i].Names P n).take (t.1+t.2.1.toNat))) (fun t=>zr[i].Names.n-t.1) (0,false,none,0)
          ⟨rfl,rfl,rfl,rfl,rfl,rfl,rfl,trivial⟩ ⟨by omega,by simp,Ext.refl _,by simpa using Own.nil_ _ _ _ _ _ _⟩ ?_
         clear hw
         rintro ⟨k,dn,B,d⟩ w4 ⟨hk,hdn,hw,hB⟩
         simp only at hk hdn hB ⊢
         by_cases hkn:k<zr[i].Names.n
         ·have hkl:k<s.Caches[i].Names.length:=by omega
          have gk:=hck.names.sl.one hkn (u := .string s.Caches[i].Names[k]) rfl
          rcases (show k<P∨P=k∨P<k by omega) with hkp|rfl|hkp
          ·obtain rfl:dn=false:=by rw [hdn];exact decide_eq_false (by omega)
           simp only [Bool.toNat_false,Nat.add_zero] at hB ⊢
           repeat' (first|(first|refine CW.seq ?_|refine CW.region ?_|refine CW.block ?_|refine CW.condfr rfl (by with_reducible rfl) ?_|refine CW.condd_t rfl (by omega) ?_|refine CW.skip ?_)|(refine Post.seq ?_)|refine SW.nil ?_|(show SW _ _ _ _ (⟨_,_,_,_,_,some _⟩::_) _ _;refine SW.want rfl rfl ?_)|refine SW.pure rfl rfl ?_|(show SW _ _ _ _ (⟨_,Op.fieldAddr _ _ _,_,_,_,none⟩::_) _ _;refine SW.st (st_field rfl) rfl ?_)|(show SW _ _ _ _ (⟨_,Op.indexAddr _ _ _,_,_,_,none⟩::_) _ _;refine SW.st (st_indexN rfl rfl (by assumption) (by omega)) rfl ?_)|(show SW _ _ _ _ (⟨_,Op.call ⟨.builtin .len,_,_⟩,_,_,_,none⟩::_) _ _;refine SW.st (st_len rfl) rfl ?_)|(show SW _ _ _ _ (⟨_,Op.load _ _,_,_,_,none⟩::_) _ _;first|refine SW.st (st_loadx hw rfl (hb10.cell (i:=6) (v := .slice q.Caches.A q.Caches.n q.Caches.c) rfl)) rfl ?_|refine SW.st (st_loadx hw rfl g0) rfl ?_|refine SW.st (st_loadx hw rfl gk) rfl ?_)|(refine SW.st ((st_ltStr rfl rfl).eq (congrArg Value.bool (hlo k hkl hkp))) rfl ?_))
           refine SW.build1 rfl rfl rfl rfl rfl fun b w1 hXX hb hBb => ?_
           (replace hw:=Ext.trans hw hXX;replace hB:=hB.ext hXX)
           refine SW.append hB (Blk.sl1 (enc:=encStr) hBb) hw.size rfl rfl rfl (by omega) (by omega) fun A2 c2 w5 hO1 hg => ?_
           replace hw:=ext_grown hw hg (Nat.le_refl _) hB.row_ge
           repeat' (first|(refine CW.region ?_)|(first|refine Post.seq ?_|refine Post.blk ?_)|refine SW.nil ?_|refine SW.pure rfl rfl ?_|(show SW _ _ _ _ (⟨_,Op.binOp _ _ _ _ _,_,_,_,none⟩::_) _ _;refine SW.st (st_add rfl rfl (by omega) (by omega)) rfl ?_))
           refine Post.again (k+1,false,A2,c2) ⟨rfl,rfl,rfl,rfl,rfl,rfl,rfl,trivial⟩ (by simp only;omega) ⟨by simp only;omega,(decide_eq_false (by omega)).symm,hw,?_⟩
           simp only [Bool.toNat_false,Nat.add_zero]
           rw [take_ins_lt hp1 hkp]
           exact hO1
          ·obtain rfl:dn=false:=by rw [hdn];exact decide_eq_false (by omega)
           simp only [Bool.toNat_false,Nat.add_zero] at hB ⊢
           repeat' (first|(first|refine CW.seq ?_|refine CW.region ?_|refine CW.block ?_|refine CW.condtr rfl (by with_reducible rfl) ?_|refine CW.condd_t rfl (by omega) ?_|refine CW.skip ?_)|(refine Post.seq ?_)|refine SW.nil ?_|(show SW _ _ _ _ (⟨_,_,_,_,_,some _⟩::_) _ _;refine SW.want rfl rfl ?_)|refine SW.pure rfl rfl ?_|(show SW _ _ _ _ (⟨_,Op.fieldAddr _ _ _,_,_,_,none⟩::_) _ _;refine SW.st (st_field rfl) rfl ?_)|(show SW _ _ _ _ (⟨_,Op.indexAddr _ _ _,_,_,_,none⟩::_) _ _;refine SW.st (st_indexN rfl rfl (by assumption) (by omega)) rfl ?_)|(show SW _ _ _ _ (⟨_,Op.call ⟨.builtin .len,_,_⟩,_,_,_,none⟩::_) _ _;refine SW.st (st_len rfl) rfl ?_)|(show SW _ _ _ _ (⟨_,Op.load _ _,_,_,_,none⟩::_) _ _;first|refine SW.st (st_loadx hw rfl (hb10.cell (i:=6) (v := .slice q.Caches.A q.Caches.n q.Caches.c) rfl)) rfl ?_|refine SW.st (st_loadx hw rfl g0) rfl ?_|refine SW.st (st_loadx hw rfl gk) rfl ?_)|(refine SW.st ((st_ltStr rfl rfl).eq (congrArg Value.bool (hhi hkl))) rfl ?_))
           refine SW.build1 rfl rfl rfl rfl rfl fun b w1 hXX hb hBb => ?_
           (replace hw:=Ext.trans hw hXX;replace hB:=hB.ext hXX)
           refine SW.append hB (Blk.sl1 (enc:=encStr) hBb) hw.size rfl rfl rfl (by omega) (by omega) fun A2 c2 w5 hO1 hg => ?_
           replace hw:=ext_grown hw hg (Nat.le_refl _) hB.row_ge
           rw [← take_ins_eq hp1] at hO1
           repeat' (first|(refine CW.region ?_)|(refine Post.seq ?_)|refine SW.nil ?_|refine SW.pure rfl rfl ?_|(show SW _ _ _ _ (⟨_,Op.fieldAddr _ _ _,_,_,_,none⟩::_) _ _;refine SW.st (st_field rfl) rfl ?_)|(show SW _ _ _ _ (⟨_,Op.indexAddr _ _ _,_,_,_,none⟩::_) _ _;refine SW.st (st_indexN rfl rfl (by assumption) (by omega)) rfl ?_)|(show SW _ _ _ _ (⟨_,Op.load _ _,_,_,_,none⟩::_) _ _;first|refine SW.st (st_loadx hw rfl (hb10.cell (i:=6) (v := .slice q.Caches.A q.Caches.n q.Caches.c) rfl)) rfl ?_|refine SW.st (st_loadx hw rfl g0) rfl ?_|refine SW.st (st_loadx hw rfl gk) rfl ?_))
           refine SW.build1 rfl rfl rfl rfl rfl fun b w1 hXX hb hBb => ?_
           (replace hw:=Ext.trans hw hXX;replace hO1:=hO1.ext hXX)
           refine SW.append hO1 (Blk.sl1 (enc:=encStr) hBb) hw.size rfl rfl rfl (by omega) (by omega) fun A3 c3 w5 hO2 hg => ?_
           replace hw:=ext_grown hw hg (Nat.le_refl _) hO1.row_ge
           repeat' (first|(refine CW.region ?_)|(first|refine Post.seq ?_|refine Post.blk ?_)|refine SW.nil ?_|refine SW.pure rfl rfl ?_|(show SW _ _ _ _ (⟨_,Op.binOp _ _ _ _ _,_,_,_,none⟩::_) _ _;refine SW.st (st_add rfl rfl (by omega) (by omega)) rfl ?_))
           refine Post.again (P+1,true,A3,c3) ⟨rfl,rfl,rfl,rfl,rfl,rfl,rfl,trivial⟩ (by simp only;omega) ⟨by simp only;omega,(decide_eq_true (by omega)).symm,hw,?_⟩
           simp only [Bool.toNat_true]
           rw [take_ins_gt hp1 (Nat.le_refl _) hkl]
           exact hO2
          ·obtain rfl:dn=true:=by rw [hdn];exact decide_eq_true (by omega)
           simp only [Bool.toNat_true] at hB ⊢
           repeat' (first|(first|refine CW.seq ?_|refine CW.region ?_|refine CW.block ?_|refine CW.condfr rfl (by with_reducible rfl) ?_|refine CW.condd_t rfl (by omega) ?_|refine CW.skip ?_)|(refine Post.seq ?_)|refine SW.nil ?_|(show SW _ _ _ _ (⟨_,_,_,_,_,some _⟩::_) _ _;refine SW.skip rfl rfl rfl rfl ?_)|refine SW.pure rfl rfl ?_|(show SW _ _ _ _ (⟨_,Op.fieldAddr _ _ _,_,_,_,none⟩::_) _ _;refine SW.st (st_field rfl) rfl ?_)|(show SW _ _ _ _ (⟨_,Op.indexAddr _ _ _,_,_,_,none⟩::_) _ _;refine SW.st (st_indexN rfl rfl (by assumption) (by omega)) rfl ?_)|(show SW _ _ _ _ (⟨_,Op.call ⟨.builtin .len,_,_⟩,_,_,_,none⟩::_) _ _;refine SW.st (st_len rfl) rfl ?_)|(show SW _ _ _ _ (⟨_,Op.load _ _,_,_,_,none⟩::_) _ _;first|refine SW.st (st_loadx hw rfl (hb10.cell (i:=6) (v := .slice q.Caches.A q.Caches.n q.Caches.c) rfl)) rfl ?_|refine SW.st (st_loadx hw rfl g0) rfl ?_|refine SW.st (st_loadx hw rfl gk) rfl ?_))
           refine SW.build1 rfl rfl rfl rfl rfl fun b w1 hXX hb hBb => ?_
           (replace hw:=Ext.trans hw hXX;replace hB:=hB.ext hXX)
           refine SW.append hB (Blk.sl1 (enc:=encStr) hBb) hw.size rfl rfl rfl (by omega) (by omega) fun A2 c2 w5 hO1 hg => ?_
           replace hw:=ext_grown hw hg (Nat.le_refl _) hB.row_ge
           repeat' (first|(refine CW.region ?_)|(first|refine Post.seq ?_|refine Post.blk ?_)|refine SW.nil ?_|refine SW.pure rfl rfl ?_|(show SW _ _ _ _ (⟨_,Op.binOp _ _ _ _ _,_,_,_,none⟩::_) _ _;refine SW.st (st_add rfl rfl (by omega) (by omega)) rfl ?_))
           refine Post.again (k+1,true,A2,c2) ⟨rfl,rfl,rfl,rfl,rfl,rfl,rfl,trivial⟩ (by simp only;omega) ⟨by simp only;omega,(decide_eq_true (by omega)).symm,hw,?_⟩
           simp only [Bool.toNat_true]
           rw [take_ins_gt hp1 (by omega) hkl]
           exact hO1
         ·obtain rfl:k=zr[i].Names.n:=by omega
          have hli:=length_insAt s.Caches[i].Names hp1 n
          have fin:∀ (B:Option Addr) (d:Nat) (w5:World),Ext w3 w5→Own w5 w3.heap.size 9 1 encStr B (zr[i].Names.n+1) d (insAt s.Caches[i].Names P n) →
           Ext w w5∧Blk w5 b8 44 (encSys .zero)∧Blk w5 b10 44 (encSys q)∧Own w5 w.heap.size 3 1 encI q.Words.A q.Words.n q.Words.c s.Words∧OwnH w5 w.heap.size q.Heap s.Heap∧OwnCs w5 w.heap.size q.Caches zr s.Caches∧Own w5 w.heap.size 9 1 encStr B (zr[i].Names.n+1) d (insAt s.Caches[i].Names P n) :=
           fun B d w5 hx hB=>⟨Ext.trans hwA hx,hb8.ext hx,hb10.ext hx,hX.ext hx,hY.ext hx,hC.ext hx,hB.low hwA.size⟩
          have tl:∀ (B:Option Addr) (d:Nat) (w5:World),OwnC w5 w.heap.size zr[i] s.Caches[i]→Own w5 w.heap.size 9 1 encStr B (zr[i].Names.n+1) d (insAt s.Caches[i].Names P n)→OwnC w5 w.heap.size ⟨⟨B,zr[i].Names.n+1,d⟩,zr[i].Size,zr[i].Per,zr[i].Order,zr[i].Slabs,zr[i].Active⟩ (withName s.Caches[i] n) :=
           fun B d w5 h hB=>⟨h.size,h.per,h.order,by simp only [withName,hP];exact hB,h.slabs,h.active⟩
          cases dn
          ·have hPl:P=s.Caches[i].Names.length:=by
            have:=decide_eq_false_iff_not.1 hdn.symm
            omega
           simp only [Bool.toNat_false,Nat.add_zero] at hB ⊢
           repeat' (first|(first|refine CW.seq ?_|refine CW.region ?_|refine CW.condd_f rfl (by omega) ?_|refine CW.condt rfl ?_|refine CW.exit ?_)|(first|refine Post.seq ?_|refine Post.seq_exit ?_|refine Post.hit ?_|refine Post.again_exit ?_)|refine SW.nil ?_|refine SW.pure rfl rfl ?_|(show SW _ _ _ _ (⟨_,Op.fieldAddr _ _ _,_,_,_,none⟩::_) _ _;refine SW.st (st_field rfl) rfl ?_)|(show SW _ _ _ _ (⟨_,Op.indexAddr _ _ _,_,_,_,none⟩::_) _ _;refine SW.st (st_indexN rfl rfl (by assumption) (by omega)) rfl ?_)|(show SW _ _ _ _ (⟨_,Op.call ⟨.builtin .len,_,_⟩,_,_,_,none⟩::_) _ _;refine SW.st (st_len rfl) rfl ?_)|(show SW _ _ _ _ (⟨_,Op.load _ _,_,_,_,none⟩::_) _ _;first|refine SW.st (st_loadx hw rfl (hb10.cell (i:=6) (v := .slice q.Caches.A q.Caches.n q.Caches.c) rfl)) rfl ?_|refine SW.st (st_loadx hw rfl g0) rfl ?_))
           refine SW.build1 (vs:=[.string n]) rfl rfl rfl rfl rfl fun b w1 hXX hb hBb => ?_
           (replace hw:=Ext.trans hw hXX;replace hB:=hB.ext hXX)
           refine SW.append hB (Blk.sl1 (enc:=encStr) (x:=n) hBb) hw.size rfl rfl rfl (by omega) (by omega) fun A2 c2 w5 hO1 hg => ?_
           replace hw:=ext_grown hw hg (Nat.le_refl _) hB.row_ge
           have eL:(insAt s.Caches[i].Names P n).take zr[i].Names.n++[n]=insAt s.Caches[i].Names P n:=by
            rw [show zr[i].Names.n=P by omega,← take_ins_eq hp1,List.take_of_length_le (by omega)]
           rw [eL] at hO1
           obtain ⟨hw,hb8,hb10,hX,hY,hC,hN⟩:=fin A2 c2 w5 hw hO1
           repeat' (first|(first|refine CW.seq ?_|refine CW.region ?_)|(refine Post.seq ?_)|refine SW.nil ?_|refine SW.pure rfl rfl ?_|(show SW _ _ _ _ (⟨_,Op.fieldAddr _ _ _,_,_,_,none⟩::_) _ _;refine SW.st (st_field rfl) rfl ?_)|(show SW _ _ _ _ (⟨_,Op.indexAddr _ _ _,_,_,_,none⟩::_) _ _;refine SW.st (st_indexN rfl rfl (by assumption) (by omega)) rfl ?_)|(show SW _ _ _ _ (⟨_,Op.load _ _,_,_,_,none⟩::_) _ _;refine SW.st (st_load rfl (hb10.cell (i:=6) (v := .slice q.Caches.A q.Caches.n q.Caches.c) rfl)) rfl ?_))
           refine SW.storeO i 0 ⟨⟨A2,zr[i].Names.n+1,c2⟩,zr[i].Size,zr[i].Per,zr[i].Order,zr[i].Slabs,zr[i].Active⟩ hC.row rfl rfl rfl hin (by decide) rfl rfl fun w12 hrow' hg6 => ?_
           have hG6:=hC.row.gr hg6
           replace hw:=ext_grown hw hg6 (Nat.le_refl _) hC.row.row_ge
           have hE:=All2.setAt (R':=OwnC w5 w.heap.size) (i:=i) hC.each (tl A2 c2 w5 (hC.each.get i hir hil) hN) (fun j h1 h2 hji ho=>ho)
           (replace hb8:=hb8.grT hG6 rfl;replace hb10:=hb10.grT hG6 rfl;replace hX:=hX.grT hG6 rfl;replace hY:=hY.grT hG6 rfl)
           replace hE:=hE.mono fun _ _ h=>h.grT hG6 rfl
           repeat' (first|(first|refine CW.seq ?_|refine CW.region ?_)|(refine Post.seq ?_)|refine SW.nil ?_|(show SW _ _ _ _ (⟨_,Op.load _ _,_,_,_,none⟩::_) _ _;refine SW.st (st_loads rfl rfl ((fun _ _=>hb10.cell))) rfl ?_))
           refine SW.storeAgg hb8 rfl rfl rfl rfl (one_s q) fun w13 hR2 hg => ?_
           have hG:=hb8.gr hg
           replace hw:=hw.own hb8w hg
           (replace hX:=hX.grT hG rfl;replace hY:=hY.grT hG rfl;replace hrow':=hrow'.grT hG rfl)
           replace hE:=hE.mono fun _ _ h=>h.grT hG rfl
           repeat' (first|(refine CW.ret ?_)|(first|refine Post.seq ?_|refine Post.seq_ret ?_|refine Post.blk_ret ?_|refine Post.again_ret ?_)|refine SW.nil ?_|refine SW.pure rfl rfl ?_)
           refine Post.ret2c rfl rfl rfl hR2 rfl ⟨_,rfl,hw,_,.old hq hnA hsz ht hil (by rw [hz];exact hsi) (fun j hj hji => ?_),q,rfl,hX,hY,_,hrow',hE⟩
           rw [hz]
           exact hno j hj hji
          ·simp only [Bool.toNat_true] at hB ⊢
           rw [List.take_of_length_le (by omega)] at hB
           repeat' (first|(first|refine CW.seq ?_|refine CW.region ?_|refine CW.condd_f rfl (by omega) ?_|refine CW.condf rfl ?_|refine CW.skip ?_|refine CW.exit ?_)|(first|refine Post.seq ?_|refine Post.seq_exit ?_|refine Post.hit ?_|refine Post.again_exit ?_)|refine SW.nil ?_|refine SW.pure rfl rfl ?_|(show SW _ _ _ _ (⟨_,Op.fieldAddr _ _ _,_,_,_,none⟩::_) _ _;refine SW.st (st_field rfl) rfl ?_)|(show SW _ _ _ _ (⟨_,Op.indexAddr _ _ _,_,_,_,none⟩::_) _ _;refine SW.st (st_indexN rfl rfl (by assumption) (by omega)) rfl ?_)|(show SW _ _ _ _ (⟨_,Op.call ⟨.builtin .len,_,_⟩,_,_,_,none⟩::_) _ _;refine SW.st (st_len rfl) rfl ?_)|(show SW _ _ _ _ (⟨_,Op.load _ _,_,_,_,none⟩::_) _ _;first|refine SW.st (st_loadx hw rfl (hb10.cell (i:=6) (v := .slice q.Caches.A q.Caches.n q.Caches.c) rfl)) rfl ?_|refine SW.st (st_loadx hw rfl g0) rfl ?_))
           obtain ⟨hw,hb8,hb10,hX,hY,hC,hN⟩:=fin B d w4 hw hB
           skip
           refine SW.storeO i 0 ⟨⟨B,zr[i].Names.n+1,d⟩,zr[i].Size,zr[i].Per,zr[i].Order,zr[i].Slabs,zr[i].Active⟩ hC.row rfl rfl rfl hin (by decide) rfl rfl fun w12 hrow' hg6 => ?_
           have hG6:=hC.row.gr hg6
           replace hw:=ext_grown hw hg6 (Nat.le_refl _) hC.row.row_ge
           have hE:=All2.setAt (R':=OwnC w4 w.heap.size) (i:=i) hC.each (tl B d w4 (hC.each.get i hir hil) hN) (fun j h1 h2 hji ho=>ho)
           (replace hb8:=hb8.grT hG6 rfl;replace hb10:=hb10.grT hG6 rfl;replace hX:=hX.grT hG6 rfl;replace hY:=hY.grT hG6 rfl)
           replace hE:=hE.mono fun _ _ h=>h.grT hG6 rfl
           repeat' (first|(first|refine CW.seq ?_|refine CW.region ?_)|(refine Post.seq ?_)|refine SW.nil ?_|(show SW _ _ _ _ (⟨_,Op.load _ _,_,_,_,none⟩::_) _ _;refine SW.st (st_loads rfl rfl ((fun _ _=>hb10.cell))) rfl ?_))
           refine SW.storeAgg hb8 rfl rfl rfl rfl (one_s q) fun w13 hR2 hg => ?_
           have hG:=hb8.gr hg
           replace hw:=hw.own hb8w hg
           (replace hX:=hX.grT hG rfl;replace hY:=hY.grT hG rfl;replace hrow':=hrow'.grT hG rfl)
           replace hE:=hE.mono fun _ _ h=>h.grT hG rfl
           repeat' (first|(refine CW.ret ?_)|(first|refine Post.seq ?_|refine Post.seq_ret ?_|refine Post.blk_ret ?_|refine Post.again_ret ?_)|refine SW.nil ?_|refine SW.pure rfl rfl ?_)
           refine Post.ret2c rfl rfl rfl hR2 rfl ⟨_,rfl,hw,_,.old hq hnA hsz ht hil (by rw [hz];exact hsi) (fun j hj hji => ?_),q,rfl,hX,hY,_,hrow',hE⟩
           rw [hz]
           exact hno j hj hji
        ·repeat' (first|(first|refine CW.seq ?_|refine CW.region ?_|refine CW.block ?_|refine CW.condd_t rfl (by omega) ?_|refine CW.condn_t rfl (by omega) ?_|refine CW.skip ?_|refine CW.exit ?_)|(first|refine Post.seq ?_|refine Post.seq_exit ?_|refine Post.hit ?_)|refine SW.nil ?_|refine SW.pure rfl rfl ?_|(show SW _ _ _ _ (⟨_,Op.fieldAddr _ _ _,_,_,_,none⟩::_) _ _;refine SW.st (st_field rfl) rfl ?_)|(show SW _ _ _ _ (⟨_,Op.binOp _ _ _ _ _,_,_,_,none⟩::_) _ _;refine SW.st (st_add rfl rfl (by omega) (by omega)) rfl ?_)|(show SW _ _ _ _ (⟨_,Op.indexAddr _ _ _,_,_,_,none⟩::_) _ _;refine SW.st (st_indexN rfl rfl (by assumption) (by omega)) rfl ?_)|(show SW _ _ _ _ (⟨_,Op.call ⟨.builtin .len,_,_⟩,_,_,_,none⟩::_) _ _;refine SW.st (st_len rfl) rfl ?_)|(show SW _ _ _ _ (⟨_,Op.load _ _,_,_,_,none⟩::_) _ _;first|refine SW.st (st_load rfl (hb10.cell (i:=6) (v := .slice q.Caches.A q.Caches.n q.Caches.c) rfl)) rfl ?_|refine SW.st (st_load rfl g1) rfl ?_))
         exact Post.again (i+1) ⟨rfl,rfl,rfl,rfl,rfl,rfl,trivial⟩ (by omega) ⟨by omega,hw,hb4,hb8,hb10,hX,hY,hC,fun j hj h=>by
          by_cases e:j=i
          ·subst e;exact hsi
          ·exact hno j hj (by omega)⟩
       ·have hno':∀ (j:Nat) (hj:j<s.Caches.length),s.Caches[j].Size≠z:=fun j hj=>hno j hj (by omega)
        by_cases h20:s.Caches.length=20
        ·repeat' (first|(first|refine CW.seq ?_|refine CW.region ?_|refine CW.condd_t rfl (by omega) ?_|refine CW.condd_f rfl (by omega) ?_|refine CW.exit ?_)|(first|refine Post.seq ?_|refine Post.seq_exit ?_|refine Post.hit ?_|refine Post.again_exit ?_)|refine SW.nil ?_|refine SW.pure rfl rfl ?_|(show SW _ _ _ _ (⟨_,Op.fieldAddr _ _ _,_,_,_,none⟩::_) _ _;refine SW.st (st_field rfl) rfl ?_)|(show SW _ _ _ _ (⟨_,Op.build _ _,_,_,_,none⟩::_) _ _;refine SW.st (st_build rfl rfl) rfl ?_)|(show SW _ _ _ _ (⟨_,Op.call ⟨.builtin .len,_,_⟩,_,_,_,none⟩::_) _ _;refine SW.st (st_len rfl) rfl ?_)|(show SW _ _ _ _ (⟨_,Op.load _ _,_,_,_,none⟩::_) _ _;first|refine SW.st (st_load rfl (hb10.cell (i:=6) (v := .slice q.Caches.A q.Caches.n q.Caches.c) rfl)) rfl ?_|refine SW.st (st_load rfl (hb4.cell (i:=6) (v := .slice r.Caches.A r.Caches.n r.Caches.c) rfl)) rfl ?_))
         refine SW.storeAgg hb8 rfl rfl rfl rfl (one_s .zero) fun w5 hR2 hg => ?_
         replace hw:=hw.own hb8w hg
         repeat' (first|(refine CW.ret ?_)|(first|refine Post.seq ?_|refine Post.seq_ret ?_)|refine SW.nil ?_|refine SW.pure rfl rfl ?_)
         exact Post.ret2c rfl rfl rfl hR2 rfl ⟨_,rfl,hw,_,.full hq hnA hsz ht (by rw [hz];exact hno') h20,SysOut.zero 9 _ _⟩
        ·have h19:s.Caches.length<20:=by
          have:=hM.most
          omega
         obtain ⟨o,per,e,hLy⟩ : ∃ o per e,layoutF z=(o,per,e):=⟨_,_,_,rfl⟩
         have cL:∀ w',Ans Tryz.prog 150 [.int .i64 z] w' fun v _=>v = .tuple #[.int .i64 o,.int .i64 per,.int .i64 e]:=fun w'=>layout_nf (LayoutOf_ans z w') hLy
         have hcp:=hM.heap.cpus
         have eC:=hr.heap.cpus
         repeat' (first|(first|refine CW.seq ?_|refine CW.region ?_|refine CW.condd_f rfl (by omega) ?_|refine CW.skip ?_|refine CW.exit ?_)|(first|refine Post.seq ?_|refine Post.seq_exit ?_|refine Post.hit ?_|refine Post.again_exit ?_)|refine SW.nil ?_|refine SW.pure rfl rfl ?_|(show SW _ _ _ _ (⟨_,Op.fieldAddr _ _ _,_,_,_,none⟩::_) _ _;refine SW.st (st_field rfl) rfl ?_)|(show SW _ _ _ _ (⟨_,Op.call ⟨.builtin .len,_,_⟩,_,_,_,none⟩::_) _ _;refine SW.st (st_len rfl) rfl ?_)|(show SW _ _ _ _ (⟨_,Op.load _ _,_,_,_,none⟩::_) _ _;first|refine SW.st (st_load rfl (hb10.cell (i:=6) (v := .slice q.Caches.A q.Caches.n q.Caches.c) rfl)) rfl ?_|refine SW.st (st_load rfl (hb4.cell (i:=6) (v := .slice r.Caches.A r.Caches.n r.Caches.c) rfl)) rfl ?_)|(show SW _ _ _ _ (⟨_,Op.call ⟨.value (.func _),_,_⟩,_,_,_,none⟩::_) _ _;(refine SW.call rfl rfl (cL _) ?_;intro v w1 hw1 hv;subst hv;replace hw:=Ext.trans hw hw1;replace hb4:=hb4.ext hw1;replace hb8:=hb8.ext hw1;replace hb10:=hb10.ext hw1;replace hX:=hX.ext hw1;replace hY:=hY.ext hw1;replace hC:=hC.ext hw1;clear hw1)))
         clear cL
         refine SW.build1 (vs:=[.string n]) rfl rfl rfl rfl rfl fun bn w9 hXX hbn hBn => ?_
         have hbnw:w.heap.size≤bn:=Nat.le_trans hw.size hbn
         (replace hw:=Ext.trans hw hXX;replace hb4:=hb4.ext hXX;replace hb8:=hb8.ext hXX;replace hb10:=hb10.ext hXX;replace hX:=hX.ext hXX;replace hY:=hY.ext hXX;replace hC:=hC.ext hXX)
         have hN:Own w9 w.heap.size 9 1 encStr (some ⟨bn,0,none⟩) 1 1 [n]:=Own.closed (rest:=[]) rfl hBn rfl (by omega) (by omega) (by simp [maxLen]) hbnw
         repeat' (first|refine SW.pure rfl rfl ?_|(show SW _ _ _ _ (⟨_,Op.build _ _,_,_,_,none⟩::_) _ _;refine SW.st (st_build rfl rfl) rfl ?_))
         have hwP:Ext w w9:=hw
         refine SW.alloc rfl fun b20 w10 hw10 hb20b hb20 => ?_
         skip
         refine SW.storeAgg hb20 rfl rfl rfl rfl (one_c ⟨⟨some ⟨bn,0,none⟩,1,1⟩,z,per,o,.nil,.nil⟩) fun w11 hb20' hg => ?_
         replace hw:=hw10.own hb20b hg
         replace hb20:=hb20'
         clear hb20' hg
         repeat' (first|(first|refine CW.seq ?_|refine CW.region ?_|refine CW.block ?_)|(refine Post.seq ?_)|refine SW.nil ?_|refine SW.pure rfl rfl ?_)
         obtain ⟨C,hCp⟩:=Int.eq_ofNat_of_zero_le (show 0≤r.Heap.Cpus by omega)
         refine CW.loop (fun t:Nat×Option Addr×Nat=>[(4,.pointer (some ⟨b4,0,none⟩)),(8,.pointer (some ⟨b8,0,none⟩)),(10,.pointer (some ⟨b10,0,none⟩)),(18,.pointer (some ⟨b20,0,none⟩)),(19,.int .i64 (t.1:Int))])
          (fun t w'=>t.1≤C∧Ext w9 w'∧Blk w' b20 89 (encC ⟨⟨some ⟨bn,0,none⟩,1,1⟩,z,per,o,.nil,⟨t.2.1,t.1,t.2.2⟩⟩)∧Own w' w9.heap.size 3 1 encI t.2.1 t.1 t.2.2 (List.replicate t.1 (-1))) (fun t=>C-t.1) (0,none,0)
          ⟨rfl,rfl,rfl,rfl,rfl,trivial⟩ ⟨by omega,hw,hb20,Own.nil_ _ _ _ _ _ _⟩ ?_
         clear hw hb20
         rintro ⟨k,A,c⟩ w12 ⟨hk,hw,hb20,hA⟩
         simp only at hk hb20 hA ⊢
         by_cases hkC:k<C
         ·repeat' (first|(first|refine CW.seq ?_|refine CW.region ?_|refine CW.block ?_|refine CW.condd_t rfl (by omega) ?_|refine CW.skip ?_)|(refine Post.seq ?_)|refine SW.nil ?_|refine SW.pure rfl rfl ?_|(show SW _ _ _ _ (⟨_,Op.fieldAddr _ _ _,_,_,_,none⟩::_) _ _;refine SW.st (st_field rfl) rfl ?_)|(show SW _ _ _ _ (⟨_,Op.load _ _,_,_,_,none⟩::_) _ _;first|refine SW.st (st_loadx hw rfl (hb4.cell (i:=3) (v := .int .i64 r.Heap.Cpus) rfl)) rfl ?_|refine SW.st (st_load rfl (hb20.cell (i:=5) (v := .slice A k c) rfl)) rfl ?_))
          refine SW.build1 rfl rfl rfl rfl rfl fun b w1 hXX hb hB => ?_
          (replace hw:=Ext.trans hw hXX;replace hb20:=hb20.ext hXX;replace hA:=hA.ext hXX)
          refine SW.append hA (Blk.sl1 (enc:=encI) hB) hw.size rfl rfl rfl (by omega) (by omega) fun A2 c2 w5 hO1 hg => ?_
          have hG:=hA.gr hg
          replace hw:=ext_grown hw hg (Nat.le_refl _) hA.row_ge
          (replace hb20:=hb20.grT hG rfl)
          repeat' ((show SW _ _ _ _ (⟨_,Op.fieldAddr _ _ _,_,_,_,none⟩::_) _ _;refine SW.st (st_field rfl) rfl ?_))
          refine SW.storeB (i:=5) hb20 rfl rfl rfl rfl fun w6 hb20' hg => ?_
          have hG:=hb20.gr hg
          replace hw:=hw.own hb20b hg
          (replace hO1:=hO1.grT hG rfl)
          repeat' (first|(refine CW.region ?_)|(first|refine Post.seq ?_|refine Post.blk ?_)|refine SW.nil ?_|refine SW.pure rfl rfl ?_|(show SW _ _ _ _ (⟨_,Op.binOp _ _ _ _ _,_,_,_,none⟩::_) _ _;refine SW.st (st_add rfl rfl (by omega) (by omega)) rfl ?_))
          refine Post.again (k+1,A2,c2) ⟨rfl,rfl,rfl,rfl,rfl,trivial⟩ (by simp only;omega) ⟨by simp only;omega,hw,hb20',?_⟩
          simp only
          rw [List.replicate_succ']
          exact hO1
         ·obtain rfl:k=C:=by omega
          have hwN:=hw
          repeat' (first|(first|refine CW.seq ?_|refine CW.region ?_|refine CW.condd_f rfl (by omega) ?_|refine CW.exit ?_)|(first|refine Post.seq ?_|refine Post.seq_exit ?_|refine Post.hit ?_|refine Post.again_exit ?_)|refine SW.nil ?_|refine SW.pure rfl rfl ?_|(show SW _ _ _ _ (⟨_,Op.fieldAddr _ _ _,_,_,_,none⟩::_) _ _;refine SW.st (st_field rfl) rfl ?_)|(show SW _ _ _ _ (⟨_,Op.load _ _,_,_,_,none⟩::_) _ _;refine SW.st (st_loadx hw rfl (hb4.cell (i:=3) (v := .int .i64 r.Heap.Cpus) rfl)) rfl ?_))
          replace hw:=hwP
          (replace hw:=Ext.trans hw hwN;replace hb4:=hb4.ext hwN;replace hb8:=hb8.ext hwN;replace hb10:=hb10.ext hwN;replace hX:=hX.ext hwN;replace hY:=hY.ext hwN;replace hC:=hC.ext hwN;replace hN:=hN.ext hwN)
          replace hA:=hA.low hwP.size
          have hb20w:w.heap.size≤b20:=Nat.le_trans hwP.size hb20b
          repeat' ((show SW _ _ _ _ (⟨_,Op.load _ _,_,_,_,none⟩::_) _ _;first|refine SW.st (st_load rfl (hb10.cell (i:=6) (v := .slice q.Caches.A q.Caches.n q.Caches.c) rfl)) rfl ?_|refine SW.st (st_loads rfl rfl ((fun _ _=>hb20.cell))) rfl ?_))
          refine SW.build1 rfl rfl rfl rfl rfl fun b w13 hXX hb hB => ?_
          (replace hw:=Ext.trans hw hXX;replace hb8:=hb8.ext hXX;replace hb10:=hb10.ext hXX;replace hX:=hX.ext hXX;replace hY:=hY.ext hXX;replace hC:=hC.ext hXX;replace hN:=hN.ext hXX;replace hA:=hA.ext hXX)
          refine SW.append hC.row (Blk.sl1 (enc:=encC) (x:=⟨⟨some ⟨bn,0,none⟩,1,1⟩,z,per,o,.nil,⟨A,k,c⟩⟩) hB) hw.size rfl rfl rfl (by omega) (by omega) fun A2 c2 w14 hO1 hg => ?_
          have hG:=hC.row.gr hg
          replace hw:=ext_grown hw hg (Nat.le_refl _) hC.row.row_ge
          (replace hb8:=hb8.grT hG rfl;replace hb10:=hb10.grT hG rfl;replace hX:=hX.grT hG rfl;replace hY:=hY.grT hG rfl;replace hN:=hN.grT hG rfl;replace hA:=hA.grT hG rfl)
          have hE':=hC.each.mono fun _ _ h=>h.grT hG rfl
          repeat' ((show SW _ _ _ _ (⟨_,Op.fieldAddr _ _ _,_,_,_,none⟩::_) _ _;refine SW.st (st_field rfl) rfl ?_))
          refine SW.storeB (i:=6) hb10 rfl rfl rfl rfl fun w15 hb10' hg => ?_
          have hG:=hb10.gr hg
          replace hw:=hw.own hb10w hg
          replace hb8:=hb8.grown hg (by simpa using hne810)
          (replace hX:=hX.grT hG rfl;replace hY:=hY.grT hG rfl;replace hN:=hN.grT hG rfl;replace hA:=hA.grT hG rfl;replace hO1:=hO1.grT hG rfl)
          replace hE':=hE'.mono fun _ _ h=>h.grT hG rfl
          repeat' (first|(first|refine CW.seq ?_|refine CW.region ?_)|(refine Post.seq ?_)|refine SW.nil ?_|(show SW _ _ _ _ (⟨_,Op.load _ _,_,_,_,none⟩::_) _ _;refine SW.st (st_loads rfl rfl ((fun _ _=>hb10'.cell))) rfl ?_))
          refine SW.storeAgg hb8 rfl rfl rfl rfl (one_s ⟨q.Words,q.Heap,⟨A2,q.Caches.n+1,c2⟩⟩) fun w16 hR2 hg => ?_
          have hG:=hb8.gr hg
          replace hw:=hw.own hb8w hg
          (replace hX:=hX.grT hG rfl;replace hY:=hY.grT hG rfl;replace hN:=hN.grT hG rfl;replace hA:=hA.grT hG rfl;replace hO1:=hO1.grT hG rfl)
          replace hE':=hE'.mono fun _ _ h=>h.grT hG rfl
          repeat' (first|(refine CW.ret ?_)|(refine Post.seq ?_)|refine SW.nil ?_|refine SW.pure rfl rfl ?_)
          refine Post.ret2c rfl rfl rfl hR2 rfl ⟨_,rfl,hw,_,.new hq hnA hsz ht (by rw [hz];exact hno') h19,⟨q.Words,q.Heap,⟨A2,q.Caches.n+1,c2⟩⟩,rfl,hX,hY,_,hO1,?_⟩
          rw [hz]
          refine hE'.snoc ⟨rfl,?_,?_,hN,Own.nil_ _ _ _ _ _ _,?_⟩
          ·simp only [newCache,hLy]
          ·simp only [newCache,hLy]
          ·have e9:s.Heap.Cpus.toNat=k:=by omega
           simp only [newCache,e9]
           exact hA
      ·obtain ⟨m,hme⟩ : ∃ m,z % align=m:=⟨_,rfl⟩
       rw [hme] at hm
       have hzu:z≠upTo size align:=fun e=>by
        rw [e,hu.2.2.1] at hme
        omega
       have hu4:=hu.2.2.2
       have hmt:z.tmod align=m:=(Int.tmod_eq_emod_of_nonneg (by omega)).trans hme
       repeat' (first|(first|refine CW.seq ?_|refine CW.region ?_|refine CW.block ?_|refine CW.condn_t rfl (by omega) ?_|refine CW.skip ?_)|(first|refine Post.seq ?_|refine Post.blk ?_)|refine SW.nil ?_|refine SW.pure rfl rfl ?_|(show SW _ _ _ _ (⟨_,Op.binOp _ _ _ _ _,_,_,_,none⟩::_) _ _;first|refine SW.st (st_add rfl rfl (by omega) (by omega)) rfl ?_|refine SW.st (st_rem rfl rfl (by omega)) rfl ?_))
       all_goals first|(exfalso;omega)|skip
       exact Post.again (z+1) ⟨rfl,rfl,rfl,rfl,rfl,trivial⟩ (by omega) ⟨by omega,by omega,fun y h1 h2=>by
        by_cases e:y=z
        ·subst e;rw [hme];exact hm
        ·exact hz3 y h1 (by omega),hw,hb4,hb8⟩
    ·repeat' (first|(first|refine CW.seq ?_|refine CW.region ?_|refine CW.condfr rfl (by with_reducible rfl) ?_|refine CW.condn_t rfl (by omega) ?_|refine CW.skip ?_)|(refine Post.seq ?_)|refine SW.nil ?_|refine SW.pure rfl rfl ?_|(show SW _ _ _ _ (⟨_,Op.build _ _,_,_,_,none⟩::_) _ _;refine SW.st (st_build rfl rfl) rfl ?_)|(show SW _ _ _ _ (⟨_,Op.call ⟨.value (.func _),_,_⟩,_,_,_,none⟩::_) _ _;(refine SW.call rfl rfl (In_ans _ _ _ _) ?_;intro v w1 hw1 hv;subst hv;replace hw:=Ext.trans hw hw1;replace hb4:=hb4.ext hw1;replace hb8:=hb8.ext hw1;clear hw1)))
     all_goals first|(exfalso;omega)|skip
     refine SW.storeAgg hb8 rfl rfl rfl rfl (one_s .zero) fun w5 hR2 hg => ?_
     replace hw:=hw.own hb8w hg
     repeat' (first|(refine CW.ret ?_)|(first|refine Post.seq ?_|refine Post.seq_ret ?_)|refine SW.nil ?_|refine SW.pure rfl rfl ?_)
     exact Post.ret2c rfl rfl rfl hR2 rfl ⟨_,rfl,hw,_,.range hq hnA hsz,SysOut.zero 1 _ _⟩
  ·have hnA : ¬ (nameB n=true∧alignOk align):=by rw [hp];exact hal
   rcases (show p=false∨(p=true∧align≠1∧align≠2∧align≠4∧align≠8) by
    cases p
    ·exact .inl rfl
    ·right
     unfold alignOk at hal
     refine ⟨rfl,?_⟩
     simp only [true_and] at hal
     omega) with rfl|⟨rfl,g⟩
   all_goals
    repeat' (first|(first|refine CW.seq ?_|refine CW.region ?_|refine CW.condtr rfl (by with_reducible rfl) ?_|refine CW.condn_t rfl (by omega) ?_|refine CW.condf rfl ?_|refine CW.skip ?_)|(refine Post.seq ?_)|refine SW.nil ?_|(show SW _ _ _ _ (⟨_,_,_,_,_,some _⟩::_) _ _;first|refine SW.want_t rfl rfl (by with_reducible rfl) ?_|refine SW.skip_u rfl rfl (by with_reducible rfl) rfl ?_|refine SW.splitn_t rfl rfl rfl (by omega) ?_|refine SW.want rfl rfl ?_|refine SW.skip rfl rfl rfl rfl ?_)|refine SW.pure rfl rfl ?_|(show SW _ _ _ _ (⟨_,Op.build _ _,_,_,_,none⟩::_) _ _;refine SW.st (st_build rfl rfl) rfl ?_)|(show SW _ _ _ _ (⟨_,Op.load _ _,_,_,_,none⟩::_) _ _;refine SW.st (st_loads rfl rfl ((fun _ _=>hb4.cell))) rfl ?_)|(show SW _ _ _ _ (⟨_,Op.call ⟨.value (.func _),_,_⟩,_,_,_,none⟩::_) _ _;first|(refine SW.call rfl rfl (c1 _ hw) ?_;intro v w1 hw1 hv;subst hv;replace hw:=Ext.trans hw hw1;replace hb4:=hb4.ext hw1;replace hb8:=hb8.ext hw1;clear hw1)|(refine SW.call rfl rfl (c2 _) ?_;intro v w1 hw1 hv;subst hv;replace hw:=Ext.trans hw hw1;replace hb4:=hb4.ext hw1;replace hb8:=hb8.ext hw1;clear hw1)))
    all_goals first|(exfalso;omega)|skip
    refine SW.storeAgg hb8 rfl rfl rfl rfl (one_s .zero) fun w5 hR2 hg => ?_
    replace hw:=hw.own hb8w hg
    repeat' (first|(refine CW.ret ?_)|(first|refine Post.seq ?_|refine Post.seq_ret ?_)|refine SW.nil ?_|refine SW.pure rfl rfl ?_)
    exact Post.ret2c rfl rfl rfl hR2 rfl ⟨_,rfl,hw,_,.form hq hnA,SysOut.zero 3 _ _⟩
open Go.RowKit
theorem rangesC_ans (A:Option Addr) (n c:Nat) (B:Option Addr) (m d:Nat) (x y:List Region) (z:Int) (b:Nat) (w:World) (hB:Blk w b 27 (bootCells A n c B m d)) (hx:Sl w 2 encR A n x) (hy:Sl w 2 encR B m y) (hxo:∀ r∈x,r.ok) (hyo:∀ r∈y,r.ok)
 (hn:n≤9223372036854775807) (hm:m≤9223372036854775807) : Ans Tryz.prog 145 ([.int .i64 z]++[.pointer (some ⟨b,0,none⟩)]) w fun u _=>u = .bool (inReg x z && !inReg y z):=by
 refine ans_of Tryz.func145 rfl Tryz.ntmps145 rfl ?_
 have hw:=Ext.refl w
 obtain ⟨bx,hbx⟩ : ∃ b,inReg x z=b:=⟨_,rfl⟩
 obtain ⟨bY,hby⟩ : ∃ b,inReg y z=b:=⟨_,rfl⟩
 have l1:∀ w',Ext w w'→Ans Tryz.prog 146 [.slice A n c,.int .i64 z] w' fun v _=>v = .bool bx:=fun w' h=>by have:=inRegions_ans A n c x z w' (hx.ext h) hxo hn;rwa [hbx] at this
 have l2:∀ w',Ext w w'→Ans Tryz.prog 146 [.slice B m d,.int .i64 z] w' fun v _=>v = .bool bY:=fun w' h=>by have:=inRegions_ans B m d y z w' (hy.ext h) hyo hm;rwa [hby] at this
 rw [hbx,hby]
 cases bx<;>cases bY
 all_goals
  repeat' (first|(first|refine CW.seq ?_|refine CW.region ?_|refine CW.ret ?_)|(refine Post.seq ?_)|refine SW.nil ?_|(show SW _ _ _ _ (⟨_,_,_,_,_,some _⟩::_) _ _;first|refine SW.want_t rfl rfl (by with_reducible rfl) ?_|refine SW.skip_t rfl rfl (by with_reducible rfl) rfl ?_)|refine SW.pure rfl rfl ?_|(show SW _ _ _ _ (⟨_,Op.fieldAddr _ _ _,_,_,_,none⟩::_) _ _;refine SW.st (st_field rfl) rfl ?_)|(show SW _ _ _ _ (⟨_,Op.load _ _,_,_,_,none⟩::_) _ _;refine SW.st (st_load rfl (hB.cell rfl)) rfl ?_)|(show SW _ _ _ _ (⟨_,Op.call ⟨.value (.func _),_,_⟩,_,_,_,none⟩::_) _ _;first|(refine SW.call rfl rfl (l1 _ hw) ?_;intro v w1 hw1 hv;subst hv;replace hw:=Ext.trans hw hw1;replace hB:=hB.ext hw1;clear hw1)|(refine SW.call rfl rfl (l2 _ hw) ?_;intro v w1 hw1 hv;subst hv;replace hw:=Ext.trans hw hw1;replace hB:=hB.ext hw1;clear hw1)))
  exact Post.ret1 rfl rfl ⟨_,rfl,hw,rfl⟩
theorem RangesOf_ans (A:Option Addr) (n c:Nat) (B:Option Addr) (m d:Nat) (x y:List Region) (N:Nat) (hN:N=256) (w:World) (hx:Sl w 2 encR A n x) (hy:Sl w 2 encR B m y) (hn:n≤9223372036854775807) (hm:m≤9223372036854775807) :
 Ans Tryz.prog 60 [.agg (bootCells A n c B m d).toArray] w (RangesOut w.heap.size (rangesV N x y)):=by
 refine ans_of Tryz.func60 rfl Tryz.ntmps60 rfl ?_
 refine CW.seq (CW.region (SW.box rfl rfl fun b w1 hw hb hB => ?_))
 obtain ⟨q,hq⟩ : ∃ b,bootB x y=b:=⟨_,rfl⟩
 have c1:∀ w',Ext w w'→Ans Tryz.prog 143 [.agg (bootCells A n c B m d).toArray] w' fun v _=>v = .bool q:=fun w' h=>by have:=BootMay_ans A n c B m d x y w' (hx.ext h) (hy.ext h) hn hm;rwa [hq] at this
 cases q
 ·rw [rangesV_f hq]
  repeat' (first|(first|refine CW.seq ?_|refine CW.region ?_|refine CW.condt rfl ?_|refine CW.ret ?_)|(first|refine Post.seq ?_|refine Post.seq_ret ?_)|refine SW.nil ?_|refine SW.pure rfl rfl ?_|(show SW _ _ _ _ (⟨_,Op.load _ _,_,_,_,none⟩::_) _ _;refine SW.st (st_loads rfl rfl ((fun _ _=>hB.cell))) rfl ?_)|(show SW _ _ _ _ (⟨_,Op.call ⟨.value (.func _),_,_⟩,_,_,_,none⟩::_) _ _;(refine SW.call rfl rfl (c1 _ hw) ?_;intro v w1 hw1 hv;subst hv;replace hw:=Ext.trans hw hw1;replace hB:=hB.ext hw1;clear hw1)))
  exact Post.ret2 rfl rfl rfl ⟨_,rfl,hw,none,0,rfl,Own.nil_ _ _ _ _ _ _⟩
 ·rw [rangesV_t hq]
  obtain ⟨hxo,hyo⟩:=bootB_ok hq
  repeat' (first|(first|refine CW.seq ?_|refine CW.region ?_|refine CW.condf rfl ?_|refine CW.skip ?_)|(refine Post.seq ?_)|refine SW.nil ?_|refine SW.pure rfl rfl ?_|(show SW _ _ _ _ (⟨_,Op.load _ _,_,_,_,none⟩::_) _ _;refine SW.st (st_loads rfl rfl ((fun _ _=>hB.cell))) rfl ?_)|(show SW _ _ _ _ (⟨_,Op.call ⟨.value (.func _),_,_⟩,_,_,_,none⟩::_) _ _;(refine SW.call rfl rfl (c1 _ hw) ?_;intro v w1 hw1 hv;subst hv;replace hw:=Ext.trans hw hw1;replace hB:=hB.ext hw1;clear hw1)))
  refine SW.st (st_func (vs:=[.pointer (some ⟨b,0,none⟩)]) rfl) rfl ?_
  have hF:∀ w0,Ext w w0→Blk w0 b 27 (bootCells A n c B m d) → ∀ (z:Int) (w':World),0≤z→z<256→Ext w0 w'→Ans Tryz.prog 145 ([.int .i64 z]++[.pointer (some ⟨b,0,none⟩)]) w' fun u _=>u = .bool (freeP x y z.toNat):=fun w0 h0 hb0 z w' h1 h2 h3=>by
   have:=rangesC_ans A n c B m d x y z b w' (hb0.ext h3) (hx.ext (h0.trans h3)) (hy.ext (h0.trans h3)) hxo hyo hn hm
   have e:(inReg x z && !inReg y z)=freeP x y z.toNat:=by unfold freeP;rw [Int.toNat_of_nonneg h1]
   rwa [e] at this
  refine SW.call rfl rfl (drawn_ans 145 [.pointer (some ⟨b,0,none⟩)] N hN (freeP x y) _ (hF _ hw hB)) fun v w2 hw2 hv => ?_
  obtain ⟨A2,c2,rfl,hO2⟩:=hv
  have hlo:=hw.size
  replace hw:=Ext.trans hw hw2
  repeat' (first|(refine CW.ret ?_)|(refine Post.seq ?_)|refine SW.nil ?_|refine SW.pure rfl rfl ?_)
  exact Post.ret2 rfl rfl rfl ⟨_,rfl,hw,A2,c2,rfl,hO2.low hlo⟩
end Go.Proofs.YtbidkghlpijecaaGreatDoor
