/-
  Texts of the claim KmemAllocs, part 11: what its theorem leans on.
-/
import Derived.Test.YtbidkghlpijecaaGreatDoorPackKmemAllocs10
import Derived.Test.YtbidkghlpijecaaGreatDoorPackKmemAllocs2
import Derived.Test.YtbidkghlpijecaaGreatDoorPackKmemAllocs1
import Derived.Great.BuildSlice
import Derived.ArgAppend
import Derived.Test.YtbidkghlpijecaaGreatDoorPackKmemAllocs5
import Derived.Test.YtbidkghlpijecaaGreatDoorPackKmemAllocs4
import Derived.Test.YtbidkghlpijecaaGreatDoorPackKmemAllocs6
import Derived.Test.YtbidkghlpijecaaGreatDoorPackKmemAllocs7
import Derived.Test.YtbidkghlpijecaaGreatDoorPackKmemAllocs8
set_option linter.unusedVariables false
set_option linter.unusedSimpArgs false
namespace Go.Proofs.YtbidkghlpijecaaGreatDoor
open Go.RowKit Go.Maps
def nV (s:ByteArray) : Lit := .string s.data.toList
def rE (z:Int) : Lit := .int .i64 z
def ux (l:List ByteArray) (n:ByteArray) : Bool:=l.any fun m=>decide (m=n)
theorem kg {l:List ByteArray} {n:ByteArray}:ux l n=true↔n∈l:=by
 unfold ux;rw [List.any_eq_true];exact ⟨fun ⟨m,h,e⟩=>of_decide_eq_true e ▸ h,fun h=>⟨n,h,decide_eq_true rfl⟩⟩
theorem Df (l:List ByteArray) (n:ByteArray) : ((l.map nV).any fun y=>y.sameKey (nV n))=ux l n:=by
 rw [Bool.eq_iff_iff,List.any_eq_true,kg];constructor
 ·rintro ⟨y,hy,hs⟩
  obtain ⟨m,hm,rfl⟩:=List.mem_map.1 hy;have:=WideAt.sameKey_eq hs
  simp only [nV,Lit.string.injEq] at this
  have e:m=n:=by
   cases m;cases n
   simpa using this
  rw [← e];exact hm
 ·intro h;exact ⟨nV n,List.mem_map.2 ⟨n,h,rfl⟩,WideAt.sameKey_self trivial⟩
theorem Dg (l:List Int) (n:Int) : ((l.map rE).any fun y=>y.sameKey (rE n))=decide (n∈l):=by
 rw [Bool.eq_iff_iff,List.any_eq_true,decide_eq_true_iff];constructor
 ·rintro ⟨y,hy,hs⟩
  obtain ⟨m,hm,rfl⟩:=List.mem_map.1 hy;have:=WideAt.sameKey_eq hs
  simp only [rE,Lit.int.injEq] at this;rw [← this.2];exact hm
 ·intro h;exact ⟨rE n,List.mem_map.2 ⟨n,h,rfl⟩,WideAt.sameKey_self trivial⟩
theorem vZ:Tryz.prog.underlying 9=some .string:=by kernel_rfl
theorem v3:Tryz.prog.underlying 3=some (.int .i64):=by kernel_rfl
theorem nj:Tryz.prog.underlying 4=some .bool:=by kernel_rfl
theorem tp:Tryz.prog.underlying 144=some (.map 9 4):=by kernel_rfl
theorem xB:Tryz.prog.underlying 145=some (.map 3 4):=by kernel_rfl
theorem va (w:World) : (zeroValue 4).run Tryz.prog w = .ok (.bool false) w:=by
 obtain ⟨inf,hi,hz,hs,ue⟩:=dG Tryz.prog 4 (z := .bool false) (sz:=1) (bytes:=1);simp [zeroValue,typeInfo,hi,hz]
theorem qu (s:ByteArray) (h:s.size≤140737488351232) : Go.keyOf Tryz.prog 9 (.string s)=some (nV s):=by
 simp [Go.keyOf,mapKey,nV];unfold maxLen;omega
theorem keyOf_int {z:Int} (h : -9223372036854775808≤z∧z≤9223372036854775807) : Go.keyOf Tryz.prog 3 (.int .i64 z)=some (rE z):=keyOf_int_mk v3 (by
 have h1:IntKind.i64.min = -9223372036854775808:=by decide
 have h2:IntKind.i64.max=9223372036854775807:=by decide
 simp [Lit.wf,h1,h2];omega)
section
variable {L:Env} {w:World} {d:Option Nat} {T:TypeId} {pos:String} {af:Array Edge} {g:Option (Nat×Bool)}
theorem pB {b:Nat} {l:List ByteArray} {n:ByteArray} {m x:Operand} (hB:lF w Tryz.prog 9 4 b (l.map nV)) (hn:n.size≤140737488351232) (hm:bR L m=some (.map (some b))) (hx:bR L x=some (.string n)) :
 St Tryz.prog ⟨d,.lookup 144 m x false,T,pos,af,g⟩ L w (.bool (ux l n)) :=
 (tm hB (string_keyed vZ) tp nj va hm hx (qu n hn)).eq (by rw [Df])
theorem xC {b:Nat} {l:List Int} {n:Int} {m x:Operand} (hB:lF w Tryz.prog 3 4 b (l.map rE)) (hn : -9223372036854775808≤n∧n≤9223372036854775807) (hm:bR L m=some (.map (some b))) (hx:bR L x=some (.int .i64 n)) :
 St Tryz.prog ⟨d,.lookup 145 m x false,T,pos,af,g⟩ L w (.bool (decide (n∈l))) :=
 (tm hB (int_keyed v3) xB nj va hm hx (keyOf_int hn)).eq (by rw [Dg])
end
theorem Br (d:dr) (b6:Nat) (q:dr) (w:World) (h6:aJ w b6 89 (dh q)) :
 bo Tryz.prog 91 ([.agg (dh d).toArray]++[.pointer (some ⟨b6,0,none⟩)]) w fun v _=>v = .bool (decide (d.bg=q.bg)):=by
 refine aI Tryz.func91 rfl Tryz.ntmps91 rfl ?_;refine CW.seq (CW.region (SW.box rfl rfl fun b1 w1 hw gV aB => ?_));replace h6:=h6.ext hw;refine Wz ?_;exact ae.aO rfl rfl ⟨_,rfl,hw,rfl⟩
structure aE.kh (s:aE) : Prop where
 small:s.small
 cQ:∀ z∈s.Heap.aQ,qX z
 aS:∀ c∈s.aa,∀ x∈c.ai,-9223372036854775808≤x.At∧x.At≤9223372036854775807
 names:∀ c∈s.aa,∀ n∈c.Names,n.size≤140737488351232
theorem tq (cs:List bf) (h:∀ c∈cs,c.small) : (ca cs).length≤cs.length*8796093022208:=by
 induction cs with
 | nil=>simp [ca]
 | cons c r ih =>
   have h1:=(h c (by simp)).names;have h2:=ih (fun x hx=>h x (by simp [hx]));simp only [ca,List.flatMap_cons,List.length_append,List.length_cons] at h2 ⊢;omega
theorem tr (cs:List bf) (h:∀ c∈cs,c.small) : (cS cs).length≤cs.length*8796093022208:=by
 induction cs with
 | nil=>simp [cS]
 | cons c r ih =>
   have h1:=(h c (by simp)).aS;have h2:=ih (fun x hx=>h x (by simp [hx]));simp only [cS,List.flatMap_cons,List.length_append,List.length_cons,List.length_map] at h2 ⊢;omega
set_option maxHeartbeats 4000000 in
theorem tu (r:dQ) (s:aE) (w:World) (hr:qR w r s) (hf:s.kh) :
 bo Tryz.prog 41 [.agg (aR r).toArray] w fun v _=>v = .int .i64 (if g9 s then 0 else 8):=by
 refine aI Tryz.func41 rfl Tryz.ntmps41 rfl ?_;refine CW.seq (CW.region (SW.box rfl rfl fun b1 w1 hw gV aB => ?_));obtain ⟨cs,hc⟩:=hr.dn;obtain ⟨z1,z2⟩:=hc.len;have wl:=hr.words.len;have hs:=hf.small;have m3:=hs.dn;have GA:=hc.cap;obtain ⟨q,hq⟩ : ∃ q,iN s.Heap=q:=⟨_,rfl⟩
 have c1:∀ w',Ext w w'→bo Tryz.prog 88 [.agg (bm r.Heap).toArray] w' fun v _=>v = .int .i64 (if q then 0 else 8):=fun w' hx=>by
  have:=sY r.Heap s.Heap w' (hr.heap.ext hx) hs.heap hf.cQ
  rwa [hq] at this
 by_cases tv:s.Words.length=4096∧q=true∧s.aa.length≤20
 ·obtain ⟨g1,g2,g3⟩:=tv;subst g2;have hH:=ig.1 hq;simp only [if_true] at c1;repeat' (first|refine Wz ?_|refine SW.st (aW rfl rfl ((fY aB))) rfl ?_|(refine SW.call rfl rfl (c1 _ hw) ?_;intro v w1 ab hv;subst hv;replace hw:=Ext.trans hw ab;replace aB:=aB.ext ab;clear ab))
  all_goals try omega
  clear c1;refine SW.makeMap 9 4 rfl fun bN w3 jW IY hN => ?_
  have MD:w.heap.size≤bN:=Nat.le_trans hw.size IY
  have EA:=aB.lt;(replace hw:=Ext.trans hw jW;replace aB:=aB.ext jW);refine SW.makeMap 3 4 rfl fun bS w4 iK IZ hS => ?_
  have N6:w.heap.size≤bS:=Nat.le_trans hw.size IZ
  have EB:=hN.lt;(replace hw:=Ext.trans hw iK;replace aB:=aB.ext iK;replace hN:=hN.ext iK);have I0:b1≠bN:=by omega
  have Li:b1≠bS:=by omega
  have G6:bN≠bS:=by omega
  clear EA EB IY IZ;refine Wz ?_
  refine CW.loop (fun k:Nat=>[(1,.pointer (some ⟨b1,0,none⟩)),(3,.map (some bN)),(4,.map (some bS)),(30,.slice r.aa.A r.aa.n r.aa.c),(31,.int .i64 (r.aa.n:Int)),(32,.int .i64 (k:Int))])
   (fun k w'=>k≤r.aa.n∧Ext w w'∧aJ w' b1 44 (aR r)∧lF w' Tryz.prog 9 4 bN ((ca (s.aa.take k)).map nV)∧lF w' Tryz.prog 3 4 bS ((cS (s.aa.take k)).map rE) ∧ ∀ (i:Nat) (h:i<s.aa.length),i<k→rW s i h) (fun k=>r.aa.n-k) 0
   ⟨rfl,rfl,rfl,rfl,rfl,rfl,trivial⟩ ⟨by omega,hw,aB,hN,hS,fun i h h'=>by omega⟩ ?_
  clear hw aB hN hS;rintro k w' ⟨hk,hw,aB,hN,hS,hI⟩
  have hA:=hc.row.base;by_cases cb:k<r.aa.n
  ·have ul:k<cs.length:=by omega
   have dk:k<s.aa.length:=by omega
   have gn:=hc.each.get k ul dk;have sm:=hs.each _ (List.getElem_mem dk);have fS:=hf.aS _ (List.getElem_mem dk);have fN:=hf.names _ (List.getElem_mem dk);have q1:=gn.names.len;have q2:=gn.aS.len;have q4:=sm.names;have q5:=sm.aS;have bn:=tq (s.aa.take k) (fun c hc=>hs.each c (List.mem_of_mem_take hc));have bs:=tr (s.aa.take k) (fun c hc=>hs.each c (List.mem_of_mem_take hc));rw [List.length_take] at bn bs;repeat' (first|refine Wz ?_|refine SW.st (aH hw rfl rfl ((hc.row.all cb))) rfl ?_)
   have Lj:=hN.lt;have Lk:=hS.lt;refine SW.alloc rfl fun b6 w1 ab eg aw => ?_
   refine Wz ?_;refine SW.ak aw rfl rfl rfl rfl (sO _) fun w2 gq hg => ?_
   have aj:=ab.own eg hg;have cu:w.heap.size≤b6:=Nat.le_trans hw.size eg
   replace hw:=Ext.trans hw aj;replace aB:=aB.ext aj;replace hN:=hN.ext aj;replace hS:=hS.ext aj;replace aw:=gq;clear gq ab hg aj;have I1:bN≠b6:=by omega
   have N7:bS≠b6:=by omega
   clear Lj Lk;obtain ⟨qc,G7⟩ : ∃ qc,iY s s.aa[k]=qc:=⟨_,rfl⟩
   have cC:∀ w',Ext w w'→bo Tryz.prog 89 [.agg (aR r).toArray,.agg (dh cs[k]).toArray] w' fun v _=>v = .bool qc:=fun w' hx=>by
    have:=Bo r s cs[k] s.aa[k] w' (hr.ext hx) (gn.ext hx) hs sm hH fS
    rwa [G7] at this
   cases qc
   ·have hF:g9 s=false:=kf fun hm=>by
     have:=ng (hm.each k dk).may
     rw [G7] at this;cases this
    rw [hF];repeat' (first|refine Wz ?_|refine SW.skip rfl rfl rfl rfl ?_|(refine SW.call rfl rfl (cC _ hw) ?_;intro v w1 ab hv;subst hv;replace hw:=Ext.trans hw ab;replace aB:=aB.ext ab;replace aw:=aw.ext ab;replace hN:=hN.ext ab;replace hS:=hS.ext ab;clear ab))
    exact ae.aO rfl rfl ⟨_,rfl,hw,rfl⟩
   ·have Ke:=td.1 G7;obtain ⟨y,hy⟩ : ∃ y,((cs.take k).any fun d=>decide (d.bg=cs[k].bg))=y:=⟨_,rfl⟩
    have cD:∀ w',Ext w w'→aJ w' b6 89 (dh cs[k])→bo Tryz.prog 90 [.slice r.aa.A k r.aa.c,.func (.func 91) #[] [.pointer (some ⟨b6,0,none⟩)].toArray] w' fun v _=>v = .bool y:=fun w' hx h6=>by
     have:=nb r.aa.A k r.aa.c (cs.take k) w' ((hc.row.ext hx).pre (show k≤r.aa.n by omega)) 91 [.pointer (some ⟨b6,0,none⟩)] (fun d=>decide (d.bg=cs[k].bg)) (fun d => .agg (dh d).toArray) (fun x=>rfl)
      (fun x _ w1 jx=>Br x b6 cs[k] w1 (h6.ext jx)) (by omega)
     rwa [hy] at this
    cases y
    ·have vt:∀ (j:Nat) (hj:j<k),(s.aa[j]'(by omega)).bg≠s.aa[k].bg:=fun j hj e=>by
      rw [List.any_eq_false] at hy;refine hy cs[j] (List.mem_take_iff_getElem.2 ⟨j,by omega,rfl⟩) ?_;have e1:=(hc.each.get j (by omega) (by omega)).size;have e2:=gn.size;exact decide_eq_true (by rw [e1,e2];exact e)
     repeat' (first|refine Wz ?_|refine SW.want rfl rfl ?_|((first|refine SW.call rfl rfl (cC _ hw) ?_|refine SW.call rfl rfl (cD _ hw aw) ?_);intro v w1 ab hv;subst hv;replace hw:=Ext.trans hw ab;replace aB:=aB.ext ab;replace aw:=aw.ext ab;replace hN:=hN.ext ab;replace hS:=hS.ext ab;clear ab)|(refine SW.st (dg (k:=k) rfl rfl (by omega)) rfl ?_)|(refine SW.st (iz (vs:=[.pointer (some ⟨b6,0,none⟩)]) rfl) rfl ?_))
     obtain ⟨acc,v5⟩ : ∃ acc,ca (s.aa.take k)=acc:=⟨_,rfl⟩;rw [v5] at hN bn;obtain ⟨oS,v7⟩ : ∃ oS,cS (s.aa.take k)=oS:=⟨_,rfl⟩;rw [v7] at hS bs;clear cC cD
     refine CW.loop (fun j:Nat=>[(1,.pointer (some ⟨b1,0,none⟩)),(3,.map (some bN)),(4,.map (some bS)),(6,.pointer (some ⟨b6,0,none⟩)),(30,.slice r.aa.A r.aa.n r.aa.c),(31,.int .i64 (r.aa.n:Int)),(32,.int .i64 (k:Int)),(50,.slice cs[k].Names.A cs[k].Names.n cs[k].Names.c),(51,.int .i64 (cs[k].Names.n:Int)),(52,.int .i64 (j:Int))])
      (fun j w'=>j≤cs[k].Names.n∧Ext w w'∧aJ w' b1 44 (aR r)∧aJ w' b6 89 (dh cs[k])∧lF w' Tryz.prog 9 4 bN ((acc++s.aa[k].Names.take j).map nV)∧lF w' Tryz.prog 3 4 bS (oS.map rE) ∧
        ∀ (i:Nat) (h:i<s.aa[k].Names.length),i<j→gm s.aa[k].Names[i]=true∧s.aa[k].Names[i]∉acc++s.aa[k].Names.take i∧(0<i→fJ (s.aa[k].Names[i-1]'(by omega)) s.aa[k].Names[i]=true)) (fun j=>cs[k].Names.n-j) 0
      ⟨rfl,rfl,rfl,rfl,rfl,rfl,rfl,rfl,rfl,rfl,trivial⟩ ⟨by omega,hw,aB,aw,by simpa using hN,hS,fun i h h'=>by omega⟩ ?_
     clear hw aB hN hS aw;rintro j w' ⟨hj,hw,aB,aw,hN,hS,hJ⟩
     have rX:=gn.names.base;by_cases je:j<cs[k].Names.n
     ·have kV:j<s.aa[k].Names.length:=by omega
      obtain ⟨nm,ui⟩ : ∃ nm,s.aa[k].Names[j]=nm:=⟨_,rfl⟩;have gN:=gn.names.one je (u := .string nm) (by rw [← ui];rfl);have E3:nm.size≤140737488351232:=by rw [← ui];exact fN _ (List.getElem_mem kV)
      obtain ⟨qn,G8⟩ : ∃ qn,gm nm=qn:=⟨_,rfl⟩;obtain ⟨qh,G9⟩ : ∃ qh,ux (acc++s.aa[k].Names.take j) nm=qh:=⟨_,rfl⟩
      have E4:∀ w',bo Tryz.prog 92 [.string nm] w' fun v _=>v = .bool qn:=fun w'=>by
       have:=C1 nm w' E3
       rwa [G8] at this
      have q9:(qn=false∨qh=true ∨ ∃ vI : 0<j,fJ (s.aa[k].Names[j-1]'(by omega)) nm=false)→g9 s=false:=fun h=>kf fun hm=>by
       have h1:=(hm.each k dk).names.each j kV;rw [ui,v5] at h1;rcases h with h|h|⟨vI,h⟩
       ·rw [G8,h] at h1;exact absurd h1.1 (by simp)
       ·exact h1.2.1 (kg.1 (by rw [G9,h]))
       ·rw [h1.2.2 vI] at h;cases h
      cases qn
      ·rw [q9 (.inl rfl)];repeat' (first|refine Wz ?_|refine SW.skip rfl rfl rfl rfl ?_|refine SW.st (ap hw rfl gN) rfl ?_|(refine SW.call rfl rfl (E4 _) ?_;intro v w1 ab hv;subst hv;replace hw:=Ext.trans hw ab;replace aB:=aB.ext ab;replace aw:=aw.ext ab;replace hN:=hN.ext ab;replace hS:=hS.ext ab;clear ab))
       exact ae.aO rfl rfl ⟨_,rfl,hw,rfl⟩
      ·cases qh
       ·have go:∀ (tw : 0<j→fJ (s.aa[k].Names[j-1]'(by omega)) nm=true) (i:Nat) (h:i<s.aa[k].Names.length),i<j+1→gm s.aa[k].Names[i]=true∧s.aa[k].Names[i]∉acc++s.aa[k].Names.take i∧(0<i→fJ (s.aa[k].Names[i-1]'(by omega)) s.aa[k].Names[i]=true):=fun tw i h h'=>by
         by_cases ei:i=j
         ·subst ei;rw [ui];exact ⟨G8,(fun hm=>by rw [kg.2 hm] at G9;cases G9),tw⟩
         ·exact hJ i h (by omega)
        rcases Nat.eq_zero_or_pos j with vI|vI
        ·repeat' (first|refine Wz ?_|refine SW.want rfl rfl ?_|refine SW.st (ap hw rfl gN) rfl ?_|(refine SW.call rfl rfl (E4 _) ?_;intro v w1 ab hv;subst hv;replace hw:=Ext.trans hw ab;replace aB:=aB.ext ab;replace aw:=aw.ext ab;replace hN:=hN.ext ab;replace hS:=hS.ext ab;clear ab)|(refine SW.st ((pB hN E3 rfl rfl).eq (congrArg Value.bool G9)) rfl ?_))
         all_goals try omega
         refine SW.zj hN (string_keyed vZ) tp nj (by simp only [List.length_map,List.length_append,List.length_take];unfold maxLen;omega) rfl rfl rfl (qu nm E3) trivial fun w5 I2 hg => ?_
         replace hw:=hw.own MD hg;replace aB:=aB.grown hg (by simpa using I0);replace aw:=aw.grown hg (by simpa using I1.symm);replace hS:=hS.grown hg (by simpa using G6.symm);have eN:(acc++s.aa[k].Names.take j).map nV++[nV nm]=(acc++s.aa[k].Names.take (j+1)).map nV:=by rw [List.take_succ_eq_append_getElem kV,ui];simp
         rw [eN] at I2;refine Wz ?_;exact ae.again (j+1) ⟨rfl,rfl,rfl,rfl,rfl,rfl,rfl,rfl,rfl,rfl,trivial⟩ (by omega) ⟨by omega,hw,aB,aw,I2,hS,go (fun h=>by omega)⟩
        ·obtain ⟨ql,FU⟩ : ∃ ql,(!fJ (s.aa[k].Names[j-1]'(by omega)) nm)=ql:=⟨_,rfl⟩;have gP:=gn.names.one (show j-1<cs[k].Names.n by omega) (u := .string (s.aa[k].Names[j-1]'(by omega))) rfl;cases ql
         ·repeat' (first|refine Wz ?_|refine SW.want rfl rfl ?_|refine SW.st (bc (j-1) rfl rfl (by assumption) (by omega) (by omega)) rfl ?_|refine SW.st (ap hw rfl gN) rfl ?_|refine SW.st (ap hw rfl gP) rfl ?_|(refine SW.call rfl rfl (E4 _) ?_;intro v w1 ab hv;subst hv;replace hw:=Ext.trans hw ab;replace aB:=aB.ext ab;replace aw:=aw.ext ab;replace hN:=hN.ext ab;replace hS:=hS.ext ab;clear ab)|(refine SW.st ((pB hN E3 rfl rfl).eq (congrArg Value.bool G9)) rfl ?_)|(refine SW.st ((xj rfl rfl).eq (congrArg Value.bool FU)) rfl ?_))
          all_goals try omega
          refine SW.zj hN (string_keyed vZ) tp nj (by simp only [List.length_map,List.length_append,List.length_take];unfold maxLen;omega) rfl rfl rfl (qu nm E3) trivial fun w5 I2 hg => ?_
          replace hw:=hw.own MD hg;replace aB:=aB.grown hg (by simpa using I0);replace aw:=aw.grown hg (by simpa using I1.symm);replace hS:=hS.grown hg (by simpa using G6.symm);have eN:(acc++s.aa[k].Names.take j).map nV++[nV nm]=(acc++s.aa[k].Names.take (j+1)).map nV:=by rw [List.take_succ_eq_append_getElem kV,ui];simp
          rw [eN] at I2;refine Wz ?_;exact ae.again (j+1) ⟨rfl,rfl,rfl,rfl,rfl,rfl,rfl,rfl,rfl,rfl,trivial⟩ (by omega) ⟨by omega,hw,aB,aw,I2,hS,go (fun _=>by simpa using FU)⟩
         ·rw [q9 (.inr (.inr ⟨vI,by simpa using FU⟩))];repeat' (first|refine Wz ?_|refine SW.want rfl rfl ?_|refine SW.st (bc (j-1) rfl rfl (by assumption) (by omega) (by omega)) rfl ?_|refine SW.st (ap hw rfl gN) rfl ?_|refine SW.st (ap hw rfl gP) rfl ?_|(refine SW.call rfl rfl (E4 _) ?_;intro v w1 ab hv;subst hv;replace hw:=Ext.trans hw ab;replace aB:=aB.ext ab;replace aw:=aw.ext ab;replace hN:=hN.ext ab;replace hS:=hS.ext ab;clear ab)|(refine SW.st ((pB hN E3 rfl rfl).eq (congrArg Value.bool G9)) rfl ?_)|(refine SW.st ((xj rfl rfl).eq (congrArg Value.bool FU)) rfl ?_))
          all_goals try omega
          exact ae.aO rfl rfl ⟨_,rfl,hw,rfl⟩
       ·rw [q9 (.inr (.inl rfl))];repeat' (first|refine Wz ?_|refine SW.want rfl rfl ?_|refine SW.st (ap hw rfl gN) rfl ?_|(refine SW.call rfl rfl (E4 _) ?_;intro v w1 ab hv;subst hv;replace hw:=Ext.trans hw ab;replace aB:=aB.ext ab;replace aw:=aw.ext ab;replace hN:=hN.ext ab;replace hS:=hS.ext ab;clear ab)|(refine SW.st ((pB hN E3 rfl rfl).eq (congrArg Value.bool G9)) rfl ?_))
        exact ae.aO rfl rfl ⟨_,rfl,hw,rfl⟩
     ·have Ha:vX (ca (s.aa.take k)) s.aa[k].Names:=⟨fun i h=>by rw [v5];exact hJ i h (by omega)⟩
      rw [List.take_of_length_le (by omega)] at hN;refine Wz ?_;clear hJ hj je rX
      refine CW.loop (fun j:Nat=>[(1,.pointer (some ⟨b1,0,none⟩)),(3,.map (some bN)),(4,.map (some bS)),(30,.slice r.aa.A r.aa.n r.aa.c),(31,.int .i64 (r.aa.n:Int)),(32,.int .i64 (k:Int)),(83,.slice cs[k].ai.A cs[k].ai.n cs[k].ai.c),(84,.int .i64 (cs[k].ai.n:Int)),(85,.int .i64 (j:Int))])
       (fun j w'=>j≤cs[k].ai.n∧Ext w w'∧aJ w' b1 44 (aR r)∧lF w' Tryz.prog 9 4 bN ((acc++s.aa[k].Names).map nV)∧lF w' Tryz.prog 3 4 bS ((oS++(s.aa[k].ai.take j).map fun x=>x.At).map rE) ∧
         ∀ (i:Nat) (h:i<s.aa[k].ai.length),i<j→s.aa[k].ai[i].At∉oS++(s.aa[k].ai.take i).map fun x=>x.At) (fun j=>cs[k].ai.n-j) 0
       ⟨rfl,rfl,rfl,rfl,rfl,rfl,rfl,rfl,rfl,trivial⟩ ⟨by omega,hw,aB,hN,by simpa using hS,fun i h h'=>by omega⟩ ?_
      clear hw aB hN hS aw;rintro j w' ⟨hj,hw,aB,hN,hS,hJ⟩
      have rX:=gn.aS.base;by_cases je:j<cs[k].ai.n
      ·have kV:j<s.aa[k].ai.length:=by omega
       obtain ⟨x,hx⟩ : ∃ x,s.aa[k].ai[j]=x:=⟨_,rfl⟩;have gS:=gn.aS.all je;rw [hx] at gS;have fx : -9223372036854775808≤x.At∧x.At≤9223372036854775807:=by rw [← hx];exact fS _ (List.getElem_mem kV)
       repeat' (first|refine Wz ?_|refine SW.st (aH hw rfl rfl gS) rfl ?_)
       refine SW.alloc rfl fun jM w1 ab ij aN => ?_
       skip;refine SW.ak aN rfl rfl rfl rfl (fw.one (enc:=aY) _) fun w2 dF hg => ?_
       have aj:=ab.own ij hg;have ki:w.heap.size≤jM:=Nat.le_trans hw.size ij
       replace hw:=Ext.trans hw aj;replace aB:=aB.ext aj;replace hN:=hN.ext aj;replace hS:=hS.ext aj;replace aN:=dF;clear dF ab hg aj;by_cases lz:x.At∈oS++(s.aa[k].ai.take j).map fun x=>x.At
       ·have Ll:=decide_eq_true lz
        rw [kf fun hm=>by
         have:=(hm.each k dk).aS j kV
         rw [hx,v7] at this;exact this lz]
        repeat' (first|refine Wz ?_|(refine SW.st ((xC hS fx rfl rfl).eq (congrArg Value.bool Ll)) rfl ?_))
        exact ae.aO rfl rfl ⟨_,rfl,hw,rfl⟩
       ·have Ll:=decide_eq_false lz;repeat' (first|refine Wz ?_|(refine SW.st ((xC hS fx rfl rfl).eq (congrArg Value.bool Ll)) rfl ?_))
        refine SW.zj hS (int_keyed v3) xB nj (by simp only [List.length_map,List.length_append,List.length_take];unfold maxLen;omega) rfl rfl rfl (keyOf_int fx) trivial fun w5 mJ hg => ?_
        replace hw:=hw.own N6 hg;replace aB:=aB.grown hg (by simpa using Li);replace hN:=hN.grown hg (by simpa using G6);have eN:(oS++(s.aa[k].ai.take j).map fun x=>x.At).map rE++[rE x.At]=(oS++(s.aa[k].ai.take (j+1)).map fun x=>x.At).map rE:=by rw [List.take_succ_eq_append_getElem kV,hx];simp
        rw [eN] at mJ;refine Wz ?_
        exact ae.again (j+1) ⟨rfl,rfl,rfl,rfl,rfl,rfl,rfl,rfl,rfl,trivial⟩ (by omega) ⟨by omega,hw,aB,hN,mJ,fun i h h'=>by
         by_cases ei:i=j
         ·subst ei;rw [hx];exact lz
         ·exact hJ i h (by omega)⟩
      ·rw [List.take_of_length_le (by omega),← v7,← jD s.aa k dk] at hS;rw [← v5,← jC s.aa k dk] at hN;refine Wz ?_
       exact ae.again (k+1) ⟨rfl,rfl,rfl,rfl,rfl,rfl,trivial⟩ (by omega) ⟨by omega,hw,aB,hN,hS,fun i h h'=>by
        by_cases ei:i=k
        ·subst ei;exact ⟨Ke,vt,Ha,fun i h=>by rw [v7];exact hJ i h (by omega)⟩
        ·exact hI i h (by omega)⟩
    ·have hF:g9 s=false:=kf fun hm=>by
      obtain ⟨d,hd,he⟩:=List.any_eq_true.1 hy;obtain ⟨j,hj,rfl⟩:=List.mem_take_iff_getElem.1 hd;have e1:=(hc.each.get j (by omega) (by omega)).size;have e2:=gn.size;have:=of_decide_eq_true he
      exact (hm.each k dk).size j (by omega) (by rw [← e1,← e2];exact this)
     rw [hF];repeat' (first|refine Wz ?_|refine SW.want rfl rfl ?_|((first|refine SW.call rfl rfl (cC _ hw) ?_|refine SW.call rfl rfl (cD _ hw aw) ?_);intro v w1 ab hv;subst hv;replace hw:=Ext.trans hw ab;replace aB:=aB.ext ab;replace aw:=aw.ext ab;replace hN:=hN.ext ab;replace hS:=hS.ext ab;clear ab)|(refine SW.st (dg (k:=k) rfl rfl (by omega)) rfl ?_)|(refine SW.st (iz (vs:=[.pointer (some ⟨b6,0,none⟩)]) rfl) rfl ?_))
     exact ae.aO rfl rfl ⟨_,rfl,hw,rfl⟩
  ·rw [zd ⟨g1,hH,g3,fun i h=>hI i h (by omega)⟩];refine Wz ?_;exact ae.aO rfl rfl ⟨_,rfl,hw,rfl⟩
 ·have hF:g9 s=false:=kf fun hm=>tv ⟨hm.words,by rw [← hq];exact ph hm.heap,hm.most⟩
  rw [hF];cases q
  all_goals simp only [if_true,Bool.false_eq_true,if_false] at c1
  all_goals simp only [true_and,Bool.false_eq_true,false_and,and_false,not_false_eq_true] at tv
  ·rcases (show s.Words.length≠4096∨s.Words.length=4096 by omega) with g|g
   all_goals
    repeat' (first|refine Wz ?_|refine SW.st (aW rfl rfl ((fY aB))) rfl ?_|(refine SW.call rfl rfl (c1 _ hw) ?_;intro v w1 ab hv;subst hv;replace hw:=Ext.trans hw ab;replace aB:=aB.ext ab;clear ab))
    all_goals try omega
    exact ae.aO rfl rfl ⟨_,rfl,hw,rfl⟩
  ·rcases (show s.Words.length≠4096∨(s.Words.length=4096∧20<s.aa.length) by omega) with g|g
   all_goals
    repeat' (first|refine Wz ?_|refine SW.st (aW rfl rfl ((fY aB))) rfl ?_|(refine SW.call rfl rfl (c1 _ hw) ?_;intro v w1 ab hv;subst hv;replace hw:=Ext.trans hw ab;replace aB:=aB.ext ab;clear ab))
    all_goals try omega
    exact ae.aO rfl rfl ⟨_,rfl,hw,rfl⟩
theorem tx:∀ (n:Nat) (l:List Nat),l.Nodup→(∀ x∈l,x<n)→l.length≤n
 | 0,l,_,h=>by
   cases l with
   | nil=>simp
   | cons a r=>exact absurd (h a (by simp)) (by omega)
 | n+1,l,hd,h=>by
   have h1:=tx n (l.erase n) (hd.erase n) (fun x hx=>by
    have:=hd.mem_erase_iff.1 hx
    have:=h x this.2
    omega)
   have h2:l.length≤(l.erase n).length+1:=by
    rw [List.length_erase];split<;>omega
   omega
theorem vc {α β:Type} {f : α → β} {l:List α} (hd:l.Nodup) (hf:∀ x∈l,∀ y∈l,f x=f y→x=y) : (l.map f).Nodup:=by
 induction l with
 | nil=>simp
 | cons a r ih =>
   rw [List.nodup_cons] at hd;rw [List.map_cons,List.nodup_cons];refine ⟨fun h => ?_,ih hd.2 fun x hx y hy=>hf x (by simp [hx]) y (by simp [hy])⟩;obtain ⟨b,hb,e⟩:=List.mem_map.1 h;have:=hf b (by simp [hb]) a (by simp) e
   subst this;exact hd.1 hb
theorem kj {α:Type} {acc l:List α} (h:acc.Nodup) : ∀ (j:Nat),(∀ (k:Nat) (hk:k<l.length),k<j→l[k]∉acc++l.take k)→(acc++l.take j).Nodup
 | 0,_=>by simpa using h
 | j+1,hi=>by
   have ih:=kj (l:=l) h j (fun k hk hj=>hi k hk (by omega));by_cases hj:j<l.length
   ·rw [List.take_succ_eq_append_getElem hj,← List.append_assoc,List.nodup_append];refine ⟨ih,by simp,fun a ha b hb e => ?_⟩;simp at hb;subst hb e;exact hi j hj (by omega) ha
   ·rw [List.take_of_length_le (by omega)];rwa [List.take_of_length_le (by omega)] at ih
def v8 (b:UInt8) : Nat:=if b.toNat<97 then b.toNat-47 else b.toNat-86
def mv:List UInt8→Nat
 | []=>0
 | b::r=>v8 b+37*mv r
theorem pC {b:UInt8} (h:ly b=false) : 1≤v8 b∧v8 b≤36:=by
 unfold ly at h;simp at h;unfold v8;split<;>omega
theorem Dh {b c:UInt8} (h:ly b=false) (k:ly c=false) (e:v8 b=v8 c) : b=c:=by
 unfold ly at h k;simp at h k;unfold v8 at e;apply UInt8.toNat_inj.1;split at e<;>split at e<;>omega
theorem xD:∀ (l:List UInt8),(∀ b∈l,ly b=false)→mv l<37 ^ l.length
 | [],_=>by simp [mv]
 | b::r,h=>by
   have h1:=pC (h b (by simp));have h2:=xD r (fun x hx=>h x (by simp [hx]));simp only [mv,List.length_cons,Nat.pow_succ];omega
theorem vd:∀ (l m:List UInt8),(∀ b∈l,ly b=false)→(∀ b∈m,ly b=false)→mv l=mv m→l=m
 | [],[],_,_,_=>rfl
 | [],c::t,_,k,e=>by
   have:=pC (k c (by simp))
   simp only [mv] at e;omega
 | b::r,[],h,_,e=>by
   have:=pC (h b (by simp))
   simp only [mv] at e;omega
 | b::r,c::t,h,k,e=>by
   have h1:=pC (h b (by simp));have h2:=pC (k c (by simp));simp only [mv] at e;have e1:v8 b=v8 c:=by omega
   have e2:mv r=mv t:=by omega
   rw [Dh (h b (by simp)) (k c (by simp)) e1,vd r t (fun x hx=>h x (by simp [hx])) (fun x hx=>k x (by simp [hx])) e2]
theorem qv {s:ByteArray}:gm s=true↔(1≤s.size∧s.size≤8) ∧ ∀ b∈s.data.toList,ly b=false:=by
 unfold gm;rw [Bool.and_eq_true,decide_eq_true_iff,Bool.not_eq_true',List.any_eq_false];constructor
 ·rintro ⟨h,k⟩
  exact ⟨by omega,fun b hb=>by simpa using k b hb⟩
 ·rintro ⟨h,k⟩
  exact ⟨by omega,fun b hb=>by simp [k b hb]⟩
theorem xE {l:List ByteArray} (hd:l.Nodup) (hv:∀ n∈l,gm n=true) : l.length≤3512479453921:=by
 have h:=tx 3512479453921 (l.map fun n=>mv n.data.toList) (vc hd fun x hx y hy e => ?_) (fun z hz => ?_)
 ·simpa using h
 ·have h1:=vd _ _ (qv.1 (hv x hx)).2 (qv.1 (hv y hy)).2 e;cases x;cases y
  simpa using h1
 ·obtain ⟨n,hn,rfl⟩:=List.mem_map.1 hz;obtain ⟨h1,h2⟩:=qv.1 (hv n hn);have h3:=xD _ h2;have h4:n.data.toList.length≤8:=by rw [Array.length_toList];exact h1.2
  have h5 : 37 ^ n.data.toList.length≤37 ^ 8:=Nat.pow_le_pow_right (by omega) h4
  exact Nat.lt_of_lt_of_le h3 h5
theorem Bs {l:List Int} (hd:l.Nodup) (hv:∀ n∈l,0≤n∧n≤255) : l.length≤256:=by
 have h:=tx 256 (l.map Int.toNat) (vc hd fun x hx y hy e => ?_) (fun z hz => ?_)
 ·simpa using h
 ·have:=hv x hx
  have:=hv y hy
  omega
 ·obtain ⟨n,hn,rfl⟩:=List.mem_map.1 hz;have:=hv n hn
  omega
theorem E5 {l:List Block} (h:mW l) {a:Int} (hf:cc l a=true) : 0≤a∧a≤255:=by
 obtain ⟨hm,e⟩:=py hf;have:=(h.each _ hm).2.1
 omega
theorem l9.at_ {s:aE} {c:bf} {i:Nat} {h:i<c.ai.length} (hm:l9 s c i h) (hH:bD s.Heap) (ho : 0≤c.Order) : cc s.Heap.Live c.ai[i].At=true∧0≤c.ai[i].At∧c.ai[i].At≤255:=by
 have hf:cc s.Heap.Live c.ai[i].At=true:=by
  cases hf:cc s.Heap.Live c.ai[i].At
  ·have:=hm.live
   rw [vW hf] at this;omega
  ·rfl
 exact ⟨hf,E5 hH.live hf⟩
theorem jv.ME {s:aE} {c:bf} (hm:jv s c) (hH:bD s.Heap) : ∀ x∈c.ai,0≤x.At∧x.At≤255:=fun x hx=>by
 obtain ⟨i,hi,rfl⟩:=List.getElem_of_mem hx;exact ((hm.aS i hi).at_ hH (iZ hm.lay).2.1.1).2
theorem xF {s:aE} (hH:bD s.Heap) : ∀ (k:Nat),k≤s.aa.length→(∀ (i:Nat) (h:i<s.aa.length),i<k→rW s i h) →
 ((ca (s.aa.take k)).Nodup ∧ ∀ n∈ca (s.aa.take k),gm n=true)∧((cS (s.aa.take k)).Nodup ∧ ∀ a∈cS (s.aa.take k),0≤a∧a≤255)
 | 0,_,_=>by simp [ca,cS]
 | k+1,hk,hI=>by
   obtain ⟨⟨h1,h2⟩,h3,h4⟩:=xF hH k (by omega) (fun i h h'=>hI i h (by omega));have hc:=hI k (by omega) (by omega);rw [jC _ _ (by omega),jD _ _ (by omega)];refine ⟨⟨?_,fun n hn => ?_⟩,?_,fun a ha => ?_⟩
   ·have:=kj (l:=(s.aa[k]'(by omega)).Names) h1 (s.aa[k]'(by omega)).Names.length (fun i hi _=>(hc.names.each i hi).2.1)
    rwa [List.take_length] at this
   ·rcases List.mem_append.1 hn with hn|hn
    ·exact h2 n hn
    ·obtain ⟨i,hi,rfl⟩:=List.getElem_of_mem hn;exact (hc.names.each i hi).1
   ·have:=kj (l:=(s.aa[k]'(by omega)).ai.map fun x=>x.At) h3 (s.aa[k]'(by omega)).ai.length (fun i hi _=>by
     have:=hc.aS i (by simpa using hi)
     simpa [List.map_take] using this)
    rwa [← List.map_take,List.take_length] at this
   ·rcases List.mem_append.1 ha with ha|ha
    ·exact h4 a ha
    ·obtain ⟨x,hx,rfl⟩:=List.mem_map.1 ha;exact hc.may.ME hH x hx
open Go.RowKit
section
variable {P:Program} {n:Nat} {ops:Array Oper} {Q:Exit→Act→World→Prop} {rest:List Oper} {L:Env} {w:World} {d:Nat} {T:TypeId} {pos:String} {af:Array Edge}
end
section
variable {α:Type} {P:Program} {w:World} {lo:Nat} {t e:TypeId} {z:Value} {sz bytes:Nat} {enc : α → List Value} {A X:Option Addr} {n c m d:Nat} {l ys:List α}
theorem xG [S:bu P t e sz] [T:df P e z sz bytes] [E:fw enc sz] (ty:TypeId) (hO:Own w lo e sz enc A n c l) (hS:Sl w sz enc X m ys) (fy:lo≤w.heap.size) (r9 : 0<m)
 (hb:(n+m)*bytes≤140737488355328) (hm:n+m≤maxLen) :
 ∃ A' c' w',(Builtin.append_ #[t,t] ty #[.slice A n c,.slice X m d]).run P w = .ok (.slice A' (n+m) c') w' ∧
  ((A'=A∧c'=c∧Own w' lo e sz enc A (n+m) c (l++ys)∧w.grownBy w' (aU A c))∨(Own w' w.heap.size e sz enc A' (n+m) c' (l++ys)∧w.grownBy w' none)):=by
 obtain ⟨i,hi,hz,hs,ue⟩:=dG P e (z:=z) (sz:=sz) (bytes:=bytes);have Ca:(ys.flatMap enc).length=m*sz:=by rw [a9,hS.len]
 have nO:∀ u∈ys.flatMap enc,u.oneCell'=true:=fun u hu=>by
  obtain ⟨x,_,hx⟩:=List.mem_flatMap.1 hu;exact E.one x u hx
 have Gn:(l++ys).flatMap enc=l.flatMap enc++ys.flatMap enc:=List.flatMap_append
 have mn:(l++ys).length=n+m:=by rw [List.length_append,hO.len,hS.len]
 obtain ⟨ad,rfl⟩:=Option.isSome_iff_exists.1 (hS.base r9);have oX:=dq T.pos hS;have Lm:(l.flatMap enc).length=n*sz:=by rw [a9,hO.len]
 have ve:∀ b,A=some b→c<n+m→(∀ j u,(l.flatMap enc)[j]?=some u→w.cell? (b.add j)=some u) →
  ∃ A' c' w',(Builtin.append_ #[t,t] ty #[.slice A n c,.slice (some ad) m d]).run P w = .ok (.slice A' (n+m) c') w'∧(Own w' w.heap.size e sz enc A' (n+m) c' (l++ys)∧w.grownBy w' none):=by
  rintro b rfl de hold;obtain ⟨v',w',hr,h2,h3⟩:=run_append_arg_grows (P:=P) w t ty e i z sz bytes S.j3 hi hz hs ue T.zc T.pos b n c (l.flatMap enc) Lm hold ad m d (ys.flatMap enc) Ca oX de hm hb;rw [← Gn] at h2;obtain ⟨A',c',rfl,ho⟩:=Own.nA h2 mn;exact ⟨A',c',w',hr,ho,h3⟩
 rcases hO.row with ⟨rfl,rfl⟩|⟨hc,g,gd,rfl,J4,tV,tW,vv,yA,wL⟩
 ·have hl:l=[]:=List.eq_nil_of_length_eq_zero hO.len
  subst hl;cases A with
  | none =>
    obtain ⟨v',w',hr,h2,h3,_⟩:=run_append_own (P:=P) w w.heap.size t ty e i z sz bytes S.j3 hi hz hs ue T.zc T.pos (.slice none 0 0) 0 [] (World.ownsRow_nil _ _ _ _) ad m d (ys.flatMap enc) Ca oX nO hm hb (Nat.le_refl _);obtain ⟨A',c',rfl,ho⟩:=Own.nA (m:=0+m) (l:=[]++ys) (enc:=enc) (by simpa using h2) (by simpa using hS.len);exact ⟨A',c',w',hr,.inr ⟨ho,by simpa [Value.ownBlock] using h3⟩⟩
  | some b =>
    obtain ⟨A',c',w',hr,h⟩:=ve b rfl (by omega) (by simp);exact ⟨A',c',w',hr,.inr h⟩
 ·by_cases jq:n+m≤c
  ·obtain ⟨A',c',w',hr,h1,h2⟩:=mL (P:=P) (t:=t) ty hO hS (d:=d) fy hb hm;have my:=run_append_room (P:=P) w t ty e i S.j3 hi g n c gd tV ad m d (ys.flatMap enc) (by rw [hs];exact Ca) oX nO jq (by rw [hs,Ca,yA,← Nat.add_mul];exact Nat.mul_le_mul_right _ jq);have he:=hr.symm.trans my;injection he with he _
   injection he with e1 _ e3
   subst e1 e3;exact ⟨_,_,w',hr,.inl ⟨rfl,rfl,h1,h2⟩⟩
  ·obtain ⟨A',c',w',hr,h⟩:=ve ⟨g,0,none⟩ rfl (by omega) ((hO.owns hc).cells (g:=g) (by simp [Value.ownBlock]));exact ⟨A',c',w',hr,.inr h⟩
end
theorem SW.v9 {α:Type} {P:Program} {n:Nat} {ops:Array Oper} {Q:Exit→Act→World→Prop} {rest:List Oper} {L:Env} {w:World} {dd:Nat} {T:TypeId} {pos:String} {af:Array Edge}
 {lo:Nat} {t e:TypeId} {z:Value} {sz bytes:Nat} {enc : α → List Value} {A X:Option Addr} {k c m c2:Nat} {l ys:List α} [bu P t e sz] [df P e z sz bytes] [fw enc sz] {x y:Operand}
 (hO:Own w lo e sz enc A k c l) (hS:Sl w sz enc X m ys) (fy:lo≤w.heap.size) (r9 : 0<m) (hx:bR L x=some (.slice A k c)) (hy:bR L y=some (.slice X m c2)) (hn:Nat.blt dd n=true)
 (hb:(k+m)*bytes≤140737488355328) (hm:k+m≤9223372036854775807)
 (h:∀ A' c' w',((A'=A∧c'=c∧Own w' lo e sz enc A (k+m) c (l++ys)∧w.grownBy w' (aU A c))∨(Own w' w.heap.size e sz enc A' (k+m) c' (l++ys)∧w.grownBy w' none))→SW P n ops (.ff Q) rest ((dd,.slice A' (k+m) c')::L) w') :
 SW P n ops (.ff Q) (⟨some dd,.call ⟨.builtin .append,#[x,y],#[t,t]⟩,T,pos,af,none⟩::rest) L w :=
 ⟨fun a ha=>by
  obtain ⟨A',c',w',hr,h1⟩:=xG (P:=P) (t:=t) T hO hS (d:=c2) fy r9 hb (by simp only [maxLen];omega);simp only [swp,wpList,Region.wanted,if_true];refine .inl ?_;unfold Oper.wp
  have:(execOp a.eval ⟨some dd,.call ⟨.builtin .append,#[x,y],#[t,t]⟩,T,pos,af,none⟩).run P w = .ok (.value (.slice A' (k+m) c')) w':=by
   simp [execOp,resolve,invoke,builtin,ha.eval hx,ha.eval hy,hr]
  rw [this,Oper.upon_value];exact (h A' c' w' h1).out _ (ha.put hn _)⟩
open Go.RowKit
set_option maxHeartbeats 4000000 in
theorem tz (A:Option Addr) (n c lo:Nat) (l:List bM) (w:World) (hO:Own w lo 142 4 bq A n c l) (i:Nat) (hi:i≤n) (x:bM) (b:Nat) (hB:aJ w b 142 (bq x)) (cG:aU A c≠some b) (hn:(n+1)*48≤140737488355328) (fy:lo≤w.heap.size) :
 gX Tryz.prog 193 [.slice A n c,.int .i64 (i:Int),.slice (some ⟨b,0,none⟩) 1 1] w fun v w' => ∃ A' c',v = .slice A' (n+1) c'∧Own w' lo 142 4 bq A' (n+1) c' (aV l i x)∧w.grownBy w' (aU A c) ∧ ∀ k,aU A' c'=some k→aU A c=some k∨w.heap.size≤k:=by
 refine dB Tryz.func193 rfl Tryz.ntmps193 rfl ?_;have hle:=hO.le;have mn:=hO.len;have hA:=hO.sl.base;have hw:=Ext.refl w;have jx:Sl w 4 bq (some ⟨b,0,none⟩) 1 [x]:=aJ.mo hB
 have jO:(bq x).length=4:=rfl
 have oQ:∀ q:List bM,(q.flatMap bq).length=q.length*4:=fun q=>a9 q
 have nO:∀ (q:List bM) (v:Value),v∈q.flatMap bq→v.oneCell'=true:=fun q v hv=>by
  obtain ⟨u,_,hu⟩:=List.mem_flatMap.1 hv;exact fw.one (enc:=bq) u v hu
 by_cases cf:i=n
 ·subst cf;repeat' (first|refine Wz ?_|(refine SW.st (bh (k:=i) rfl rfl (by omega) (by omega)) rfl ?_))
  all_goals try omega
  refine SW.v9 hO jx fy (by omega) rfl rfl rfl (by omega) (by omega) fun A2 c2 w2 cU => ?_
  have s8:Own w2 lo 142 4 bq A2 (i+1) c2 (l++[x])∧w.grownBy w2 (aU A c) ∧ ∀ k,aU A2 c2=some k→aU A c=some k∨w.heap.size≤k:=by
   rcases cU with ⟨rfl,rfl,h1,h2⟩|⟨h1,h2⟩
   ·exact ⟨h1,h2,fun k e => .inl e⟩
   ·exact ⟨h1.low fy,(aF (Ext.refl w) h2 (Nat.le_refl _) (fun k e=>by cases e)).gr _,fun k e => .inr (h1.aM k e)⟩
  obtain ⟨gB,hg,kU⟩:=s8;refine Wz ?_;refine ae.aO rfl rfl ⟨_,rfl,A2,c2,rfl,?_,hg,kU⟩;have e:aV l i x=l++[x]:=by unfold aV;rw [List.take_of_length_le (by omega),List.drop_eq_nil_of_le (by omega)];simp
  rw [e];exact gB
 ·by_cases jq:n+1≤c
  ·obtain ⟨g,rest,rfl,h1,h2,h3,h4,h5,h6⟩:=hO.opened (by omega);have AM:g≠b:=fun e=>cG (by rw [h6,e])
   have es:l.flatMap bq++rest=(l.take i).flatMap bq++((l.drop i).flatMap bq++rest):=by rw [← List.append_assoc,← List.flatMap_append,List.take_append_drop]
   have e1:((l.take i).flatMap bq).length=i*4:=by rw [oQ];simp;omega
   have e2:((l.drop i).flatMap bq).length=(n-i)*4:=by rw [oQ];simp [mn]
   have lT:=hO.sl.drop i c (by omega) (by omega);rw [if_neg (by omega)] at lT;rw [es] at h2
   have wU:∀ w',Ext w w'→(Extern.SlicesOverlaps.overlaps #[38,38] #[4] #[.slice (some ⟨b,0,none⟩) 1 1,.slice (if c=i+1 then (some ⟨g,0,none⟩) else (some (⟨g,0,none⟩ : Addr)).map (·.add ((i+1)*4))) (n+1-(i+1)) (c-(i+1))]).run Tryz.prog w' = .ok (.bool false) w':=fun w' hx=>by
    rw [if_neg (by omega),Option.map_some,c7];have b1:=hB.ext hx;have b2:=h2.ext hx;unfold aJ at b1 b2
    exact Lib.run_overlaps_apart w' 38 4 142 (bu.j3 (t:=38)) 4 (fun w0=>run_sizeOf (bu.size (t:=38)) w0) ⟨b,0,none⟩ ⟨g,(i+1)*4,none⟩ 1 1 _ _ (fun e=>AM e.symm) 142 142 (bq x).toArray.size ((l.take i).flatMap bq++((l.drop i).flatMap bq++rest)).toArray.size
     (by simp only [World.shape?,b1]) (by simp only [World.shape?,b2]) (by simp [e1,e2];omega) (by simp [World.frozen?,b1]) (by simp [World.frozen?,b1])
   repeat' (first|refine Wz ?_|(refine CW.bO rfl ?_)|(refine SW.st (bh (k:=i) rfl rfl (by omega) (by omega)) rfl ?_)|(refine SW.st (dg (k:=n+1) rfl rfl (by omega)) rfl ?_)|(refine SW.st (bh (k:=i+1) rfl rfl (by omega) (by omega)) rfl ?_)|(refine SW.entry Tryz.func235 (by kernel_rfl) (by kernel_rfl) (by kernel_rfl) (e:=Extern.SlicesOverlaps.overlaps #[38,38] #[4]) (by kernel_rfl) rfl rfl (wU _ hw) ?_))
   all_goals try omega
   have vt:((n-i)+1)*4≤((l.drop i).flatMap bq++rest).length:=by rw [List.length_append,e2];omega
   have e4:(l.drop i).flatMap bq++rest=((l.drop i).flatMap bq++rest).take 4++(((l.drop i).flatMap bq++rest).drop 4).take ((n-i)*4)++((l.drop i).flatMap bq++rest).drop (4+(n-i)*4):=by
    rw [List.append_assoc,← List.drop_drop,List.take_append_drop,List.take_append_drop]
   generalize CE:((l.drop i).flatMap bq++rest).take 4=D1 at e4
   generalize CF:(((l.drop i).flatMap bq++rest).drop 4).take ((n-i)*4)=D2 at e4
   generalize CG:((l.drop i).flatMap bq++rest).drop (4+(n-i)*4)=D3 at e4
   have f1:D1.length=4:=by rw [← CE];simp only [List.length_take];omega
   have f2:D2.length=(n-i)*4:=by rw [← CF];simp only [List.length_take,List.length_drop];omega
   have f3:D3.length+4=rest.length:=by rw [← CG];simp only [List.length_drop,List.length_append,e2];omega
   rw [e4] at h2;refine CW.any 8 mixed (cj (by kernel_rfl)) rfl fun w1 ab aG => ?_
   replace hw:=Ext.trans hw ab;replace hO:=hO.ext ab;replace hB:=hB.ext ab;replace h2:=h2.ext ab;clear ab;refine Wa ?_;refine SA.take 4 aG rfl (by kernel_rfl) (by kernel_rfl) rfl ?_;repeat ((refine SW.st (bh (k:=i+1) rfl rfl (by omega) (by omega)) rfl ?_))
   refine SW.ah ?_;refine Wa ?_;refine SA.take 7 aG rfl (by kernel_rfl) (by kernel_rfl) rfl ?_;repeat ((refine SW.st (bh (k:=i) rfl rfl (by omega) (by omega)) rfl ?_))
   refine SW.ah ?_;refine SA.done (by kernel_rfl) ?_;refine SW.copy (k:=n-i) ((i+1)*4) ((l.drop i).flatMap bq) h2 rfl rfl rfl (by omega) e2 (by simp only [List.length_append,e1,e2,f1,f2];omega) (fun h0=>⟨by rw [if_neg (by omega)];simp [c7],(⟨g,0,none⟩ : Addr).add (i*4),by rw [if_neg (by omega)];rfl,fun j v hv=>dq (by omega) (lT.ext hw) j v hv⟩) (nO _) fun w3 mx tW => ?_
   have g1:=eR ((l.take i).flatMap bq++D1) D2 D3 ((l.drop i).flatMap bq) (by rw [e2,f2]) (o:=(i+1)*4) (by rw [List.length_append,e1,f1];omega);have g0:(l.take i).flatMap bq++(D1++D2++D3)=(l.take i).flatMap bq++D1++D2++D3:=by simp only [List.append_assoc]
   rw [g0,g1] at mx;have EL:=bQ (hw.gr (aU (some ⟨g,0,none⟩) c)) tW (.inl h6.symm);have IF:=hB.grown tW (by simpa using fun e=>AM e.symm);repeat' (first|refine Wz ?_|(refine SW.st (bh (k:=i) rfl rfl (by omega) (by omega)) rfl ?_))
   refine SW.copy (k:=1) (i*4) (bq x) mx rfl rfl rfl (by omega) jO (by simp only [List.length_append,e1,e2,f1,jO];omega) (fun h0=>⟨by rw [if_neg (by omega)];simp [c7],⟨b,0,none⟩,rfl,fun j v hv=>IF.cell hv⟩) (fw.one (enc:=bq) x) fun w4 mT vv => ?_
   have g2:=eR ((l.take i).flatMap bq) D1 ((l.drop i).flatMap bq++D3) (bq x) (by rw [jO,f1]) (o:=i*4) e1.symm;have g3:(l.take i).flatMap bq++D1++(l.drop i).flatMap bq++D3=(l.take i).flatMap bq++D1++((l.drop i).flatMap bq++D3):=by simp only [List.append_assoc]
   have g4:(l.take i).flatMap bq++bq x++((l.drop i).flatMap bq++D3)=(aV l i x).flatMap bq++D3:=by unfold aV;simp only [List.flatMap_append,List.flatMap_cons,List.flatMap_nil,List.append_nil,List.append_assoc]
   rw [g3,g2,g4] at mT;have CH:=Own.closed (n:=n+1) (c:=c) (l:=aV l i x) (by unfold aV;simp;omega) mT (by omega) jq (by omega) h5 h1;have CI:=bQ EL vv (.inl h6.symm);refine Wz ?_;exact ae.aO rfl rfl ⟨_,rfl,_,_,rfl,CH,CI,fun k e => .inl e⟩
  ·have FJ:c=n:=by omega
   have lT:=hO.sl.drop i c (by omega) (by omega);have qb:=hO.sl.pre (i:=i) (by omega);repeat' (first|refine Wz ?_|(refine SW.st (bh (k:=i) rfl rfl (by omega) (by omega)) rfl ?_)|(refine SW.st (dg (k:=i) rfl rfl (by omega)) rfl ?_))
   all_goals try omega
   refine SW.vE (k:=n+1-i) qb Tryz.underlying3 rfl rfl (by omega) rfl (by omega) (by omega) (by omega) (by omega) fun g rest c2 w2 cq tV h2 h3 h4 h5 => ?_
   have e1:((l.take i).flatMap bq).length=i*4:=by rw [oQ];simp;omega
   have e2:((l.drop i).flatMap bq).length=(n-i)*4:=by rw [oQ];simp [mn]
   have vt:((n-i)+1)*4≤rest.length:=by omega
   have e4:rest=rest.take 4++(rest.drop 4).take ((n-i)*4)++rest.drop (4+(n-i)*4):=by
    rw [List.append_assoc,← List.drop_drop,List.take_append_drop,List.take_append_drop]
   generalize CE:rest.take 4=D1 at e4
   generalize CF:(rest.drop 4).take ((n-i)*4)=D2 at e4
   generalize CG:rest.drop (4+(n-i)*4)=D3 at e4
   have f1:D1.length=4:=by rw [← CE];simp only [List.length_take];omega
   have f2:D2.length=(n-i)*4:=by rw [← CF];simp only [List.length_take,List.length_drop];omega
   have f3:D3.length+((n-i)+1)*4=rest.length:=by rw [← CG];simp only [List.length_drop];omega
   rw [e4] at h2;have dw:aU A c≠some g:=fun e=>by have:=hO.lt_size _ e;omega
   have AM:b≠g:=by have:=hB.lt;omega
   replace lT:=lT.ext cq;replace hB:=hB.ext cq;replace hw:=Ext.trans hw cq;repeat' (first|refine Wz ?_|(refine SW.st (bh (k:=i) rfl rfl (by omega) (by omega)) rfl ?_))
   refine SW.copy (k:=1) (i*4) (bq x) h2 rfl rfl rfl (by omega) jO (by simp only [List.length_append,e1,f1,f2,jO];omega) (fun h0=>⟨by rw [if_neg (by omega)];simp [c7],⟨b,0,none⟩,rfl,fun j v hv=>hB.cell hv⟩) (fw.one (enc:=bq) x) fun w3 mx tW => ?_
   have g2:=eR ((l.take i).flatMap bq) D1 (D2++D3) (bq x) (by rw [jO,f1]) (o:=i*4) e1.symm;have g3:(l.take i).flatMap bq++(D1++D2++D3)=(l.take i).flatMap bq++D1++(D2++D3):=by simp only [List.append_assoc]
   rw [g3,g2] at mx;have tX:Ext w w3:=hw.own tV tW
   have kF:Sl w3 4 bq (if c=i then A else A.map (·.add (i*4))) (n-i) (l.drop i):=(hO.sl.drop i c (by omega) (by omega)).ext tX
   replace hw:=tX;refine Wz ?_;refine CW.any 8 mixed (cj (by kernel_rfl)) rfl fun w1 ab aG => ?_
   replace hw:=Ext.trans hw ab;replace mx:=mx.ext ab;replace kF:=kF.ext ab;clear ab;refine Wa ?_;refine SA.take 4 aG rfl (by kernel_rfl) (by kernel_rfl) rfl ?_;repeat ((refine SW.st (bh (k:=i+1) rfl rfl (by omega) (by omega)) rfl ?_))
   refine SW.ah ?_;refine Wa ?_;refine SA.take 7 aG rfl (by kernel_rfl) (by kernel_rfl) rfl ?_;repeat ((refine SW.st (bh (k:=i) rfl rfl (by omega) (by omega)) rfl ?_))
   refine SW.ah ?_;refine SA.done (by kernel_rfl) ?_;refine SW.copy (k:=n-i) ((i+1)*4) ((l.drop i).flatMap bq) mx rfl rfl rfl (by omega) e2 (by simp only [List.length_append,e1,e2,f2,jO];omega) (fun h0=>⟨by rw [if_neg (by omega)];simp [c7],(if c=i then A else A.map (·.add (i*4))).getD default,?_,fun j v hv=>dq (by omega) kF j v hv⟩) (nO _) fun w4 mT vv => ?_
   ·obtain ⟨a,ha⟩:=Option.isSome_iff_exists.1 (kF.base h0);rw [ha];rfl
   ·have g4:=eR ((l.take i).flatMap bq++bq x) D2 D3 ((l.drop i).flatMap bq) (by rw [e2,f2]) (o:=(i+1)*4) (by rw [List.length_append,e1,jO];omega);have g5:(l.take i).flatMap bq++bq x++(D2++D3)=(l.take i).flatMap bq++bq x++D2++D3:=by simp only [List.append_assoc]
    have g6:(l.take i).flatMap bq++bq x++(l.drop i).flatMap bq++D3=(aV l i x).flatMap bq++D3:=by unfold aV;simp only [List.flatMap_append,List.flatMap_cons,List.flatMap_nil,List.append_nil,List.append_assoc]
    rw [g5,g4,g6] at mT;have CH:=Own.closed (n:=n+1) (c:=c2) (lo:=lo) (l:=aV l i x) (by unfold aV;simp;omega) mT (by omega) (by omega) (by omega) h5 (by omega);have iK:Ext w w4:=hw.own tV vv
    have e9:i+(n+1-i)=n+1:=by omega
    refine Wz ?_;rw [e9]
    exact ae.aO rfl rfl ⟨_,rfl,_,_,rfl,CH,iK.gr _,fun k e => .inr (by
     have:k=g:=by
      unfold aU at e;split at e
      ·cases e
      ·simpa using e.symm
     omega)⟩
open Go.RowKit
theorem SW.ik {α:Type} {P:Program} {n:Nat} {ops:Array Oper} {Q:Exit→Act→World→Prop} {rest:List Oper} {L:Env} {w:World} {T:TypeId} {pos:String} {af:Array Edge} {lo:Nat} {e:TypeId} {sz:Nat} {enc : α → List Value} [E:fw enc sz] {A:Option Addr} {m c:Nat} {l:List α} {t:TypeId} [G:gz P t sz] {x y:Operand} (k:Nat) (x' : α)
 (hO:Own w lo e sz enc A m c l) (hx:bR L x=some (.pointer (some ((A.getD default).add (k*sz))))) (hy:bR L y=some (.agg (enc x').toArray)) (hk:k<m)
 (h:∀ w',Own w' lo e sz enc A m c (l.set k x')→w.grownBy w' (aU A c)→SW P n ops (.ff Q) rest L w') : SW P n ops (.ff Q) (⟨none,.store t x y,T,pos,af,none⟩::rest) L w :=
 ⟨fun a ha=>by
  have hc : 0<c:=by have:=hO.le;omega
  obtain ⟨g,r,rfl,fy,hB,hr,N8,N9,how⟩:=hO.opened hc;have dk:k<l.length:=by rw [hO.len];exact hk
  have nF:(k+1)*sz≤m*sz:=Nat.mul_le_mul_right _ hk
  rw [Nat.add_mul,Nat.one_mul] at nF;have oQ:(l.flatMap enc).length=m*sz:=by rw [a9,hO.len]
  have e0:(((some (⟨g,0,none⟩ : Addr)).getD default).add (k*sz))=⟨g,k*sz,none⟩:=c7 g _
  rw [e0] at hx;have el:l=l.take k++[l[k]]++l.drop (k+1):=by simp
  have hX:((l.take k).flatMap enc).length=k*sz:=by rw [a9,List.length_take,Nat.min_eq_left (by omega)]
  have e1:l.flatMap enc++r=(l.take k).flatMap enc++enc l[k]++((l.drop (k+1)).flatMap enc++r):=by
   have e3:l.flatMap enc=(l.take k++[l[k]]++l.drop (k+1)).flatMap enc:=by rw [← el]
   rw [e3,List.flatMap_append,List.flatMap_append];simp only [List.flatMap_cons,List.flatMap_nil,List.append_nil,List.append_assoc]
  have rO:=run_storeCells_at P g (k*sz) e (enc x') 0 (l.flatMap enc++r).toArray w hB (by simp only [List.size_toArray,List.length_append,oQ,E.len];omega) (E.one x')
  have e2:((l.flatMap enc++r).toArray.toList.take (k*sz+0)++enc x'++(l.flatMap enc++r).toArray.toList.drop (k*sz+0+(enc x').length))=(l.set k x').flatMap enc++r:=by
   have:=eR ((l.take k).flatMap enc) (enc l[k]) ((l.drop (k+1)).flatMap enc++r) (enc x') (by rw [E.len,E.len]) hX.symm
   rw [← e1] at this;unfold lay at this;simp only [Nat.add_zero];rw [this,List.set_eq_take_append_cons_drop,if_pos dk];simp
  rw [e2] at rO;simp only [swp,wpList,Region.wanted,if_true];refine .inl ?_;unfold Oper.wp
  have zh:(execOp a.eval ⟨none,.store t x y,T,pos,af,none⟩).run P w = .ok .skip (w.setRow g ((l.set k x').flatMap enc++r).toArray):=by
   simp [execOp,ha.eval hx,ha.eval hy,Instr.storeAt,Instr.sureAddr,storeVar,Value.cells,run_sizeOf G.size,E.len,rO]
  rw [zh,Oper.upon_skip];obtain ⟨rq,wZ⟩:=ew (cs:=(l.set k x').flatMap enc++r) hB;refine (h _ (Own.closed (by rw [List.length_set];exact hO.len) rq hr N8 hc N9 fy) ?_).out _ ha;rw [how];exact wZ⟩
open Go.RowKit
structure dT (w:World) (lo g c:Nat) (u0 u1:cy) (s:ar×ar) : Prop where
 row:Own w lo 139 4 bp (some ⟨g,0,none⟩) 2 c [u0,u1]
 z0:eY w lo u0 s.1
 z1:eY w lo u1 s.2
 zm:lo≤g
 pos : 0<c
section
variable {w w':World} {lo mm g c t:Nat} {u0 u1:cy} {s:ar×ar}
theorem dT.ext (h:dT w lo g c u0 u1 s) (hx:Ext w w') : dT w' lo g c u0 u1 s:=⟨h.row.ext hx,h.z0.ext hx,h.z1.ext hx,h.zm,h.pos⟩
theorem dT.ay (h:dT w lo g c u0 u1 s) (hG:oa w w' t) (cG:(Nat.beq t 139 || (Nat.beq t 3 || Nat.beq t 165))=false) : dT w' lo g c u0 u1 s:=by
 rw [Bool.or_eq_false_iff] at cG;exact ⟨h.row.ay hG cG.1,h.z0.ay hG cG.2,h.z1.ay hG cG.2,h.zm,h.pos⟩
theorem dT.own (h:dT w lo g c u0 u1 s) : aU (some (⟨g,0,none⟩ : Addr)) c=some g:=by simp [aU,Nat.pos_iff_ne_zero.1 h.pos]
theorem dT.gr (h:dT w lo g c u0 u1 s) (hg:w.grownBy w' (some g)) : oa w w' 139:=h.row.gr (by rw [h.own];exact hg)
theorem kM {u:cy} {z:ar} (h:eY w lo u z) (hz:bU z) : (u.ag.n+1)*24≤140737488355328∧u.Types.n*8≤140737488355328∧(0≤u.aX∧u.aX≤256)∧(0≤u.To∧u.To≤256):=by
 have e1:=h.free.sl.len;have e2:=h.types.sl.len;have e3:=h.from_;have e4:=h.j6;have hl:=ka hz;obtain ⟨o1,o2,o3,o4,o5⟩:=hz.ok;refine ⟨Nat.le_trans (Nat.mul_le_mul_right 24 (show u.ag.n+1≤258 by omega)) (by decide),by omega,by omega,by omega⟩
end
theorem Bt (r:eB) (u0 u1:cy) (p:Int) (w:World) (hz:Sl w 4 bp r.aQ.A r.aQ.n [u0,u1]) :
 bo Tryz.prog 110 [.agg (bm r).toArray,.int .i64 p] w fun v _=>v = .int .i64 (if p<u0.To then 0 else 1):=by
 refine aI Tryz.func110 rfl Tryz.ntmps110 rfl ?_;refine CW.seq (CW.region (SW.box rfl rfl fun b1 w1 hw gV aB => ?_));have hA:=hz.base;have hn : 2=r.aQ.n:=hz.len
 have h0 : 0<r.aQ.n:=by omega
 have f0:=hz.dA h0 (j:=1) (u := .int .i64 u0.To) rfl;repeat' (first|refine Wz ?_|(refine CW.jG rfl (fun h => ?_) (fun h => ?_))|refine SW.st (ap hw rfl f0) rfl ?_)
 all_goals
  refine ae.aO rfl rfl ⟨_,rfl,hw,?_⟩
  first|(rw [if_pos (by omega)])|(rw [if_neg (by omega)])
theorem xH (r:eB) (u0 u1:cy) (p:Int) (w:World) (hz:Sl w 4 bp r.aQ.A r.aQ.n [u0,u1]) :
 bo Tryz.prog 126 [.agg (bm r).toArray,.int .i64 p] w fun v _=>v = .int .i64 (if p<u1.aX then 0 else 1):=by
 refine aI Tryz.func126 rfl Tryz.ntmps126 rfl ?_;refine CW.seq (CW.region (SW.box rfl rfl fun b1 w1 hw gV aB => ?_));have hA:=hz.base;have hn : 2=r.aQ.n:=hz.len
 have h0 : 1<r.aQ.n:=by omega
 have f0:=hz.dA h0 (j:=0) (u := .int .i64 u1.aX) rfl;repeat' (first|refine Wz ?_|(refine CW.jG rfl (fun h => ?_) (fun h => ?_))|refine SW.st (ap hw rfl f0) rfl ?_)
 all_goals
  refine ae.aO rfl rfl ⟨_,rfl,hw,?_⟩
  first|(rw [if_pos (by omega)])|(rw [if_neg (by omega)])
def E6 (w:World) (lo g c:Nat) (s:ar×ar) (b:Block) (w':World) : Prop:=w.grownBy w' (some g) ∧ ∃ u0 u1,dT w' lo g c u0 u1 (iG s b)
theorem we (m:fF) (cp:Int) (li lv:fF) (u0 u1:cy) (s:ar×ar) (bs:List Block) (b:Block) (lo g c:Nat) (w:World) (hZ:dT w lo g c u0 u1 s) (fy:lo≤w.heap.size) (hD:nT s bs) (hN:qS bs b) :
 gX Tryz.prog 125 [.agg (bm ⟨⟨some ⟨g,0,none⟩,2,c⟩,m,cp,li,lv⟩).toArray,.int .i64 b.At,.int .i64 b.Order] w fun v w'=>v = .agg (bm ⟨⟨some ⟨g,0,none⟩,2,c⟩,m,cp,li,lv⟩).toArray∧E6 w lo g c s b w':=by
 refine dB Tryz.func125 rfl Tryz.ntmps125 rfl ?_;refine CW.seq (CW.region (SW.box rfl rfl fun b3 w1 hw bH aq => ?_));refine SW.alloc rfl fun b6 w2 cq eg aw => ?_
 have cu:w.heap.size≤b6:=Nat.le_trans hw.size eg
 (replace hw:=Ext.trans hw cq;replace aq:=aq.ext cq);replace hZ:=hZ.ext hw;have eT:=hZ.z0.j6;have eF:=hZ.z1.from_;have eM:=hD.Ao;obtain ⟨q1,q2,q3,q4⟩:=kM hZ.z0 hD.nU;obtain ⟨p1,p2,p3,p4⟩:=kM hZ.z1 hD.mH;have hA:=hZ.row.sl.base;have cz:∀ w',Sl w' 4 bp (some ⟨g,0,none⟩) 2 [u0,u1]→bo Tryz.prog 126 [.agg (bm ⟨⟨some ⟨g,0,none⟩,2,c⟩,m,cp,li,lv⟩).toArray,.int .i64 b.At] w' fun v _=>v = .int .i64 (if b.At<u1.aX then 0 else 1):=fun w' h=>xH ⟨⟨some ⟨g,0,none⟩,2,c⟩,m,cp,li,lv⟩ u0 u1 b.At w' h
 by_cases hx:b.At<u1.aX
 ·have eP:iG s b=((iM s.1 b.At b.Order).2,s.2):=by unfold iG;rw [if_pos (by omega)]
  simp only [if_pos hx] at cz;have k0 : 0<2:=by omega
  repeat' (first|refine Wz ?_|(refine SW.call rfl rfl (cz _ hZ.row.sl) ?_;intro v w1 ab hv;subst hv;replace hw:=Ext.trans hw ab;replace aq:=aq.ext ab;replace aw:=aw.ext ab;replace hZ:=hZ.ext ab;clear ab))
  repeat' (first|refine Wz ?_|refine SW.st (aW rfl rfl ((hZ.row.sl.all k0))) rfl ?_)
  refine SW.call rfl rfl (sx u0 s.1 b.At b.Order _ hZ.z0.rd q1 q2 ⟨by omega,by omega⟩ ⟨by omega,by omega⟩) fun v w4 aj hv => ?_
  obtain ⟨u',rfl,iR⟩:=hv;replace iR:=iR.low (Nat.le_trans fy hw.size);(replace hw:=Ext.trans hw aj;replace aq:=aq.ext aj;replace aw:=aw.ext aj;replace hZ:=hZ.ext aj);refine Wz ?_;refine SW.alloc rfl fun b8 w1 ab kY bw => ?_
  skip;refine SW.ak bw rfl rfl rfl rfl (cJ u') fun w2 iU hg => ?_
  have aj:=ab.own kY hg;have jr:w.heap.size≤b8:=Nat.le_trans hw.size kY
  replace hw:=Ext.trans hw aj;replace aq:=aq.ext aj;replace aw:=aw.ext aj;replace hZ:=hZ.ext aj;replace iR:=iR.ext aj;replace bw:=iU;clear iU ab hg aj;refine Wz ?_;refine SW.ik (enc:=bp) 0 u' hZ.row rfl rfl k0 fun w5 hO hg => ?_
  rw [hZ.own] at hg;have hG:=hZ.gr hg;have wT:=bQ (hw.gr (some g)) hg (.inl rfl);have Ci:dT w5 lo g c u' u1 (iG s b):=by rw [eP];exact ⟨hO,iR.ay hG rfl,hZ.z1.ay hG rfl,hZ.zm,hZ.pos⟩
  clear hZ iR bw cz hO;(replace aq:=aq.ay hG rfl;replace aw:=aw.ay hG rfl);have jW:=Ext.refl w5;clear hw;have hw:=jW;refine Wz ?_;refine SW.ak aw rfl rfl rfl rfl (cn ⟨⟨some ⟨g,0,none⟩,2,c⟩,m,cp,li,lv⟩) fun w6 bF hg => ?_
  have hG:=aw.gr hg;replace wT:=bQ wT hg (.inr fun i e=>by cases e;exact cu);refine Wz ?_;exact ae.mr rfl rfl bF rfl ⟨_,rfl,rfl,wT,u',u1,Ci.ay hG rfl⟩
 ·have eP:iG s b=(s.1,(iM s.2 b.At b.Order).2):=by unfold iG;rw [if_neg (by omega)]
  simp only [if_neg hx] at cz;have k0 : 1<2:=by omega
  repeat' (first|refine Wz ?_|(refine SW.call rfl rfl (cz _ hZ.row.sl) ?_;intro v w1 ab hv;subst hv;replace hw:=Ext.trans hw ab;replace aq:=aq.ext ab;replace aw:=aw.ext ab;replace hZ:=hZ.ext ab;clear ab))
  repeat' (first|refine Wz ?_|refine SW.st (aW rfl rfl ((hZ.row.sl.all k0))) rfl ?_)
  refine SW.call rfl rfl (sx u1 s.2 b.At b.Order _ hZ.z1.rd p1 p2 ⟨by omega,by omega⟩ ⟨by omega,by omega⟩) fun v w4 aj hv => ?_
  obtain ⟨u',rfl,iR⟩:=hv;replace iR:=iR.low (Nat.le_trans fy hw.size);(replace hw:=Ext.trans hw aj;replace aq:=aq.ext aj;replace aw:=aw.ext aj;replace hZ:=hZ.ext aj);refine Wz ?_;refine SW.alloc rfl fun b8 w1 ab kY bw => ?_
  skip;refine SW.ak bw rfl rfl rfl rfl (cJ u') fun w2 iU hg => ?_
  have aj:=ab.own kY hg;have jr:w.heap.size≤b8:=Nat.le_trans hw.size kY
  replace hw:=Ext.trans hw aj;replace aq:=aq.ext aj;replace aw:=aw.ext aj;replace hZ:=hZ.ext aj;replace iR:=iR.ext aj;replace bw:=iU;clear iU ab hg aj;refine Wz ?_;refine SW.ik (enc:=bp) 1 u' hZ.row rfl rfl k0 fun w5 hO hg => ?_
  rw [hZ.own] at hg;have hG:=hZ.gr hg;have wT:=bQ (hw.gr (some g)) hg (.inl rfl);have Ci:dT w5 lo g c u0 u' (iG s b):=by rw [eP];exact ⟨hO,hZ.z0.ay hG rfl,iR.ay hG rfl,hZ.zm,hZ.pos⟩
  clear hZ iR bw cz hO;(replace aq:=aq.ay hG rfl;replace aw:=aw.ay hG rfl);have jW:=Ext.refl w5;clear hw;have hw:=jW;refine Wz ?_;refine SW.ak aw rfl rfl rfl rfl (cn ⟨⟨some ⟨g,0,none⟩,2,c⟩,m,cp,li,lv⟩) fun w6 bF hg => ?_
  have hG:=aw.gr hg;replace wT:=bQ wT hg (.inr fun i e=>by cases e;exact cu);refine Wz ?_;exact ae.mr rfl rfl bF rfl ⟨_,rfl,rfl,wT,u0,u',Ci.ay hG rfl⟩
end Go.Proofs.YtbidkghlpijecaaGreatDoor
