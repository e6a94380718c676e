/-
  Texts of the claim SlabAllocs, part 21: what its theorem leans on.
-/
import Derived.Test.YtjimadiidbkohaaGreatDoorPackSlabAllocs10
import Derived.Test.YtjimadiidbkohaaGreatDoorPackSlabAllocs2
import Derived.Test.YtjimadiidbkohaaGreatDoorPackSlabAllocs15
import Derived.Test.YtjimadiidbkohaaGreatDoorPackSlabAllocs16
set_option linter.unusedVariables false
set_option linter.unusedSimpArgs false
namespace Go.Proofs.YtjimadiidbkohaaGreatDoor
open Go.RowKit
set_option maxHeartbeats 4000000 in
theorem zb (r:dV) (s:aF) (w:World) (hr:ry w r s) (hs:s.small) :
 bt Tryz.prog 25 [.agg (aU r).toArray] w fun v w' => ∃ q zr,v = .agg (aU q).toArray∧SX w' w.heap.size q s zr∧SI w' w.heap.size q s zr:=by
 refine aL Tryz.func25 rfl Tryz.ntmps25 rfl ?_;refine CW.seq (CW.region (SW.box rfl rfl fun b1 w1 hw gK aA => ?_));refine SW.alloc rfl fun b2 w2 cw gQ aK => ?_
 have pH:w.heap.size≤b2:=Nat.le_trans hw.size gQ
 have yg:b2≠b1:=by have:=aA.lt;omega
 (replace hw:=Ext.trans hw cw;replace aA:=aA.ext cw);obtain ⟨cs,hc⟩:=hr.dN;have Hh:=hr.words.len;have s1:=hs.words;have s3:=hs.dN;obtain ⟨c1,c2⟩:=hc.len;refine Wz ?_
 obtain ⟨K,hK⟩ : ∃ K:Env→World→Prop,K=fun L' w' => ∃ X c1 G b3 m1 m2,ev L' [(1,.pointer (some ⟨b1,0,none⟩)),(2,.pointer (some ⟨b2,0,none⟩)),(3,.pointer (some ⟨b3,0,none⟩))]∧Ext w w'∧aJ w' b1 30 (aU r)∧aJ w' b2 30 (aU .zero) ∧
  aJ w' b3 30 (aU ⟨⟨X,r.Words.n,c1⟩,G,.nil⟩)∧Own w' w.heap.size 3 1 bh X r.Words.n c1 s.Words∧fw w' m1 m2 G s.Heap∧(w.heap.size≤m1∧m1≤m2∧m2≤w'.heap.size ∧ ∀ g,aT X c1=some g→g<m1)∧w.heap.size≤b3∧b1≠b3∧b2≠b3:=⟨_,rfl⟩
 refine CW.cut K ?_ ?_
 ·refine CW.any 8 mixed (cl (by kernel_rfl)) rfl fun w1 ab aG => ?_
  replace hw:=Ext.trans hw ab;replace aA:=aA.ext ab;replace aK:=aK.ext ab;clear ab;refine Wa ?_;refine SA.take 4 aG rfl (by kernel_rfl) (by kernel_rfl) rfl ?_;repeat ((show SW _ _ _ _ (⟨_,Op.load _ _,_,_,_,none⟩::_) _ _;refine SW.st (aX rfl rfl ((gR aA))) rfl ?_))
  refine SW.ah ?_;refine SA.two 2 7 rfl rfl (by kernel_rfl) rfl rfl ?_ ?_
  ·refine SW.call rfl rfl (ef _ _ _ _ _ (hr.words.ext hw) (by omega)) fun v w4 aj hv => ?_
   obtain ⟨X,c4,rfl,hX⟩:=hv;replace hX:=hX.low hw.size;replace hw:=Ext.trans hw aj;replace aA:=aA.ext aj;replace aK:=aK.ext aj;try replace ar:=ar.ext aj
   refine SW.nil (ae.sa aj ?_);refine SA.two 5 7 rfl rfl (by kernel_rfl) rfl rfl ?_ ?_
   ·refine SW.call rfl rfl (pU _ _ _ (hr.heap.ext hw) hs.heap) fun v w4 aj hv => ?_
    obtain ⟨G,rfl,hY⟩:=hv;have Dh:∃ m1 m2,w.heap.size≤m1∧m1≤m2∧m2≤w4.heap.size∧(∀ g,aT X c4=some g→g<m1)∧fw w4 m1 m2 G s.Heap:=⟨_,_,hw.size,aj.size,Nat.le_refl _,hX.lt_size,hY.lU⟩
    clear hY;obtain ⟨m1,m2,qd,kX,qe,zd,hY⟩:=Dh;replace hX:=hX.ext aj;replace hw:=Ext.trans hw aj;replace aA:=aA.ext aj;replace aK:=aK.ext aj;try replace ar:=ar.ext aj
    refine SW.nil (ae.sa aj ?_);refine Wa ?_;refine SA.one 7 rfl (by kernel_rfl) rfl ?_;refine SW.alloc rfl fun b3 w4 aj bK ar => ?_
    have cn:w.heap.size≤b3:=Nat.le_trans hw.size bK
    try replace qe:=Nat.le_trans qe aj.size
    have eu:b1≠b3:=by have:=aA.lt;omega
    have ed:b2≠b3:=by have:=aK.lt;omega
    replace hw:=Ext.trans hw aj;replace aA:=aA.ext aj;replace aK:=aK.ext aj;try replace hX:=hX.ext aj
    try replace hY:=hY.ext aj
    refine SW.nil (ae.sa aj ?_);refine SA.done (by kernel_rfl) ?_;skip;refine SW.ap ar rfl rfl rfl rfl (dD ⟨⟨X,r.Words.n,c4⟩,G,.nil⟩) fun w5 bP hg => ?_
    have hG:=ar.gr hg;have vW:=Nat.le_trans qe hg.size;replace hw:=hw.own cn hg;(replace hX:=hX.ay hG rfl;replace hY:=hY.ay hG rfl);replace aA:=aA.grown hg (by simpa using eu);replace aK:=aK.grown hg (by simpa using ed);refine Wz ?_;exact ae.cut (K:=K) (by rw [hK];exact ⟨X,c4,G,b3,m1,m2,⟨rfl,rfl,rfl,trivial⟩,hw,aA,aK,bP,hX,hY,⟨qd,kX,vW,zd⟩,cn,eu,ed⟩)
   ·refine SW.alloc rfl fun b3 w4 aj bK ar => ?_
    have cn:w.heap.size≤b3:=Nat.le_trans hw.size bK
    try replace qe:=Nat.le_trans qe aj.size
    have eu:b1≠b3:=by have:=aA.lt;omega
    have ed:b2≠b3:=by have:=aK.lt;omega
    replace hw:=Ext.trans hw aj;replace aA:=aA.ext aj;replace aK:=aK.ext aj;try replace hX:=hX.ext aj
    try replace hY:=hY.ext aj
    refine SW.nil (ae.sa aj ?_);refine SA.one 5 rfl (by kernel_rfl) rfl ?_;refine SW.call rfl rfl (pU _ _ _ (hr.heap.ext hw) hs.heap) fun v w4 aj hv => ?_
    obtain ⟨G,rfl,hY⟩:=hv;have Dh:∃ m1 m2,w.heap.size≤m1∧m1≤m2∧m2≤w4.heap.size∧(∀ g,aT X c4=some g→g<m1)∧fw w4 m1 m2 G s.Heap:=⟨_,_,hw.size,aj.size,Nat.le_refl _,hX.lt_size,hY.lU⟩
    clear hY;obtain ⟨m1,m2,qd,kX,qe,zd,hY⟩:=Dh;replace hX:=hX.ext aj;replace hw:=Ext.trans hw aj;replace aA:=aA.ext aj;replace aK:=aK.ext aj;try replace ar:=ar.ext aj
    refine SW.nil (ae.sa aj ?_);refine Wa ?_;refine SA.done (by kernel_rfl) ?_;skip;refine SW.ap ar rfl rfl rfl rfl (dD ⟨⟨X,r.Words.n,c4⟩,G,.nil⟩) fun w5 bP hg => ?_
    have hG:=ar.gr hg;have vW:=Nat.le_trans qe hg.size;replace hw:=hw.own cn hg;(replace hX:=hX.ay hG rfl;replace hY:=hY.ay hG rfl);replace aA:=aA.grown hg (by simpa using eu);replace aK:=aK.grown hg (by simpa using ed);refine Wz ?_;exact ae.cut (K:=K) (by rw [hK];exact ⟨X,c4,G,b3,m1,m2,⟨rfl,rfl,rfl,trivial⟩,hw,aA,aK,bP,hX,hY,⟨qd,kX,vW,zd⟩,cn,eu,ed⟩)
  ·refine SW.alloc rfl fun b3 w4 aj bK ar => ?_
   have cn:w.heap.size≤b3:=Nat.le_trans hw.size bK
   try replace qe:=Nat.le_trans qe aj.size
   have eu:b1≠b3:=by have:=aA.lt;omega
   have ed:b2≠b3:=by have:=aK.lt;omega
   replace hw:=Ext.trans hw aj;replace aA:=aA.ext aj;replace aK:=aK.ext aj;try replace hX:=hX.ext aj
   try replace hY:=hY.ext aj
   refine SW.nil (ae.sa aj ?_);refine SA.one 2 rfl (by kernel_rfl) rfl ?_;refine SW.call rfl rfl (ef _ _ _ _ _ (hr.words.ext hw) (by omega)) fun v w4 aj hv => ?_
   obtain ⟨X,c4,rfl,hX⟩:=hv;replace hX:=hX.low hw.size;replace hw:=Ext.trans hw aj;replace aA:=aA.ext aj;replace aK:=aK.ext aj;try replace ar:=ar.ext aj
   refine SW.nil (ae.sa aj ?_);refine SA.one 5 rfl (by kernel_rfl) rfl ?_;refine SW.call rfl rfl (pU _ _ _ (hr.heap.ext hw) hs.heap) fun v w4 aj hv => ?_
   obtain ⟨G,rfl,hY⟩:=hv;have Dh:∃ m1 m2,w.heap.size≤m1∧m1≤m2∧m2≤w4.heap.size∧(∀ g,aT X c4=some g→g<m1)∧fw w4 m1 m2 G s.Heap:=⟨_,_,hw.size,aj.size,Nat.le_refl _,hX.lt_size,hY.lU⟩
   clear hY;obtain ⟨m1,m2,qd,kX,qe,zd,hY⟩:=Dh;replace hX:=hX.ext aj;replace hw:=Ext.trans hw aj;replace aA:=aA.ext aj;replace aK:=aK.ext aj;try replace ar:=ar.ext aj
   refine SW.nil (ae.sa aj ?_);refine Wa ?_;refine SA.done (by kernel_rfl) ?_;skip;refine SW.ap ar rfl rfl rfl rfl (dD ⟨⟨X,r.Words.n,c4⟩,G,.nil⟩) fun w5 bP hg => ?_
   have hG:=ar.gr hg;have vW:=Nat.le_trans qe hg.size;replace hw:=hw.own cn hg;(replace hX:=hX.ay hG rfl;replace hY:=hY.ay hG rfl);replace aA:=aA.grown hg (by simpa using eu);replace aK:=aK.grown hg (by simpa using ed);refine Wz ?_;exact ae.cut (K:=K) (by rw [hK];exact ⟨X,c4,G,b3,m1,m2,⟨rfl,rfl,rfl,trivial⟩,hw,aA,aK,bP,hX,hY,⟨qd,kX,vW,zd⟩,cn,eu,ed⟩)
 ·clear aA aK hw;subst hK;rintro L' w' ⟨X,c4,G,b3,m1,m2,fq,hw,aA,aK,ar,hX,hY,⟨qd,kX,vW,zd⟩,cn,eu,ed⟩
  refine ae.sub fq ?_;refine Wz ?_
  refine CW.loop (fun s:Nat×Option Addr×Nat×List dn=>[(2,.pointer (some ⟨b2,0,none⟩)),(3,.pointer (some ⟨b3,0,none⟩)),(14,.slice r.aa.A r.aa.n r.aa.c),(15,.int .i64 (r.aa.n:Int)),(16,.int .i64 (s.1:Int))])
   (fun t w'=>t.1≤r.aa.n∧m2≤w'.heap.size∧Ext w w'∧aJ w' b2 30 (aU .zero)∧aJ w' b3 30 (aU ⟨⟨X,r.Words.n,c4⟩,G,⟨t.2.1,t.1,t.2.2.1⟩⟩)∧Own w' w.heap.size 3 1 bh X r.Words.n c4 s.Words∧fw w' m1 m2 G s.Heap ∧
     eE w' m2 ⟨t.2.1,t.1,t.2.2.1⟩ t.2.2.2 (s.aa.take t.1)∧vq ⟨X,r.Words.n,c4⟩ t.2.2.2) (fun t=>r.aa.n-t.1) (0,none,0,[]) ⟨rfl,rfl,rfl,rfl,rfl,trivial⟩ ⟨by omega,vW,hw,aK,ar,hX,hY,eE.nil _ _,vq.nil _⟩ ?_
  clear aA aK ar hX hY hw fq;rintro ⟨k,A,c,zr⟩ w' ⟨hk,vW,hw,aK,ar,hX,hY,hO,wN⟩
  simp only at hk ar hO wN ⊢;have hA:=hc.row.base;by_cases bY:k<r.aa.n
  ·have gb:=hc.each.get k (by omega) (by omega);have q:=hs.each _ (List.getElem_mem (show k<s.aa.length by omega));have q1:=gb.names.len;have q2:=gb.aR.len;have q3:=gb.a9.len;have q4:=q.names;have q5:=q.aR;have q6:=q.a9;have ze:=hO.row.lt_size;repeat' (first|refine Wz ?_|refine SW.st (aH hw rfl rfl ((hc.row.all bY))) rfl ?_)
   refine SW.alloc rfl fun b5 w1 ab ig cd => ?_
   skip;refine SW.ap cd rfl rfl rfl rfl (sq _) fun w2 fW hg => ?_
   have aj:=ab.own ig hg;have nE:w.heap.size≤b5:=Nat.le_trans hw.size ig
   replace hw:=Ext.trans hw aj;replace aK:=aK.ext aj;replace ar:=ar.ext aj;replace hX:=hX.ext aj;replace hY:=hY.ext aj;replace hO:=hO.ext aj;replace cd:=fW;clear fW ab hg aj;have Di:m2≤b5:=Nat.le_trans vW ig
   refine Wz ?_;refine CW.any 10 mixed (cl (by kernel_rfl)) rfl fun w1 ab aG => ?_
   replace hw:=Ext.trans hw ab;replace aK:=aK.ext ab;replace ar:=ar.ext ab;replace cd:=cd.ext ab;replace hX:=hX.ext ab;replace hY:=hY.ext ab;replace hO:=hO.ext ab;clear ab;refine Wa ?_;refine SA.one 2 rfl (by kernel_rfl) rfl ?_;refine SW.call rfl rfl (vp _ _ _ _ _ (gb.names.ext hw) (by omega)) fun v w4 aj hv => ?_
   obtain ⟨N,n4,rfl,hN⟩:=hv;have Bw:=hO.Lz (b:=⟨N,cs[k].Names.n,n4⟩) hN.aM;replace hN:=hN.low (Nat.le_trans Di (Nat.le_of_lt cd.lt));(replace hw:=Ext.trans hw aj;replace aK:=aK.ext aj;replace ar:=ar.ext aj;replace cd:=cd.ext aj;replace hX:=hX.ext aj;replace hY:=hY.ext aj;replace hO:=hO.ext aj);refine SW.nil (ae.sa aj ?_);refine Wa ?_;refine SA.one 5 rfl (by kernel_rfl) rfl ?_;refine SW.call rfl rfl (tT _ _ _ _ _ (gb.aR.ext hw) (by omega)) fun v w4 aj hv => ?_
   obtain ⟨M,m4,rfl,hM⟩:=hv;have tE:=hO.LA (b:=⟨M,cs[k].ai.n,m4⟩) hM.aM;replace hM:=hM.low (Nat.le_trans Di (Nat.le_of_lt cd.lt));(replace hw:=Ext.trans hw aj;replace aK:=aK.ext aj;replace ar:=ar.ext aj;replace cd:=cd.ext aj;replace hX:=hX.ext aj;replace hY:=hY.ext aj;replace hO:=hO.ext aj;replace hN:=hN.ext aj);refine SW.nil (ae.sa aj ?_);refine SA.one 8 rfl (by kernel_rfl) rfl ?_;refine SW.call rfl rfl (ef _ _ _ _ _ (gb.a9.ext hw) (by omega)) fun v w4 aj hv => ?_
   obtain ⟨Q,q7,rfl,hQ⟩:=hv;have qD:=hO.LB (b:=⟨Q,cs[k].au.n,q7⟩) hQ.aM;have DE:=jT (a:=⟨X,r.Words.n,c4⟩) (b:=⟨Q,cs[k].au.n,q7⟩) hX hQ.aM;replace hQ:=hQ.low (Nat.le_trans Di (Nat.le_of_lt cd.lt));(replace hw:=Ext.trans hw aj;replace aK:=aK.ext aj;replace ar:=ar.ext aj;replace cd:=cd.ext aj;replace hX:=hX.ext aj;replace hY:=hY.ext aj;replace hO:=hO.ext aj;replace hN:=hN.ext aj;replace hM:=hM.ext aj);refine SW.nil (ae.sa aj ?_);refine SA.done (by kernel_rfl) ?_;refine SW.bB (i:=0) cd rfl rfl rfl rfl fun w6 fW hg => ?_
   have hG:=cd.gr hg;replace hw:=hw.own nE hg;replace hO:=hO.cU cd hg ze ig;(replace aK:=aK.ay hG rfl;replace ar:=ar.ay hG rfl;replace hX:=hX.ay hG rfl;replace hY:=hY.ay hG rfl;replace hN:=hN.ay hG rfl;replace hM:=hM.ay hG rfl;replace hQ:=hQ.ay hG rfl);replace cd:=fW;clear fW hg hG;refine Wz ?_;refine SW.bB (i:=4) cd rfl rfl rfl rfl fun w6 fW hg => ?_
   have hG:=cd.gr hg;replace hw:=hw.own nE hg;replace hO:=hO.cU cd hg ze ig;(replace aK:=aK.ay hG rfl;replace ar:=ar.ay hG rfl;replace hX:=hX.ay hG rfl;replace hY:=hY.ay hG rfl;replace hN:=hN.ay hG rfl;replace hM:=hM.ay hG rfl;replace hQ:=hQ.ay hG rfl);replace cd:=fW;clear fW hg hG;refine Wz ?_;refine SW.bB (i:=5) cd rfl rfl rfl rfl fun w6 fW hg => ?_
   have hG:=cd.gr hg;replace hw:=hw.own nE hg;replace hO:=hO.cU cd hg ze ig;(replace aK:=aK.ay hG rfl;replace ar:=ar.ay hG rfl;replace hX:=hX.ay hG rfl;replace hY:=hY.ay hG rfl;replace hN:=hN.ay hG rfl;replace hM:=hM.ay hG rfl;replace hQ:=hQ.ay hG rfl);replace cd:=fW;clear fW hg hG;refine Wz ?_;refine SW.bJ rfl rfl rfl rfl rfl fun b w6 aj hb hB => ?_
   (replace hw:=Ext.trans hw aj;replace aK:=aK.ext aj;replace ar:=ar.ext aj;replace hX:=hX.ext aj;replace hY:=hY.ext aj;replace hO:=hO.ext aj;replace hN:=hN.ext aj;replace hM:=hM.ext aj;replace hQ:=hQ.ext aj);refine SW.append hO.row (aJ.mb (enc:=db) (x:=⟨⟨N,_,n4⟩,cs[k].bf,cs[k].ck,cs[k].Order,⟨M,_,m4⟩,⟨Q,_,q7⟩⟩) hB) (Nat.le_trans Di (Nat.le_trans (Nat.le_of_lt cd.lt) aj.size)) rfl rfl rfl (by simp only;omega) (by simp only;omega) fun A2 c2 w5 fT hg => ?_
   have hG:=hO.row.gr hg;have KM:=Nat.le_trans (Nat.le_trans Di (Nat.le_trans (Nat.le_of_lt cd.lt) aj.size)) hg.size;replace hw:=aE hw hg (Nat.le_trans qd kX) hO.row.aM;(replace aK:=aK.ay hG rfl;replace ar:=ar.ay hG rfl;replace hX:=hX.ay hG rfl;replace hY:=hY.ay hG rfl;replace hN:=hN.ay hG rfl;replace hM:=hM.ay hG rfl;replace hQ:=hQ.ay hG rfl);have hE:=hO.each.mono fun _ _ h=>h.ay hG rfl
   refine Wz ?_;refine SW.bB (i:=6) ar rfl rfl rfl rfl fun w6 cS hg => ?_
   have hG:=ar.gr hg;replace hw:=hw.own cn hg;replace aK:=aK.grown hg (by simpa using ed);(replace hX:=hX.ay hG rfl;replace hY:=hY.ay hG rfl;replace hN:=hN.ay hG rfl;replace hM:=hM.ay hG rfl;replace hQ:=hQ.ay hG rfl;replace fT:=fT.ay hG rfl);replace hE:=hE.mono fun _ _ h=>h.ay hG rfl
   refine Wz ?_;refine ae.again (k+1,A2,c2,zr++[⟨⟨N,_,n4⟩,cs[k].bf,cs[k].ck,cs[k].Order,⟨M,_,m4⟩,⟨Q,_,q7⟩⟩]) ⟨rfl,rfl,rfl,rfl,rfl,trivial⟩ (by simp only;omega) ⟨by simp only;omega,Nat.le_trans KM hg.size,hw,aK,cS,hX,hY,⟨fT,?_⟩,wN.snoc (fun u hu=>⟨Bw u hu,tE u hu,qD u hu⟩) DE⟩;rw [List.take_succ_eq_append_getElem (by omega)];exact hE.snoc ⟨gb.size,gb.jd,gb.order,hN,hM,hQ⟩
  ·obtain rfl:k=r.aa.n:=by omega
   rw [List.take_of_length_le (by omega)] at hO;refine Wz ?_;refine SW.ap aK rfl rfl rfl rfl (dD _) fun w5 bP hg => ?_
   have hG:=aK.gr hg;replace hw:=hw.own pH hg;(replace hX:=hX.ay hG rfl;replace hY:=hY.ay hG rfl;replace hO:=hO.ay hG rfl);refine Wz ?_;exact ae.me rfl rfl bP rfl ⟨_,rfl,hw,⟨_,G,_⟩,zr,rfl,⟨hX,hY.own.low qd,hO.row.low (Nat.le_trans qd kX),hO.each.mono fun _ _ h=>h.low (Nat.le_trans qd kX),wN.pair⟩,⟨m1,m2,qd,kX,zd,hY,hO.each⟩⟩
open Go.RowKit
theorem ri (A:Option Addr) (n c:Nat) (l:List ByteArray) (x:ByteArray) (w:World) (hl:Sl w 1 encStr A n l) (hn:n≤9223372036854775807) :
 bt Tryz.prog 70 [.slice A n c,.string x] w fun v _ => ∃ i:Int,v = .int .i64 i∧decide (0≤i)=tZ l x:=by
 refine aL Tryz.func70 rfl Tryz.ntmps70 rfl ?_;have hw:=Ext.refl w;have hA:=hl.base;have ma:=hl.len;refine Wz ?_
 refine CW.loop (fun k:Nat=>[(0,.slice A n c),(1,.string x),(7,.int .i64 (n:Int)),(8,.int .i64 (k:Int))]) (fun k w'=>k≤n∧Ext w w' ∧ ∀ (i:Nat) (h:i<l.length),i<k→l[i]≠x)
  (fun k=>n-k) 0 ⟨rfl,rfl,rfl,rfl,trivial⟩ ⟨by omega,hw,fun i h hi=>by omega⟩ ?_
 clear hw;rintro k w' ⟨hk,hw,hI⟩
 by_cases bY:k<n
 ·by_cases hx:x=l[k]
  ·repeat' (first|refine Wz ?_|refine SW.st (ao hw rfl (hl.one bY rfl)) rfl ?_|(refine SW.st ((iC rfl rfl).eq (congrArg Value.bool (decide_eq_true hx))) rfl ?_))
   refine ae.aN rfl rfl ⟨_,rfl,hw,_,rfl,?_⟩;rw [ka.2 (hx ▸ List.getElem_mem (hl.lt bY))];simp
  ·repeat' (first|refine Wz ?_|refine SW.st (ao hw rfl (hl.one bY rfl)) rfl ?_|(refine SW.st ((iC rfl rfl).eq (congrArg Value.bool (decide_eq_false hx))) rfl ?_))
   refine ae.again (k+1) ⟨rfl,rfl,rfl,rfl,trivial⟩ (by omega) ⟨by omega,hw,fun i h' hi => ?_⟩;by_cases zv:i=k
   ·subst zv;exact fun e=>hx e.symm
   ·exact hI i h' (by omega)
 ·refine Wz ?_;refine ae.aN rfl rfl ⟨_,rfl,hw,_,rfl,?_⟩
  have hx:tZ l x=false:=by
   cases e:tZ l x
   ·rfl
   ·obtain ⟨i,hi,e⟩:=List.getElem_of_mem (ka.1 e);exact absurd e (hI i hi (by omega))
  rw [hx];simp
theorem oz (A:Option Addr) (n c:Nat) (l:List ByteArray) (x:ByteArray) (w:World) (hl:Sl w 1 encStr A n l) (hn:n≤9223372036854775807) :
 bt Tryz.prog 41 [.slice A n c,.string x] w fun v _=>v = .bool (tZ l x):=by
 refine aL Tryz.func41 rfl Tryz.ntmps41 rfl ?_;have hw:=Ext.refl w;refine Wz ?_;refine SW.call rfl rfl (ri _ _ _ _ _ _ (hl.ext hw) hn) fun v w1 ab hv => ?_
 obtain ⟨i,rfl,hi⟩:=hv;replace hw:=Ext.trans hw ab;refine Wz ?_;exact ae.aN rfl rfl ⟨_,rfl,hw,by rw [hi]⟩
theorem xF {α β:Type} {p : α → Bool} {q : β → Bool} {l:List α} {m:List β} (hl:l.length=m.length) (h:∀ (k:Nat) (h1:k<l.length) (h2:k<m.length),p l[k]=q m[k]) : idxOf p l=idxOf q m∧l.any p=m.any q:=by
 have e:l.map p=m.map q:=List.ext_getElem (by simp [hl]) fun k h1 h2=>by simpa using h k (by simpa using h1) (by simpa using h2)
 have a1:l.any p=m.any q:=by
  have x1:(l.map p).any id=l.any p:=by rw [List.any_map];rfl
  have x2:(m.map q).any id=m.any q:=by rw [List.any_map];rfl
  rw [← x1,← x2,e]
 have a2:l.findIdx p=m.findIdx q:=by
  have x1:(l.map p).findIdx id=l.findIdx p:=by rw [List.findIdx_map];rfl
  have x2:(m.map q).findIdx id=m.findIdx q:=by rw [List.findIdx_map];rfl
  rw [← x1,← x2,e]
 unfold idxOf;rw [a1,a2];exact ⟨rfl,rfl⟩
theorem zf {w:World} {A:Option Addr} {n:Nat} {l l':List ByteArray} (h:Sl w 1 encStr A n l) (h':Sl w 1 encStr A n l') : l=l':=by
 have e1:=h.len;have e2:=h'.len;refine List.ext_getElem (by omega) fun k h1 h2 => ?_
 have a:=h.one (i:=k) (by omega) (u := .string l[k]) rfl;have b:=h'.one (i:=k) (by omega) (u := .string l'[k]) rfl;rw [a] at b;simpa using b
theorem Bj (w:World) (n:ByteArray) : ∃ p:dn→Bool,∀ x c,BC w x c→p x=iV n c:=by
 classical
 refine ⟨fun x=>decide (∃ c,BC w x c∧iV n c=true),fun x c h => ?_⟩;cases e:iV n c
 ·refine decide_eq_false ?_;rintro ⟨c',h',e'⟩
  unfold iV at e e';rw [zf h'.names h.names,e] at e';cases e'
 ·exact decide_eq_true ⟨c,h,e⟩
theorem zg (x:dn) (c:bd) (b3:Nat) (n:ByteArray) (w:World) (h3:aJ w b3 9 [.string n]) (hx:BC w x c) (hn:x.Names.n≤9223372036854775807) :
 bt Tryz.prog 40 ([.agg (db x).toArray]++[.pointer (some ⟨b3,0,none⟩)]) w fun v _=>v = .bool (iV n c):=by
 refine aL Tryz.func40 rfl Tryz.ntmps40 rfl ?_;refine CW.seq (CW.region (SW.box rfl rfl fun b1 w1 hw gK aA => ?_));replace h3:=h3.ext hw;have Io:=h3.cell (i:=0) (v := .string n) rfl;rw [add_zero] at Io;repeat' (first|refine Wz ?_|refine SW.st (ak rfl Io) rfl ?_|(refine SW.call rfl rfl (oz _ _ _ _ _ _ (hx.names.ext hw) hn) ?_;intro v w1 ab hv;subst hv;replace hw:=Ext.trans hw ab;replace aA:=aA.ext ab;clear ab))
 exact ae.aN rfl rfl ⟨_,rfl,hw,rfl⟩
theorem Bk (r:dV) (s:aF) (n:ByteArray) (w:World) (hr:ry w r s) (hs:s.small) :
 bt Tryz.prog 24 [.agg (aU r).toArray,.string n] w fun v _=>v = .tuple #[.int .i64 (idxOf (iV n) s.aa),.bool (s.aa.any (iV n))]:=by
 refine aL Tryz.func24 rfl Tryz.ntmps24 rfl ?_;obtain ⟨cs,hc⟩:=hr.dN;obtain ⟨z1,z2⟩:=hc.len;have m3:=hs.dN;obtain ⟨p,hp⟩:=Bj w n;have IK:=xF (p:=p) (q:=iV n) (l:=cs) (m:=s.aa) (by omega) fun k h1 h2=>hp _ _ (hc.each.get k h1 h2)
 refine CW.seq (CW.region (SW.box rfl rfl fun b2 w1 hw gQ aK => ?_));refine SW.DS rfl rfl rfl fun b3 w2 cw bK ar => ?_
 (replace hw:=Ext.trans hw cw;replace aK:=aK.ext cw);repeat' (first|refine Wz ?_|(refine SW.st (iv (vs:=[.pointer (some ⟨b3,0,none⟩)]) rfl) rfl ?_))
 refine SW.call rfl rfl (kH _ _ _ _ _ (hc.row.ext hw) _ [.pointer (some ⟨b3,0,none⟩)] p (fun x => .agg (db x).toArray) (fun x=>rfl) (fun x hx w1 kz=>by
  obtain ⟨k,hk,rfl⟩:=List.getElem_of_mem hx;have oO:k<s.aa.length:=by omega
  have gb:=hc.each.get k hk oO;have q1:=(hs.each _ (List.getElem_mem oO)).names;have q2:=gb.names.len;rw [hp _ _ gb];exact zg _ _ b3 n w1 (ar.ext kz) (gb.ext (Ext.trans hw kz)) (by omega)) (by omega)) fun v w4 iG hv => ?_
 subst hv;rw [IK.1];replace hw:=Ext.trans hw iG;have xK:=iz (iV n) s.aa;refine Wz ?_;all_goals exact ae.cu rfl rfl rfl ⟨_,rfl,hw,by rw [xK]⟩
theorem kJ (r:dV) (s:aF) (n:ByteArray) (w:World) (hr:ry w r s) (hs:s.small) :
 bt Tryz.prog 18 [.agg (aU r).toArray,.string n] w fun v _=>v = .int .i64 (idxOf (iV n) s.aa):=by
 refine aL Tryz.func18 rfl Tryz.ntmps18 rfl ?_;refine CW.seq (CW.region (SW.box rfl rfl fun b2 w1 hw gQ aK => ?_));obtain ⟨cs,hc⟩:=hr.dN;obtain ⟨z1,z2⟩:=hc.len;have m3:=hs.dN;repeat' (first|refine Wz ?_|(first|refine CW.gi rfl (fun h => ?_) (fun h => ?_)|refine CW.gj rfl (fun h => ?_) (fun h => ?_)|refine CW.bF rfl ?_|refine CW.bA rfl ?_|refine CW.cond rfl (fun h => ?_) (fun h => ?_))|refine SW.cb rfl rfl rfl (fun h => ?_) (fun h => ?_)|refine SW.ew rfl rfl rfl (fun h => ?_) (fun h => ?_)|refine SW.want rfl rfl ?_|refine SW.skip rfl rfl rfl rfl ?_|refine SW.jC rfl rfl rfl ?_|refine SW.split rfl rfl rfl (fun h => ?_) (fun h => ?_))
 refine CW.loop (fun k:Nat=>[(1,.string n),(2,.pointer (some ⟨b2,0,none⟩)),(5,.int .i64 (k:Int))])
  (fun k w'=>k≤r.aa.n∧Ext w w'∧aJ w' b2 30 (aU r) ∧ ∀ (j:Nat) (hj:j<s.aa.length),j<k→iV n s.aa[j]=false) (fun k=>r.aa.n-k) 0
  ⟨rfl,rfl,rfl,trivial⟩ ⟨by omega,hw,aK,fun j hj h=>by omega⟩ ?_
 clear hw aK;rintro i w' ⟨hk,hw,aK,hI⟩
 have hA:=hc.row.base;by_cases cf:i<r.aa.n
 ·have jA:i<cs.length:=by omega
  have kE:i<s.aa.length:=by omega
  have gb:=hc.each.get i jA kE;have sm:=(hs.each _ (List.getElem_mem kE)).names;have q1:=gb.names.len;have g0:=hc.row.dv cf (j:=0) (u := .slice cs[i].Names.A cs[i].Names.n cs[i].Names.c) rfl;repeat' (first|refine Wz ?_|(first|refine CW.gi rfl (fun h => ?_) (fun h => ?_)|refine CW.gj rfl (fun h => ?_) (fun h => ?_)|refine CW.bF rfl ?_|refine CW.bA rfl ?_|refine CW.cond rfl (fun h => ?_) (fun h => ?_))|refine SW.cb rfl rfl rfl (fun h => ?_) (fun h => ?_)|refine SW.ew rfl rfl rfl (fun h => ?_) (fun h => ?_)|refine SW.want rfl rfl ?_|refine SW.skip rfl rfl rfl rfl ?_|refine SW.jC rfl rfl rfl ?_|refine SW.split rfl rfl rfl (fun h => ?_) (fun h => ?_)|refine SW.st (ao hw rfl (aK.cell (i:=6) (v := .slice r.aa.A r.aa.n r.aa.c) rfl)) rfl ?_)
  refine CW.loop (fun k:Nat=>[(1,.string n),(2,.pointer (some ⟨b2,0,none⟩)),(5,.int .i64 (i:Int)),(6,.int .i64 (k:Int))])
   (fun k w'=>k≤cs[i].Names.n∧Ext w w'∧aJ w' b2 30 (aU r) ∧ ∀ (j:Nat) (hj:j<s.aa[i].Names.length),j<k→s.aa[i].Names[j]≠n) (fun k=>cs[i].Names.n-k) 0
   ⟨rfl,rfl,rfl,rfl,trivial⟩ ⟨by omega,hw,aK,fun j hj h=>by omega⟩ ?_
  clear hw aK;rintro k w' ⟨hk,hw,aK,hJ⟩
  have rE:=gb.names.base;by_cases bY:k<cs[i].Names.n
  ·have de:k<s.aa[i].Names.length:=by omega
   by_cases he:s.aa[i].Names[k]=n
   ·have hh:iV n s.aa[i]=true:=ka.2 (he ▸ List.getElem_mem de)
    repeat' (first|refine Wz ?_|(first|refine CW.gi rfl (fun h => ?_) (fun h => ?_)|refine CW.gj rfl (fun h => ?_) (fun h => ?_)|refine CW.bF rfl ?_|refine CW.bA rfl ?_|refine CW.cond rfl (fun h => ?_) (fun h => ?_))|refine SW.cb rfl rfl rfl (fun h => ?_) (fun h => ?_)|refine SW.ew rfl rfl rfl (fun h => ?_) (fun h => ?_)|refine SW.want rfl rfl ?_|refine SW.skip rfl rfl rfl rfl ?_|refine SW.jC rfl rfl rfl ?_|refine SW.split rfl rfl rfl (fun h => ?_) (fun h => ?_)|refine SW.st (aY (i) rfl rfl (by assumption) (by omega) (by omega)) rfl ?_|refine SW.st (aY (k) rfl rfl (by assumption) (by omega) (by omega)) rfl ?_|refine SW.st (ao hw rfl (aK.cell (i:=6) (v := .slice r.aa.A r.aa.n r.aa.c) rfl)) rfl ?_|refine SW.st (ak rfl g0) rfl ?_|refine SW.st (ao hw rfl g0) rfl ?_|refine SW.st (ak rfl (gb.names.one bY rfl)) rfl ?_|refine SW.st (ao hw rfl (gb.names.one bY rfl)) rfl ?_|(refine SW.st ((iC rfl rfl).eq (congrArg Value.bool (decide_eq_true he))) rfl ?_))
    exact ae.aN rfl rfl ⟨_,rfl,hw,by rw [gX kE hh hI]⟩
   ·repeat' (first|refine Wz ?_|(first|refine CW.gi rfl (fun h => ?_) (fun h => ?_)|refine CW.gj rfl (fun h => ?_) (fun h => ?_)|refine CW.bF rfl ?_|refine CW.bA rfl ?_|refine CW.cond rfl (fun h => ?_) (fun h => ?_))|refine SW.cb rfl rfl rfl (fun h => ?_) (fun h => ?_)|refine SW.ew rfl rfl rfl (fun h => ?_) (fun h => ?_)|refine SW.want rfl rfl ?_|refine SW.skip rfl rfl rfl rfl ?_|refine SW.jC rfl rfl rfl ?_|refine SW.split rfl rfl rfl (fun h => ?_) (fun h => ?_)|refine SW.st (aY (i) rfl rfl (by assumption) (by omega) (by omega)) rfl ?_|refine SW.st (aY (k) rfl rfl (by assumption) (by omega) (by omega)) rfl ?_|refine SW.st (ao hw rfl (aK.cell (i:=6) (v := .slice r.aa.A r.aa.n r.aa.c) rfl)) rfl ?_|refine SW.st (ak rfl g0) rfl ?_|refine SW.st (ao hw rfl g0) rfl ?_|refine SW.st (ak rfl (gb.names.one bY rfl)) rfl ?_|refine SW.st (ao hw rfl (gb.names.one bY rfl)) rfl ?_|(refine SW.st ((iC rfl rfl).eq (congrArg Value.bool (decide_eq_false he))) rfl ?_))
    exact ae.again (k+1) ⟨rfl,rfl,rfl,rfl,trivial⟩ (by omega) ⟨by omega,hw,aK,fun j hj h=>by
     by_cases e:j=k
     ·subst e;exact he
     ·exact hJ j hj (by omega)⟩
  ·have hh:iV n s.aa[i]=false:=by
    cases e:iV n s.aa[i]
    ·rfl
    ·obtain ⟨j,hj,e⟩:=List.getElem_of_mem (ka.1 e);exact absurd e (hJ j hj (by omega))
   repeat' (first|refine Wz ?_|(first|refine CW.gi rfl (fun h => ?_) (fun h => ?_)|refine CW.gj rfl (fun h => ?_) (fun h => ?_)|refine CW.bF rfl ?_|refine CW.bA rfl ?_|refine CW.cond rfl (fun h => ?_) (fun h => ?_))|refine SW.cb rfl rfl rfl (fun h => ?_) (fun h => ?_)|refine SW.ew rfl rfl rfl (fun h => ?_) (fun h => ?_)|refine SW.want rfl rfl ?_|refine SW.skip rfl rfl rfl rfl ?_|refine SW.jC rfl rfl rfl ?_|refine SW.split rfl rfl rfl (fun h => ?_) (fun h => ?_)|refine SW.st (aY (i) rfl rfl (by assumption) (by omega) (by omega)) rfl ?_|refine SW.st (aY (k) rfl rfl (by assumption) (by omega) (by omega)) rfl ?_|refine SW.st (ao hw rfl (aK.cell (i:=6) (v := .slice r.aa.A r.aa.n r.aa.c) rfl)) rfl ?_|refine SW.st (ak rfl g0) rfl ?_|refine SW.st (ao hw rfl g0) rfl ?_)
   exact ae.again (i+1) ⟨rfl,rfl,rfl,trivial⟩ (by omega) ⟨by omega,hw,aK,fun j hj h=>by
    by_cases e:j=i
    ·subst e;exact hh
    ·exact hI j hj (by omega)⟩
 ·repeat' (first|refine Wz ?_|(first|refine CW.gi rfl (fun h => ?_) (fun h => ?_)|refine CW.gj rfl (fun h => ?_) (fun h => ?_)|refine CW.bF rfl ?_|refine CW.bA rfl ?_|refine CW.cond rfl (fun h => ?_) (fun h => ?_))|refine SW.cb rfl rfl rfl (fun h => ?_) (fun h => ?_)|refine SW.ew rfl rfl rfl (fun h => ?_) (fun h => ?_)|refine SW.want rfl rfl ?_|refine SW.skip rfl rfl rfl rfl ?_|refine SW.jC rfl rfl rfl ?_|refine SW.split rfl rfl rfl (fun h => ?_) (fun h => ?_)|refine SW.st (ao hw rfl (aK.cell (i:=6) (v := .slice r.aa.A r.aa.n r.aa.c) rfl)) rfl ?_)
  exact ae.aN rfl rfl ⟨_,rfl,hw,by rw [(fj (fun j hj=>hI j hj (by omega))).1]⟩
open Go.RowKit
set_option maxHeartbeats 2000000 in
theorem EK (r:dV) (s:aF) (n:ByteArray) (cpu:Int) (w:World) (hr:ry w r s) (hf:s.lA) (Jw:n.size≤140737488351232) :
 bt Tryz.prog 14 [.agg (aU r).toArray,.string n,.int .i64 cpu] w (Gv w.heap.size s n cpu):=by
 refine aL Tryz.func14 rfl Tryz.ntmps14 rfl ?_;have hs:=hf.small;refine CW.seq (CW.region (SW.box rfl rfl fun b3 w1 hw bK ar => ?_));refine SW.alloc rfl fun b6 w3 jQ eW ax => ?_
 have di:w.heap.size≤b6:=Nat.le_trans hw.size eW
 (replace hw:=Ext.trans hw jQ;replace ar:=ar.ext jQ);obtain ⟨q,hq⟩ : ∃ q,j8 s=q:=⟨_,rfl⟩
 have c1:∀ w',Ext w w'→bt Tryz.prog 23 [.agg (aU r).toArray] w' fun v _=>v = .int .i64 (if q then 0 else 8):=fun w' hx=>by
  have:=yO r s w' (hr.ext hx) hf
  rwa [hq] at this
 cases q
 ·simp only [Bool.false_eq_true,if_false] at c1;repeat' (first|refine Wz ?_|(refine SW.call rfl rfl (c1 _ hw) ?_;intro v w1 ab hv;subst hv;replace hw:=Ext.trans hw ab;replace ar:=ar.ext ab;replace ax:=ax.ext ab;clear ab))
  refine SW.ap ax rfl rfl rfl rfl (dD .zero) fun w5 bP hg => ?_
  replace hw:=hw.own di hg;refine Wz ?_;exact ae.dl rfl rfl rfl rfl bP rfl ⟨_,rfl,hw,.inl ⟨by rw [yP hq];decide,by rw [yP hq];rfl⟩⟩
 ·simp only [if_true] at c1;obtain ⟨t,ht⟩ : ∃ t,s.aa.any (iV n)=t:=⟨_,rfl⟩;obtain ⟨ix,qX⟩ : ∃ ix,idxOf (iV n) s.aa=ix:=⟨_,rfl⟩
  have c3:∀ w',Ext w w'→bt Tryz.prog 24 [.agg (aU r).toArray,.string n] w' fun v _=>v = .tuple #[.int .i64 ix,.bool t]:=fun w' hx=>by
   have:=Bk r s n w' (hr.ext hx) hs
   rwa [ht,qX] at this
  cases t
  ·repeat' (first|refine Wz ?_|(refine CW.bF rfl ?_)|((first|refine SW.call rfl rfl (c1 _ hw) ?_|refine SW.call rfl rfl (c3 _ hw) ?_);intro v w1 ab hv;subst hv;replace hw:=Ext.trans hw ab;replace ar:=ar.ext ab;replace ax:=ax.ext ab;clear ab))
   refine SW.ap ax rfl rfl rfl rfl (dD .zero) fun w5 bP hg => ?_
   replace hw:=hw.own di hg;refine Wz ?_;exact ae.dl rfl rfl rfl rfl bP rfl ⟨_,rfl,hw,.inl ⟨by rw [yQ hq ht];decide,by rw [yQ hq ht];rfl⟩⟩
  ·have Cf:=hr.heap.dU;by_cases hc : 0≤cpu∧cpu<s.Heap.bW
   ·repeat' (first|refine Wz ?_|(refine CW.bA rfl ?_)|((first|refine SW.call rfl rfl (c1 _ hw) ?_|refine SW.call rfl rfl (c3 _ hw) ?_);intro v w1 ab hv;subst hv;replace hw:=Ext.trans hw ab;replace ar:=ar.ext ab;replace ax:=ax.ext ab;clear ab))
    all_goals try omega
    refine SW.call rfl rfl (zb r s _ (hr.ext hw) hs) fun v w6 aj hv => ?_
    obtain ⟨q,zr,rfl,hO,hI⟩:=hv;replace hO:=hO.low hw.size;replace hI:=hI.low hw.size;(replace hw:=Ext.trans hw aj;replace ax:=ax.ext aj);refine Wz ?_;refine SW.ap ax rfl rfl rfl rfl (dD q) fun w5 bP hg => ?_
    have hG:=ax.gr hg;replace hw:=hw.own di hg;(replace hO:=hO.ay hG rfl;replace hI:=hI.ay hG rfl);refine Wz ?_;exact ae.dl rfl rfl rfl rfl bP rfl ⟨_,rfl,hw,.inr ⟨CU hq ht hc,q,zr,by rw [qX];rfl,hO,hI⟩⟩
   ·rcases (show cpu<0∨(0≤cpu∧s.Heap.bW≤cpu) by omega) with g|g
    all_goals
     repeat' (first|refine Wz ?_|(refine CW.bA rfl ?_)|((first|refine SW.call rfl rfl (c1 _ hw) ?_|refine SW.call rfl rfl (c3 _ hw) ?_);intro v w1 ab hv;subst hv;replace hw:=Ext.trans hw ab;replace ar:=ar.ext ab;replace ax:=ax.ext ab;clear ab))
     all_goals try omega
     refine SW.ap ax rfl rfl rfl rfl (dD .zero) fun w5 bP hg => ?_
     replace hw:=hw.own di hg;refine Wz ?_;exact ae.dl rfl rfl rfl rfl bP rfl ⟨_,rfl,hw,.inl ⟨by rw [yR hq ht hc];decide,by rw [yR hq ht hc];rfl⟩⟩
set_option maxHeartbeats 1000000 in
theorem vX (r:dV) (s:aF) (n:ByteArray) (cpu:Int) (w:World) (hr:ry w r s) (hf:s.lA) :
 bt Tryz.prog 16 [.agg (aU r).toArray,.string n,.int .i64 cpu] w fun v _=>v = .int .i64 (lY s n cpu):=by
 refine aL Tryz.func16 rfl Tryz.ntmps16 rfl ?_;have hs:=hf.small;refine CW.seq (CW.region (SW.box rfl rfl fun b3 w1 hw bK ar => ?_));obtain ⟨q,hq⟩ : ∃ q,j8 s=q:=⟨_,rfl⟩
 have c1:∀ w',Ext w w'→bt Tryz.prog 27 [.agg (aU r).toArray] w' fun v _=>v = .bool q:=fun w' hx=>by
  have:=CV r s w' (hr.ext hx) hf
  rwa [hq] at this
 cases q
 ·repeat' (first|refine Wz ?_|(refine CW.bF rfl ?_)|(refine SW.call rfl rfl (c1 _ hw) ?_;intro v w1 ab hv;subst hv;replace hw:=Ext.trans hw ab;replace ar:=ar.ext ab;clear ab))
  exact ae.aN rfl rfl ⟨_,rfl,hw,by rw [yP hq]⟩
 ·have hM:=(pj.1 hq).heap.dU;obtain ⟨ix,qX⟩ : ∃ ix,idxOf (iV n) s.aa=ix:=⟨_,rfl⟩;have xK:=iz (iV n) s.aa;rw [qX] at xK
  have c3:∀ w',Ext w w'→bt Tryz.prog 18 [.agg (aU r).toArray,.string n] w' fun v _=>v = .int .i64 ix:=fun w' hx=>by
   have:=kJ r s n w' (hr.ext hx) hs
   rwa [qX] at this
  have eC:=hr.heap.dU;by_cases IL : 0≤ix
  ·have ht:s.aa.any (iV n)=true:=by rw [← xK];exact decide_eq_true IL
   by_cases hc : 0≤cpu∧cpu<s.Heap.bW
   ·repeat' (first|refine Wz ?_|(refine CW.bA rfl ?_)|((first|refine SW.call rfl rfl (c1 _ hw) ?_|refine SW.call rfl rfl (c3 _ hw) ?_|refine SW.call rfl rfl (bM _ _ _ _) ?_);intro v w1 ab hv;subst hv;replace hw:=Ext.trans hw ab;replace ar:=ar.ext ab;clear ab))
    all_goals try omega
    exact ae.aN rfl rfl ⟨_,rfl,hw,by rw [CU hq ht hc]⟩
   ·repeat' (first|refine Wz ?_|(refine CW.bA rfl ?_)|((first|refine SW.call rfl rfl (c1 _ hw) ?_|refine SW.call rfl rfl (c3 _ hw) ?_|refine SW.call rfl rfl (bM _ _ _ _) ?_);intro v w1 ab hv;subst hv;replace hw:=Ext.trans hw ab;replace ar:=ar.ext ab;clear ab))
    all_goals try omega
    exact ae.aN rfl rfl ⟨_,rfl,hw,by rw [yR hq ht hc]⟩
  ·have ht:s.aa.any (iV n)=false:=by rw [← xK];exact decide_eq_false IL
   repeat' (first|refine Wz ?_|(refine CW.bA rfl ?_)|((first|refine SW.call rfl rfl (c1 _ hw) ?_|refine SW.call rfl rfl (c3 _ hw) ?_);intro v w1 ab hv;subst hv;replace hw:=Ext.trans hw ab;replace ar:=ar.ext ab;clear ab))
   all_goals try omega
   exact ae.aN rfl rfl ⟨_,rfl,hw,by rw [yQ hq ht]⟩
end Go.Proofs.YtjimadiidbkohaaGreatDoor
