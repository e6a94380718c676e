/-
  Texts of the claim SlabAllocs, part 12: what its theorem leans on.
-/
import Derived.Test.YtjimadiidbkohaaGreatDoorPackSlabAllocs9
import Derived.Test.YtjimadiidbkohaaGreatDoorPackSlabAllocs8
import Derived.Test.YtjimadiidbkohaaGreatDoorPackSlabAllocs2
set_option linter.unusedVariables false
set_option linter.unusedSimpArgs false
namespace Go.Proofs.YtjimadiidbkohaaGreatDoor
open Go.RowKit
structure j7 (w:World) (lo:Nat) (R:List bL) (L:List aB) : Prop where
 each:ey (kr w lo) R L
section
variable {w w':World} {lo t:Nat} {R:List bL} {L:List aB} {y:bL} {x:aB}
theorem j7.ext (h:j7 w lo R L) (hx:Ext w w') : j7 w' lo R L:=⟨h.each.mono fun _ _ h=>h.ext hx⟩
theorem j7.ay (h:j7 w lo R L) (hG:n9 w w' t) (cG:Nat.beq t 3=false) : j7 w' lo R L:=⟨h.each.mono fun _ _ h=>h.ay hG cG⟩
theorem j7.nil (w:World) (lo:Nat) : j7 w lo [] []:=⟨ey.nil⟩
theorem j7.snoc (h:j7 w lo R L) (hr:kr w lo y x) : j7 w lo (R++[y]) (L++[x]):=⟨h.each.snoc hr⟩
end
set_option maxHeartbeats 16000000 in
theorem xe (r:ez) (L:List aB) (ls:List bL) (x:aB) (y:bL) (lo:Nat) (w:World) (hl:cJ w lo r.av ls L) (hy:kr w lo y x) (hs:rz L) (fC:lo≤w.heap.size) (cG : 0<y.aw.n) (hn:(r.av.n+1)*48≤140737488355328) :
 bt Tryz.prog 88 [.agg (bm r).toArray,.int .i64 y.dL,.int .i64 y.aq,.int .i64 y.Ty,.slice y.aw.A y.aw.n y.aw.c] w fun v w' => ∃ s R,v = .agg (bm ⟨r.aQ,r.bH,r.bW,s,r.Live⟩).toArray∧cJ w' lo s R (jx L x):=by
 refine aL Tryz.func88 rfl Tryz.ntmps88 rfl ?_;refine CW.seq (CW.region (SW.box rfl rfl fun b5 w1 hw ig cd => ?_));have nE:=ig;refine SW.alloc rfl fun kn w2 cw kG aP => ?_
 have lu:w.heap.size≤kn:=Nat.le_trans hw.size kG
 have vz:b5≠kn:=by have:=cd.lt;omega
 (replace hw:=Ext.trans hw cw;replace cd:=cd.ext cw);obtain ⟨l1,l2⟩:=hl.rd.len;have hA:=hl.row.sl.base;have y1:=hy.cpu;have y2:=hy.fp;have y3:=hy.ty;refine Wz ?_;refine SW.alloc rfl fun se w1 ab qE bC => ?_
 skip;refine SW.ap bC rfl rfl rfl rfl (sn y) fun w2 mR hg => ?_
 have aj:=ab.own qE hg;have pf:w.heap.size≤se:=Nat.le_trans hw.size qE
 replace hw:=Ext.trans hw aj;replace cd:=cd.ext aj;replace aP:=aP.ext aj;replace bC:=mR;clear mR ab hg aj;refine Wz ?_;have de:=fI L x;replace bC:aJ w2 se 62 (bp y):=bC;have z0:(bV L x 0).length=0:=by simp [bV]
 have q0:decide (a8 L x<0)=decide ((y.aw.n:Int)=0):=by rw [decide_eq_false (by omega),decide_eq_false (by omega)]
 refine CW.loop (fun t:Nat×Option Addr×Nat×List bL=>[(1,.int .i64 y.dL),(2,.int .i64 y.aq),(3,.int .i64 y.Ty),(5,.pointer (some ⟨b5,0,none⟩)),(10,.pointer (some ⟨kn,0,none⟩)),(11,.pointer (some ⟨se,0,none⟩)),(12,.slice t.2.1 (bV L x t.1).length t.2.2.1),(13,.bool (decide (a8 L x<t.1))),(14,.int .i64 (t.1:Int))])
  (fun t w'=>t.1≤r.av.n∧Ext w w'∧aJ w' b5 27 (bm r)∧aJ w' kn 27 (bm .zero)∧aJ w' se 62 (bp y)∧Own w' (se+1) 62 4 bp t.2.1 (bV L x t.1).length t.2.2.1 t.2.2.2∧j7 w' lo t.2.2.2 (bV L x t.1)) (fun t=>r.av.n-t.1) (0,none,0,[])
  ⟨rfl,rfl,rfl,rfl,rfl,rfl,by simp only;rw [z0];rfl,by simp only;rw [q0];rfl,rfl,trivial⟩ ⟨by omega,hw,cd,aP,bC,by simpa [bV] using Own.eR _ _ _ _ _ _,by simpa [bV] using j7.nil _ _⟩ ?_
 clear hw cd aP bC;rintro ⟨i,A,c,R⟩ w' ⟨hi,hw,cd,aP,bC,hO,hE⟩
 simp only at hi hO hE ⊢
 have hlen:(bV L x i).length≤i+1:=by
  unfold bV;split
  ·simp;omega
  ·split<;>simp<;>omega
 have E7:i≤a8 L x→(bV L x i).length≤i:=fun h=>by rw [bV,if_pos h];simp;omega
 have yC:∀ m:Nat,m≤r.av.n→(m+1)*48≤140737488355328∧m+1≤9223372036854775807:=fun m hm=>by omega
 by_cases cf:i<r.av.n
 ·have qD:(bV L x i).length≤r.av.n:=by omega
  have kE:i<L.length:=by omega
  have ln:i<ls.length:=by omega
  have wY:=hl.each.get i ln kE;have e1:=wY.cpu;have e2:=wY.fp;have e3:=wY.ty;have g0:=hl.row.sl.dv cf (j:=0) (u := .int .i64 ls[i].dL) rfl;have g1:=hl.row.sl.dv cf (j:=1) (u := .int .i64 ls[i].aq) rfl;have g2:=hl.row.sl.dv cf (j:=2) (u := .int .i64 ls[i].Ty) rfl;obtain ⟨p,hp⟩ : ∃ p,decide (bz x L[i])=p:=⟨_,rfl⟩
  have cA:∀ w',bt Tryz.prog 82 [.agg (bp y).toArray,.agg (bp ls[i]).toArray] w' fun v _=>v = .bool p:=fun w'=>by
   have:=sr y ls[i] x L[i] w' ⟨y1,y2,y3⟩ wY.rd.key
   rwa [hp] at this
  rcases Nat.lt_trichotomy i (a8 L x) with hk|hk|hk
  ·have ha:=lS hk;have Ih:p=false:=by rw [← hp];exact decide_eq_false (jV ha).2.2
   subst Ih;have Ii : ¬ (ls[i].dL=y.dL∧ls[i].aq=y.aq∧ls[i].Ty=y.Ty):=by have:=(jV ha).1;unfold df at this;omega
   have ee:=ym hk;have el:(bV L x (i+1)).length=(bV L x i).length+1:=by rw [ee];simp
   have d0:decide (a8 L x<i)=false:=decide_eq_false (by omega)
   have d1:decide (a8 L x<i+1)=false:=decide_eq_false (by omega)
   rw [d0];repeat' (first|refine Wz ?_|((apply CW.aO mixed;(· kernel_rfl);rotate_left;intro w1 ab;replace hw:=Ext.trans hw ab;replace cd:=cd.ext ab;replace aP:=aP.ext ab;replace bC:=bC.ext ab;replace hO:=hO.ext ab;replace hE:=hE.ext ab;clear ab;rotate_right))|refine SW.cb rfl rfl rfl (fun h => ?_) (fun h => ?_)|refine SW.want rfl rfl ?_|refine SW.st (ao hw rfl g0) rfl ?_|refine SW.st (ao hw rfl g1) rfl ?_|refine SW.st (ao hw rfl g2) rfl ?_|refine SW.st (aH hw rfl rfl ((hl.row.sl.all cf))) rfl ?_|refine SW.bq rfl rfl (fun w1 ab=>(cA _)) ?_|exact SW.bx rfl)
   all_goals try omega
   all_goals
    refine SW.bJ rfl rfl rfl rfl rfl fun b w4 aj hb hB => ?_
    (replace hw:=Ext.trans hw aj;replace cd:=cd.ext aj;replace aP:=aP.ext aj;replace bC:=bC.ext aj;replace hO:=hO.ext aj;replace hE:=hE.ext aj);refine SW.append hO (aJ.mb (enc:=bp) (x:=ls[i]) hB) bC.lt rfl rfl rfl (yC _ qD).1 (yC _ qD).2 fun A2 c2 w5 fT hg => ?_
    have hG:=hO.gr hg;replace hw:=aE hw hg (Nat.le_trans pf (Nat.le_succ _)) hO.aM;replace bC:=bC.grown hg (fun e=>Nat.not_succ_le_self _ (hO.aM se e.symm));(replace cd:=cd.ay hG rfl;replace aP:=aP.ay hG rfl;replace hE:=hE.ay hG rfl);refine Wz ?_;refine ae.again (i+1,A2,c2,R++[ls[i]]) ⟨rfl,rfl,rfl,rfl,rfl,rfl,by simp only;rw [el];rfl,by simp only;rw [d1];rfl,rfl,trivial⟩ (by simp only;omega) ⟨by simp only;omega,hw,cd,aP,bC,by simp only;rw [el];exact fT,?_⟩;simp only;rw [ee];exact hE.snoc ((hl.each.get i ln kE).ext hw)
  ·have eh:∃ q,bT L x=q:=⟨_,rfl⟩
   obtain ⟨q,hq⟩:=eh;have d0:decide (a8 L x<i)=false:=decide_eq_false (by omega)
   have d1:decide (a8 L x<i+1)=true:=decide_eq_true (by omega)
   have DE:(bV L x i).length+1≤r.av.n:=by have:=E7 (by omega);omega
   rw [d0];cases q
   ·have ha:bz x L[i]:=by
     have:=zP hq (by omega)
     simpa only [← hk] using this
    have Ih:p=true:=by rw [← hp];exact decide_eq_true ha
    subst Ih;have Ii : ¬ (ls[i].dL=y.dL∧ls[i].aq=y.aq∧ls[i].Ty=y.Ty):=by have:=(jV ha).2.1;unfold df at this;omega
    have ee:=Az hk kE hq;have el:(bV L x (i+1)).length=(bV L x i).length+1+1:=by rw [ee];simp
    repeat' (first|refine Wz ?_|((apply CW.aO mixed;(· kernel_rfl);rotate_left;intro w1 ab;replace hw:=Ext.trans hw ab;replace cd:=cd.ext ab;replace aP:=aP.ext ab;replace bC:=bC.ext ab;replace hO:=hO.ext ab;replace hE:=hE.ext ab;clear ab;rotate_right))|refine SW.want rfl rfl ?_|refine SW.st (aH hw rfl rfl ((hl.row.sl.all cf))) rfl ?_|refine SW.bq rfl rfl (fun w1 ab=>(cA _)) ?_|exact SW.bx rfl)
    refine SW.bJ rfl rfl rfl rfl rfl fun b w4 aj hb hB => ?_
    (replace hw:=Ext.trans hw aj;replace cd:=cd.ext aj;replace aP:=aP.ext aj;replace bC:=bC.ext aj;replace hO:=hO.ext aj;replace hE:=hE.ext aj);refine SW.append hO (aJ.mb (enc:=bp) (x:=y) hB) bC.lt rfl rfl rfl (yC _ qD).1 (yC _ qD).2 fun A2 c2 w5 fT hg => ?_
    have hG:=hO.gr hg;replace hw:=aE hw hg (Nat.le_trans pf (Nat.le_succ _)) hO.aM;replace bC:=bC.grown hg (fun e=>Nat.not_succ_le_self _ (hO.aM se e.symm));(replace cd:=cd.ay hG rfl;replace aP:=aP.ay hG rfl;replace hE:=hE.ay hG rfl);replace hE:=hE.snoc (hy.ext hw);replace hO:=fT;clear fT;repeat' (first|refine Wz ?_|refine SW.cb rfl rfl rfl (fun h => ?_) (fun h => ?_)|refine SW.st (ao hw rfl g0) rfl ?_|refine SW.st (ao hw rfl g1) rfl ?_|refine SW.st (ao hw rfl g2) rfl ?_|refine SW.st (aH hw rfl rfl ((hl.row.sl.all cf))) rfl ?_)
    all_goals try omega
    all_goals
     refine SW.bJ rfl rfl rfl rfl rfl fun b w4 aj hb hB => ?_
     (replace hw:=Ext.trans hw aj;replace cd:=cd.ext aj;replace aP:=aP.ext aj;replace bC:=bC.ext aj;replace hO:=hO.ext aj;replace hE:=hE.ext aj);refine SW.append hO (aJ.mb (enc:=bp) (x:=ls[i]) hB) bC.lt rfl rfl rfl (yC _ DE).1 (yC _ DE).2 fun A2 c2 w5 gx hg => ?_
     have hG:=hO.gr hg;replace hw:=aE hw hg (Nat.le_trans pf (Nat.le_succ _)) hO.aM;replace bC:=bC.grown hg (fun e=>Nat.not_succ_le_self _ (hO.aM se e.symm));(replace cd:=cd.ay hG rfl;replace aP:=aP.ay hG rfl;replace hE:=hE.ay hG rfl);refine Wz ?_;refine ae.again (i+1,A2,c2,R++[y]++[ls[i]]) ⟨rfl,rfl,rfl,rfl,rfl,rfl,by simp only;rw [el];rfl,by simp only;rw [d1];rfl,rfl,trivial⟩ (by simp only;omega) ⟨by simp only;omega,hw,cd,aP,bC,by simp only;rw [el];exact gx,?_⟩;simp only;rw [ee];exact hE.snoc ((hl.each.get i ln kE).ext hw)
   ·obtain ⟨Ng,lT⟩:=je hq;have Ij:df L[i] x:=by simpa only [← hk] using lT
    have Ih:p=false:=by rw [← hp];exact decide_eq_false (by unfold bz df at *;omega)
    subst Ih;obtain ⟨k1,k2,k3⟩:=id Ij;have ee:=wU hk hq;have el:(bV L x (i+1)).length=(bV L x i).length+1:=by rw [ee];simp
    repeat' (first|refine Wz ?_|(first|refine CW.bF rfl ?_|(apply CW.aO mixed;(· kernel_rfl);rotate_left;intro w1 ab;replace hw:=Ext.trans hw ab;replace cd:=cd.ext ab;replace aP:=aP.ext ab;replace bC:=bC.ext ab;replace hO:=hO.ext ab;replace hE:=hE.ext ab;clear ab;rotate_right))|refine SW.want rfl rfl ?_|refine SW.st (ao hw rfl g0) rfl ?_|refine SW.st (ao hw rfl g1) rfl ?_|refine SW.st (ao hw rfl g2) rfl ?_|refine SW.st (aH hw rfl rfl ((hl.row.sl.all cf))) rfl ?_|refine SW.bq rfl rfl (fun w1 ab=>(cA _)) ?_|exact SW.bx rfl)
    all_goals try omega
    refine SW.bJ rfl rfl rfl rfl rfl fun b w4 aj hb hB => ?_
    (replace hw:=Ext.trans hw aj;replace cd:=cd.ext aj;replace aP:=aP.ext aj;replace bC:=bC.ext aj;replace hO:=hO.ext aj;replace hE:=hE.ext aj);refine SW.append hO (aJ.mb (enc:=bp) (x:=y) hB) bC.lt rfl rfl rfl (yC _ qD).1 (yC _ qD).2 fun A2 c2 w5 fT hg => ?_
    have hG:=hO.gr hg;replace hw:=aE hw hg (Nat.le_trans pf (Nat.le_succ _)) hO.aM;replace bC:=bC.grown hg (fun e=>Nat.not_succ_le_self _ (hO.aM se e.symm));(replace cd:=cd.ay hG rfl;replace aP:=aP.ay hG rfl;replace hE:=hE.ay hG rfl);refine Wz ?_;refine ae.again (i+1,A2,c2,R++[y]) ⟨rfl,rfl,rfl,rfl,rfl,rfl,by simp only;rw [el];rfl,by simp only;rw [d1];rfl,rfl,trivial⟩ (by simp only;omega) ⟨by simp only;omega,hw,cd,aP,bC,by simp only;rw [el];exact fT,?_⟩;simp only;rw [ee];exact hE.snoc (hy.ext hw)
  ·have Kl:a8 L x<L.length:=by omega
   have ha:bz x L[i]:=by
    have h0:=hs.get kE hk;have h1:=zO Kl;unfold bz at *;omega
   have Ii : ¬ (ls[i].dL=y.dL∧ls[i].aq=y.aq∧ls[i].Ty=y.Ty):=by have:=(jV ha).2.1;unfold df at this;omega
   have ee:=wV hk kE;have el:(bV L x (i+1)).length=(bV L x i).length+1:=by rw [ee];simp
   have d0:decide (a8 L x<i)=true:=decide_eq_true (by omega)
   have d1:decide (a8 L x<i+1)=true:=decide_eq_true (by omega)
   rw [d0];repeat' (first|refine Wz ?_|((apply CW.aO mixed;(· kernel_rfl);rotate_left;intro w1 ab;replace hw:=Ext.trans hw ab;replace cd:=cd.ext ab;replace aP:=aP.ext ab;replace bC:=bC.ext ab;replace hO:=hO.ext ab;replace hE:=hE.ext ab;clear ab;rotate_right))|refine SW.cb rfl rfl rfl (fun h => ?_) (fun h => ?_)|refine SW.skip rfl rfl rfl rfl ?_|refine SW.st (ao hw rfl g0) rfl ?_|refine SW.st (ao hw rfl g1) rfl ?_|refine SW.st (ao hw rfl g2) rfl ?_|refine SW.st (aH hw rfl rfl ((hl.row.sl.all cf))) rfl ?_|exact SW.bx rfl)
   all_goals try omega
   all_goals
    refine SW.bJ rfl rfl rfl rfl rfl fun b w4 aj hb hB => ?_
    (replace hw:=Ext.trans hw aj;replace cd:=cd.ext aj;replace aP:=aP.ext aj;replace bC:=bC.ext aj;replace hO:=hO.ext aj;replace hE:=hE.ext aj);refine SW.append hO (aJ.mb (enc:=bp) (x:=ls[i]) hB) bC.lt rfl rfl rfl (yC _ qD).1 (yC _ qD).2 fun A2 c2 w5 fT hg => ?_
    have hG:=hO.gr hg;replace hw:=aE hw hg (Nat.le_trans pf (Nat.le_succ _)) hO.aM;replace bC:=bC.grown hg (fun e=>Nat.not_succ_le_self _ (hO.aM se e.symm));(replace cd:=cd.ay hG rfl;replace aP:=aP.ay hG rfl;replace hE:=hE.ay hG rfl);refine Wz ?_;refine ae.again (i+1,A2,c2,R++[ls[i]]) ⟨rfl,rfl,rfl,rfl,rfl,rfl,by simp only;rw [el];rfl,by simp only;rw [d1];rfl,rfl,trivial⟩ (by simp only;omega) ⟨by simp only;omega,hw,cd,aP,bC,by simp only;rw [el];exact fT,?_⟩;simp only;rw [ee];exact hE.snoc ((hl.each.get i ln kE).ext hw)
 ·have ei:i=L.length:=by omega
  subst ei;by_cases hk:a8 L x<L.length
  ·have ee:=wW hk;rw [ee] at hO hE;rw [ee,decide_eq_true hk];repeat' (first|refine Wz ?_|(refine CW.bA rfl ?_))
   refine SW.bB (i:=3) cd rfl rfl rfl rfl fun w6 fW hg => ?_
   have hG:=cd.gr hg;replace hw:=hw.own nE hg;replace aP:=aP.grown hg (by simpa using Ne.symm vz);(replace hO:=hO.ay hG rfl;replace hE:=hE.ay hG rfl);refine Wz ?_;refine SW.ap aP rfl rfl rfl rfl (cQ ⟨r.aQ,r.bH,r.bW,⟨A,_,c⟩,r.Live⟩) fun w7 bP hg => ?_
   have hG:=aP.gr hg;replace hw:=hw.own lu hg;(replace hO:=hO.ay hG rfl;replace hE:=hE.ay hG rfl);refine Wz ?_;exact ae.me rfl rfl bP rfl ⟨_,rfl,hw,⟨A,_,c⟩,R,rfl,⟨hO.low (by omega),hE.each⟩⟩
  ·have qD:(bV L x L.length).length≤r.av.n:=by have:=E7 (by omega);omega
   have ee:=wX hk;rw [decide_eq_false hk];repeat' (first|refine Wz ?_|(refine CW.bF rfl ?_))
   refine SW.bJ rfl rfl rfl rfl rfl fun b w4 aj hb hB => ?_
   (replace hw:=Ext.trans hw aj;replace cd:=cd.ext aj;replace aP:=aP.ext aj;replace bC:=bC.ext aj;replace hO:=hO.ext aj;replace hE:=hE.ext aj);refine SW.append hO (aJ.mb (enc:=bp) (x:=y) hB) bC.lt rfl rfl rfl (yC _ qD).1 (yC _ qD).2 fun A2 c2 w5 fT hg => ?_
   have hG:=hO.gr hg;replace hw:=aE hw hg (Nat.le_trans pf (Nat.le_succ _)) hO.aM;replace bC:=bC.grown hg (fun e=>Nat.not_succ_le_self _ (hO.aM se e.symm));(replace cd:=cd.ay hG rfl;replace aP:=aP.ay hG rfl;replace hE:=hE.ay hG rfl);replace hE:=hE.snoc (hy.ext hw);rw [ee] at hE;refine Wz ?_;refine SW.bB (i:=3) cd rfl rfl rfl rfl fun w6 fW hg => ?_
   have hG:=cd.gr hg;replace hw:=hw.own nE hg;replace aP:=aP.grown hg (by simpa using Ne.symm vz);(replace fT:=fT.ay hG rfl;replace hE:=hE.ay hG rfl);refine Wz ?_;refine SW.ap aP rfl rfl rfl rfl (cQ ⟨r.aQ,r.bH,r.bW,⟨A2,_,c2⟩,r.Live⟩) fun w7 bP hg => ?_
   have hG:=aP.gr hg;replace hw:=hw.own lu hg;(replace fT:=fT.ay hG rfl;replace hE:=hE.ay hG rfl);refine Wz ?_;exact ae.me rfl rfl bP rfl ⟨_,rfl,hw,⟨A2,_,c2⟩,R++[y],rfl,⟨fT.low (by omega),hE.each⟩⟩
end Go.Proofs.YtjimadiidbkohaaGreatDoor
