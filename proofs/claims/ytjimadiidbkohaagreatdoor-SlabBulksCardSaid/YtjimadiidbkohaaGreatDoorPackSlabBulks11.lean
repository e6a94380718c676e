/-
  Texts of the claim SlabBulks, part 11: what its theorem leans on.
-/
import Derived.Test.YtjimadiidbkohaaGreatDoorPackSlabBulks10
import Derived.Test.YtjimadiidbkohaaGreatDoorPackSlabBulks2
import Derived.Test.YtjimadiidbkohaaGreatDoorPackSlabBulks9
import Derived.Test.YtjimadiidbkohaaGreatDoorPackSlabBulks5
import Derived.Test.YtjimadiidbkohaaGreatDoorPackSlabBulks8
import Derived.Test.YtjimadiidbkohaaGreatDoorPackSlabBulks4
set_option linter.unusedVariables false
set_option linter.unusedSimpArgs false
namespace Go.Proofs.YtjimadiidbkohaaGreatDoor
open Go.RowKit
def mq (z:aq) : Prop:=(-9223372036854775808≤z.aV∧z.aV≤9223372036854775807)∧(-9223372036854775808≤z.To∧z.To≤9223372036854775807)
def oy (h:Heap) : Prop:=h.aN.length=2∧h.bJ.length=2∧1≤h.bX∧h.bX≤4
instance (h:Heap) : Decidable (oy h):=inferInstanceAs (Decidable (_∧_))
theorem bE.ID {h:Heap} (a:bE h) : oy h:=by
 obtain ⟨z0,z1,e,_⟩:=a.cx;obtain ⟨m0,m1,e',_⟩:=a.cn;exact ⟨by rw [e];rfl,by rw [e'];rfl,a.er⟩
structure rK (h:Heap) (z0 z1:aq) : Prop where
 one:bT z0
 two:bT z1
 from_:z0.aV=0
 Ag:z0.To=z1.aV
 ka:z1.To=256
 cn:h.bJ.any uk=false
theorem bE.front {h:Heap} {z0 z1:aq} (a:bE h) (e:h.aN=[z0,z1]) : rK h z0 z1:=by
 obtain ⟨y0,y1,e',a1,a2,a3,a4,a5,_⟩:=a.cx;rw [e] at e';simp only [List.cons.injEq,and_true] at e';obtain ⟨rfl,rfl⟩:=e';obtain ⟨m0,m1,e',b1,b2⟩:=a.cn;exact ⟨a1,a2,a3,a4,a5,by rw [e'];simp [uk];omega⟩
def kh (h:Heap) (z0 z1:aq) : Option (List Block):=bj (some []) (z0.ag++z1.ag)
theorem bE.rest {h:Heap} {z0 z1:aq} (a:bE h) (e:h.aN=[z0,z1]) : kJ h.bX z0.To h.av∧mT h.Live∧(bj (bj (kh h z0 z1) (aS h.av)) h.Live).isSome=true:=by
 obtain ⟨y0,y1,e',a1,a2,a3,a4,a5,a6,a7⟩:=a.cx;rw [e] at e';simp only [List.cons.injEq,and_true] at e';obtain ⟨rfl,rfl⟩:=e';refine ⟨a6,a.live,?_⟩;rw [br,br] at a7;exact a7
theorem bE.of {h:Heap} {z0 z1:aq} (e:h.aN=[z0,z1]) (hd:oy h) (hf:rK h z0 z1) (h1:kJ h.bX z0.To h.av) (h2:mT h.Live) (h3:(bj (bj (kh h z0 z1) (aS h.av)) h.Live).isSome=true) : bE h:=by
 refine ⟨⟨z0,z1,e,hf.one,hf.two,hf.from_,hf.Ag,hf.ka,h1,?_⟩,?_,hd.2.2,h2⟩
 ·rw [br,br];exact h3
 ·obtain ⟨m0,m1,em⟩:=qf hd.2.1;have:=hf.cn
  rw [em] at this;simp [uk] at this;exact ⟨m0,m1,em,by omega,by omega⟩
set_option maxHeartbeats 8000000 in
theorem sP (r:eI) (h:Heap) (w:World) (hr:wH w r h) (hs:h.small) (C8:∀ z∈h.aN,mq z) :
 bt Tryz.prog 34 [.agg (bm r).toArray] w fun v _=>v = .int .i64 (if ja h then 0 else 8):=by
 refine aM Tryz.func34 rfl Tryz.ntmps34 rfl ?_;refine CW.seq (CW.region (SW.box rfl rfl fun b1 w1 hw ik aB => ?_));have CG:=hr.er;have JF:=hr.cn.len;obtain ⟨KH,ui⟩:=hr.cx;obtain ⟨GK,AR⟩:=ui.len;clear ui GK KH;by_cases hd:oy h
 ·obtain ⟨d1,d2,d3⟩:=id hd;obtain ⟨r0,r1,z0,z1,ju⟩:=hr.two d1;have me:=ju.eq;have hA:=ju.row.base;have Ft:=C8 z0 (by rw [me];simp);have pp:=C8 z1 (by rw [me];simp);have s0:=hs.free z0 (by rw [me];simp);have s1:=hs.free z1 (by rw [me];simp);have Nu:=ju.z0.from_;have Nv:=ju.z0.ka;have Nw:=ju.z1.from_;have Nx:=ju.z1.ka;have l0:=ju.z0.free.len;have l1:=ju.z1.free.len;have t0:=ju.z0.types.len;have t1:=ju.z1.types.len;unfold mq at Ft pp;obtain ⟨q0,GL⟩ : ∃ q,ev z0=q:=⟨_,rfl⟩;obtain ⟨q1,qM⟩ : ∃ q,ev z1=q:=⟨_,rfl⟩
  have c0:∀ w',Ext w w'→bt Tryz.prog 59 [.agg (bo r0).toArray] w' fun v _=>v = .int .i64 (if q0 then 0 else 8):=fun w' hx=>by
   have:=kd r0 z0 w' (ju.z0.ext hx) (by omega) (by omega) (by omega) (by omega)
   rwa [GL] at this
  have c1:∀ w',Ext w w'→bt Tryz.prog 59 [.agg (bo r1).toArray] w' fun v _=>v = .int .i64 (if q1 then 0 else 8):=fun w' hx=>by
   have:=kd r1 z1 w' (ju.z1.ext hx) (by omega) (by omega) (by omega) (by omega)
   rwa [qM] at this
  have KI:(q0=true∧q1=true)∨(q0=false)∨(q0=true∧q1=false):=by cases q0<;>cases q1<;>simp
  rcases KI with ⟨rfl,rfl⟩|rfl|⟨rfl,rfl⟩
  all_goals simp only [if_true,Bool.false_eq_true,if_false] at c0 c1
  repeat' (first|refine Wz ?_|refine SW.st (aZ (0) rfl rfl (by assumption) (by omega) (by omega)) rfl ?_|refine SW.st (aZ (1) rfl rfl (by assumption) (by omega) (by omega)) rfl ?_|refine SW.st (aH hw rfl rfl ((ju.c0))) rfl ?_|refine SW.st (aH hw rfl rfl ((ju.c1))) rfl ?_|((first|refine SW.call rfl rfl (c0 _ hw) ?_|refine SW.call rfl rfl (c1 _ hw) ?_);intro v w1 ab hv;subst hv;replace hw:=Ext.trans hw ab;replace aB:=aB.ext ab;clear ab))
  rotate_left
  ·exact ae.aO rfl rfl ⟨_,rfl,hw,by rw [dQ (fun hh=>by have:=dw.2 (hh.front me).one;rw [GL] at this;cases this)];rfl⟩
  ·exact ae.aO rfl rfl ⟨_,rfl,hw,by rw [dQ (fun hh=>by have:=dw.2 (hh.front me).two;rw [qM] at this;cases this)];rfl⟩
  clear c0 c1;have sQ:=dw.1 GL;have B0:=dw.1 qM
  have cO:∀ w',Ext w w'→bt Tryz.prog 60 [.slice r.bJ.A r.bJ.n r.bJ.c,.func (.func 61) #[] ([] : List Value).toArray] w' fun v _=>v = .bool (h.bJ.any uk):=fun w' h =>
   gI _ _ _ _ _ (hr.cn.ext h) _ [] uk (fun x => .int .i64 x) (fun x=>rfl) (fun x _ w1 _=>C7 x w1) (by omega)
  obtain ⟨qm,KJ⟩ : ∃ q,h.bJ.any uk=q:=⟨_,rfl⟩;rw [KJ] at cO;have gU:(r0.aV=0∧r0.To=r1.aV∧r1.To=256∧qm=false)∨r0.aV≠0∨(r0.aV=0∧r0.To≠r1.aV)∨(r0.aV=0∧r0.To=r1.aV∧r1.To≠256)∨(r0.aV=0∧r0.To=r1.aV∧r1.To=256∧qm=true):=by cases qm<;>simp<;>omega
  rcases gU with ⟨d1,d2,d3,rfl⟩|d|⟨d1,d⟩|⟨d1,d2,d⟩|⟨d1,d2,d3,rfl⟩
  repeat' (first|refine Wz ?_|((apply CW.aP mixed;(· kernel_rfl);rotate_left;intro w1 ab;replace hw:=Ext.trans hw ab;replace aB:=aB.ext ab;clear ab;rotate_right))|refine SW.st (aZ (0) rfl rfl (by assumption) (by omega) (by omega)) rfl ?_|refine SW.st (aZ (1) rfl rfl (by assumption) (by omega) (by omega)) rfl ?_|refine SW.st (ao hw rfl (ju.c0 0 _ rfl)) rfl ?_|refine SW.st (ao hw rfl (ju.c0 1 _ rfl)) rfl ?_|refine SW.st (ao hw rfl (ju.c1 0 _ rfl)) rfl ?_|refine SW.st (ao hw rfl (ju.c1 1 _ rfl)) rfl ?_|refine SW.bq rfl rfl (fun w1 ab=>(cO _ (Ext.trans hw ab))) ?_|exact SW.bx rfl)
  rotate_left
  iterate 3 exact ae.aO rfl rfl ⟨_,rfl,hw,by rw [dQ (fun hh=>by have:=hh.front me;have:=this.from_;have:=(hh.front me).Ag;have:=(hh.front me).ka;omega)];rfl⟩
  ·exact ae.aO rfl rfl ⟨_,rfl,hw,by rw [dQ (fun hh=>by have:=(hh.front me).cn;rw [KJ] at this;cases this)];rfl⟩
  have C9:rK h z0 z1:=⟨sQ,B0,by omega,by omega,by omega,KJ⟩
  clear cO;have hn:=ju.n
  have fH:∀ z∈h.aN,∀ b∈z.ag,0≤b.Order∧b.Order≤4:=fun z hz b hb=>by
   obtain ⟨i,hi,rfl⟩:=List.getElem_of_mem hb;rw [me] at hz;simp only [List.mem_cons,List.not_mem_nil,or_false] at hz;rcases hz with rfl|rfl
   ·exact ⟨(sQ.cV i hi).1.1,(sQ.cV i hi).1.2.1⟩
   ·exact ⟨(B0.cV i hi).1.1,(B0.cV i hi).1.2.1⟩
  have Mb:∀ k,mR (bj (some []) ((h.aN.take k).flatMap aq.ag)):=fun k=>iz uI fun x hx=>by
   obtain ⟨z,hz,hx⟩:=List.mem_flatMap.1 hx;have:=fH z (List.mem_of_mem_take hz) x hx
   exact (bH this.1 this.2).1
  refine SW.box rfl rfl fun b3 w2 cJ bM ar => ?_
  have cr:w.heap.size≤b3:=Nat.le_trans hw.size bM
  have hM:Marks w2 b3 256 (some []):=by
   refine Eq.mp (congrArg (fun c=>aI w2 b3 105 c) ?_) ar;kernel_rfl
  clear ar;(replace hw:=Ext.trans hw cJ;replace aB:=aB.ext cJ);repeat' (first|refine Wz ?_|fail)
  refine CW.loop (fun k:Nat=>[(1,.pointer (some ⟨b1,0,none⟩)),(3,.pointer (some ⟨b3,0,none⟩)),(81,.slice r.aN.A r.aN.n r.aN.c),(82,.int .i64 (r.aN.n:Int)),(83,.int .i64 (k:Int))])
   (fun k w'=>k≤2∧Ext w w'∧aI w' b1 27 (bm r)∧Marks w' b3 256 (bj (some []) ((h.aN.take k).flatMap aq.ag))) (fun k=>2-k) 0
   ⟨rfl,rfl,rfl,rfl,rfl,trivial⟩ ⟨by omega,hw,aB,hM⟩ ?_
  clear hw aB hM cJ;rintro k w' ⟨hk,hw,aB,hM⟩
  by_cases Da:k<2
  ·have JJ:k<h.aN.length:=by omega
   have dz:=ju.row.all (i:=k) (by omega)
   have Db:tY w ([r0,r1][k]'(by simpa using Da)) h.aN[k]:=by
    simp only [me];have:k=0∨k=1:=by omega
    rcases this with rfl|rfl
    ·exact ju.z0
    ·exact ju.z1
   generalize Ny:([r0,r1][k]'(by simpa using Da))=rk at dz Db
   have oW:=fH h.aN[k] (List.getElem_mem _);have Fq:=hs.free h.aN[k] (List.getElem_mem _)
   have B8:(h.aN.take (k+1)).flatMap aq.ag=(h.aN.take k).flatMap aq.ag++h.aN[k].ag:=by
    rw [List.take_succ_eq_append_getElem JJ,List.flatMap_append];simp
   generalize h.aN[k]=zk at Db oW Fq B8
   have Nz:=Db.free.base;have ud:=Db.free.len;repeat' (first|refine Wz ?_|refine SW.st (aH hw rfl rfl ((dz))) rfl ?_)
   refine SW.alloc rfl fun b5 w1 ab iC cg => ?_
   skip;refine SW.ap cg rfl rfl rfl rfl (cw _) fun w2 gl hg => ?_
   have aj:=ab.own iC hg;have nP:w.heap.size≤b5:=Nat.le_trans hw.size iC
   replace hw:=Ext.trans hw aj;replace aB:=aB.ext aj;replace hM:=hM.ext aj;replace cg:=gl;clear gl ab hg aj;repeat' (first|refine Wz ?_|fail)
   refine CW.loop (fun j:Nat=>[(1,.pointer (some ⟨b1,0,none⟩)),(3,.pointer (some ⟨b3,0,none⟩)),(81,.slice r.aN.A r.aN.n r.aN.c),(82,.int .i64 (r.aN.n:Int)),(83,.int .i64 (k:Int)),(88,.slice rk.ag.A rk.ag.n rk.ag.c),(89,.int .i64 (rk.ag.n:Int)),(90,.int .i64 (j:Int))])
    (fun j w'=>j≤rk.ag.n∧Ext w w'∧aI w' b1 27 (bm r)∧Marks w' b3 256 (bj (bj (some []) ((h.aN.take k).flatMap aq.ag)) (zk.ag.take j))) (fun j=>rk.ag.n-j) 0
    ⟨rfl,rfl,rfl,rfl,rfl,rfl,rfl,rfl,trivial⟩ ⟨by omega,hw,aB,hM⟩ ?_
   clear hw aB hM cg iC nP;rintro j w' ⟨hj,hw,aB,hM⟩
   by_cases jo:j<rk.ag.n
   ·have kW:j<zk.ag.length:=by omega
    obtain ⟨o1,o2⟩:=oW zk.ag[j] (List.getElem_mem _);have hp:=bH o1 o2;repeat' (first|refine Wz ?_|refine SW.st (aH hw rfl rfl ((Db.free.all jo))) rfl ?_)
    refine SW.alloc rfl fun b7 w1 ab lu j4 => ?_
    skip;refine SW.ap j4 rfl rfl rfl rfl (fO.one (enc:=az) _) fun w2 dL hg => ?_
    have aj:=ab.own lu hg;have q9:w.heap.size≤b7:=Nat.le_trans hw.size lu
    replace hw:=Ext.trans hw aj;replace aB:=aB.ext aj;replace hM:=hM.ext aj;replace j4:=dL;clear dL ab hg aj;repeat' (first|refine Wz ?_|fail);refine CW.any 6 mixed (cq (by kernel_rfl)) rfl fun w1 ab aG => ?_
    replace hw:=Ext.trans hw ab;replace aB:=aB.ext ab;replace hM:=hM.ext ab;replace j4:=j4.ext ab;clear ab;refine Wa ?_;refine SA.take 5 aG rfl (by kernel_rfl) (by kernel_rfl) rfl ?_;repeat ((refine SW.st (fQ (r:=pw zk.ag[j].Order) rfl rfl (by omega) (by omega) (by simp [pw]) (by omega) (by omega)) rfl ?_))
    refine SW.ai ?_;refine SA.done (by kernel_rfl) ?_;refine SW.db rfl rfl (qd b3 _ zk.ag[j] 256 rfl _ hM (iz (Mb k) fun x hx=>by have:=oW x (List.mem_of_mem_take hx);exact (bH this.1 this.2).1) ⟨by omega,by omega⟩) fun v w5 hv => ?_
    obtain ⟨yT,yv⟩:=hv;have hG:=hM.gr yv;replace hw:=hw.own cr yv;(replace aB:=aB.ay hG rfl);rw [← qF _ _ _ kW] at yT;repeat' (first|refine Wz ?_|fail);exact ae.again (j+1) ⟨rfl,rfl,rfl,rfl,rfl,rfl,rfl,rfl,trivial⟩ (by omega) ⟨by omega,hw,aB,yT⟩
   ·obtain rfl:j=rk.ag.n:=by omega
    rw [List.take_of_length_le (l:=zk.ag) (by omega),← br,← B8] at hM;repeat' (first|refine Wz ?_|fail);exact ae.again (k+1) ⟨rfl,rfl,rfl,rfl,rfl,trivial⟩ (by omega) ⟨by omega,hw,aB,hM⟩
  ·obtain rfl:k=2:=by omega
   have KK:=Mb 2;have NA:bj (some []) ((h.aN.take 2).flatMap aq.ag)=kh h z0 z1:=by rw [me];simp [kh]
   rw [NA] at hM KK;repeat' (first|refine Wz ?_|fail);obtain ⟨ls,Hz⟩:=hr.lists;have kB:=Hz.len.2;have Dc:=hs.lists;clear Hz ls;refine SW.db rfl rfl (Bc r h r0 r1 z0 z1 b3 256 rfl (kh h z0 z1) w _ hw cr ju hM KK (by omega)) fun v w5 hv => ?_
   obtain ⟨jJ,yv,sM⟩:=hv;have hG:=hM.gr yv;replace hw:=jJ;(replace aB:=aB.ay hG rfl);clear hM jJ yv hG;rcases sM with ⟨rfl,hL,hM⟩|⟨rfl,ll⟩
   rotate_left
   ·repeat' (first|refine Wz ?_|(refine CW.bG rfl ?_))
    exact ae.aO rfl rfl ⟨_,rfl,hw,by rw [dQ (fun hh=>ll ⟨(hh.rest me).1,ff (m:=h.Live) (by rw [br];exact (hh.rest me).2.2)⟩)];rfl⟩
   have Mc:mR (bj (kh h z0 z1) (aS h.av)):=iz KK fun x hx=>by
    unfold aS at hx;obtain ⟨y,_,hy⟩:=List.mem_flatMap.1 hx;obtain ⟨p,_,rfl⟩:=List.mem_map.1 hy;simp [cX,js]
   have Fx:bE h→(bj (bj (kh h z0 z1) (aS h.av)) h.Live).isSome=true:=fun hh=>(hh.rest me).2.2
   have Me:mT h.Live→(bj (bj (kh h z0 z1) (aS h.av)) h.Live).isSome=true→bE h:=fun a b=>bE.of me hd C9 hL a b
   generalize bj (kh h z0 z1) (aS h.av)=S at hM Mc Fx Me
   have Fy:=hr.live;have Gx:=hr.live.len;have NB:=hr.live.base;have NC:=hs.live;repeat' (first|refine Wz ?_|fail)
   refine CW.loop (fun k:Nat=>[(1,.pointer (some ⟨b1,0,none⟩)),(3,.pointer (some ⟨b3,0,none⟩)),(108,.slice r.Live.A r.Live.n r.Live.c),(109,.int .i64 (r.Live.n:Int)),(110,.int .i64 (k:Int))])
    (fun k w'=>k≤r.Live.n∧Ext w w'∧aI w' b1 27 (bm r)∧Marks w' b3 256 (bj S (h.Live.take k))∧sO h.Live k) (fun k=>r.Live.n-k) 0
    ⟨rfl,rfl,rfl,rfl,rfl,trivial⟩ ⟨by omega,hw,aB,hM,.nil _⟩ ?_
   clear hw aB hM;rintro k w' ⟨hk,hw,aB,hM,hP⟩
   by_cases cb:k<r.Live.n
   ·have di:k<h.Live.length:=by omega
    have EK:k-1<r.Live.n:=by omega
    have ri:bE h→sh h.Live[k]∧(0<k→(h.Live[k-1]'(by omega)).At<h.Live[k].At):=fun hh=>⟨hh.live.each k di,fun h0=>by
     have:=hh.live.next (k-1) (by omega)
     simpa only [show k-1+1=k by omega] using this⟩
    have uR:=Fy.dA EK (j:=0) rfl;repeat' (first|refine Wz ?_|refine SW.st (aH hw rfl rfl ((Fy.all cb))) rfl ?_)
    refine SW.alloc rfl fun b9 w1 ab om bl => ?_
    repeat' (first|refine Wz ?_|fail);refine SW.ap bl rfl rfl rfl rfl (fO.one (enc:=az) _) fun w2 gz hg => ?_
    have aj:=ab.own om hg;have rc:w.heap.size≤b9:=Nat.le_trans hw.size om
    replace hw:=Ext.trans hw aj;replace aB:=aB.ext aj;replace hM:=hM.ext aj;replace bl:=gz;clear gz ab hg aj;repeat' (first|refine Wz ?_|fail);have Be:uQ h.Live[k]→(0<k→(h.Live[k-1]'(by omega)).At<h.Live[k].At)→sO h.Live (k+1):=fun a b=>hP.snoc di a fun h0=>b h0
    have B8:=qF S h.Live k di;generalize KL:h.Live[k]=bb at bl ri Be B8
    generalize J5:(h.Live[k-1]'(by omega)).At=pv at ri Be uR
    simp only [uQ,sh,fy] at ri Be
    have hp:bb.Order<0∨4<bb.Order∨(1≤pw bb.Order∧pw bb.Order≤16):=by
     by_cases h1 : 0≤bb.Order
     ·by_cases h2:bb.Order≤4
      ·exact .inr (.inr (bH h1 h2))
      ·omega
     ·omega
    have em:bb.At<0∨bb.At.tmod (pw bb.Order)=bb.At % pw bb.Order:=by
     by_cases h1 : 0≤bb.At
     ·exact .inr (Int.tmod_eq_emod_of_nonneg h1)
     ·omega
    have gU:bb.Order<0∨(0≤bb.Order∧(4<bb.Order∨(bb.Order≤4∧(bb.At<0∨(0≤bb.At∧(bb.At.tmod (pw bb.Order)≠0∨(bb.At.tmod (pw bb.Order)=0∧(bb.Ty<0∨(0≤bb.Ty∧(3≤bb.Ty∨(bb.Ty<3∧((0<k∧bb.At≤pv)∨k=0∨(0<k∧pv<bb.At)))))))))))) ):=by omega
    rcases gU with d|⟨d1,d|⟨d2,d|⟨d3,d|⟨d4,d|⟨d5,d|⟨d6,⟨pS,d⟩|pS|⟨pS,d⟩⟩⟩⟩⟩⟩⟩
    all_goals (apply CW.aP mixed;(· kernel_rfl);rotate_left;intro w1 ab;replace hw:=Ext.trans hw ab;replace aB:=aB.ext ab;replace bl:=bl.ext ab;replace hM:=hM.ext ab;clear ab;rotate_right)
    repeat' (first|refine Wz ?_|refine SW.st (aZ (k-1) rfl rfl (by assumption) (by omega) (by omega)) rfl ?_|refine SW.st (ao hw rfl uR) rfl ?_|(refine SW.st (fQ (r:=pw bb.Order) rfl rfl (by omega) (by omega) (by simp [pw]) (by omega) (by omega)) rfl ?_)|exact SW.bx rfl)
    iterate 7 exact ae.aO rfl rfl ⟨_,rfl,hw,by rw [dQ (fun hh=>by have:=ri hh;omega)];rfl⟩
    all_goals
     replace Be:=Be ⟨⟨d1,d2⟩,d3,by omega,by omega⟩ (fun h0=>by omega);refine CW.any 6 mixed (cq (by kernel_rfl)) rfl fun w1 ab aG => ?_
     replace hw:=Ext.trans hw ab;replace aB:=aB.ext ab;replace hM:=hM.ext ab;replace bl:=bl.ext ab;clear ab;refine Wa ?_;refine SA.take 5 aG rfl (by kernel_rfl) (by kernel_rfl) rfl ?_;repeat ((refine SW.st (fQ (r:=pw bb.Order) rfl rfl (by omega) (by omega) (by simp [pw]) (by omega) (by omega)) rfl ?_))
     refine SW.ai ?_;refine SA.done (by kernel_rfl) ?_
     refine SW.db rfl rfl (qd b3 _ bb 256 rfl _ hM (iz Mc fun x hx=>by
      obtain ⟨i,hi,rfl⟩:=List.getElem_of_mem hx;rw [List.getElem_take];have:=(hP.each i (by simp at hi;omega) (by simp at hi;omega)).1
      exact (bH this.1 this.2).1) ⟨by omega,by omega⟩) fun v w5 hv => ?_
     obtain ⟨yT,yv⟩:=hv;have hG:=hM.gr yv;replace hw:=hw.own cr yv;(replace aB:=aB.ay hG rfl);rw [← B8] at yT;repeat' (first|refine Wz ?_|fail);exact ae.again (k+1) ⟨rfl,rfl,rfl,rfl,rfl,trivial⟩ (by omega) ⟨by omega,hw,aB,yT,Be⟩
   ·obtain rfl:k=r.Live.n:=by omega
    rw [List.take_of_length_le (by omega)] at hM;have nN:=hM.bad rfl;cases hS:bj S h.Live with
    | none =>
      rw [hS] at nN;repeat' (first|refine Wz ?_|(refine CW.bG rfl ?_)|refine SW.st (ak rfl nN) rfl ?_)
      exact ae.aO rfl rfl ⟨_,rfl,hw,by rw [dQ (fun hh=>by have:=Fx hh;rw [hS] at this;cases this)];rfl⟩
    | some bs =>
      rw [hS] at nN;repeat' (first|refine Wz ?_|(refine CW.bA rfl ?_)|refine SW.st (ak rfl nN) rfl ?_)
      exact ae.aO rfl rfl ⟨_,rfl,hw,by rw [o8 (Me (hP.ok (s:=S) (by omega) (by rw [hS];rfl)) (by rw [hS];rfl))];rfl⟩
 ·rw [dQ (fun hh=>hd hh.ID)];have gU:r.aN.n≠2∨(r.aN.n=2∧(r.bJ.n≠2∨(r.bJ.n=2∧(r.bX<1∨(1≤r.bX∧4<r.bX))))):=by unfold oy at hd;omega
  rcases gU with d|⟨d1,d|⟨d2,d|⟨d3,d⟩⟩⟩
  repeat' (first|refine Wz ?_|fail);all_goals exact ae.aO rfl rfl ⟨_,rfl,hw,rfl⟩
open Go.RowKit
theorem uS {α:Type} {p q : α → Bool}:∀ {l:List α},(∀ x∈l,p x=true→q x=true)→(∃ x∈l,p x=false∧q x=true)→l.countP p<l.countP q
 | [],_,h=>by obtain ⟨x,hx,_⟩:=h;simp at hx
 | a::l,h1,h2=>by
   rw [List.countP_cons,List.countP_cons];have hle:l.countP p≤l.countP q:=List.countP_mono_left (fun x hx=>h1 x (by simp [hx]))
   obtain ⟨x,hx,hp,hq⟩:=h2;rcases List.mem_cons.1 hx with rfl|hx
   ·simp [hp,hq];omega
   ·have ih:=uS (l:=l) (fun y hy=>h1 y (by simp [hy])) ⟨x,hx,hp,hq⟩;have:=h1 a (by simp)
    cases KM:p a<;>cases ND:q a<;>simp [KM,ND] at this ⊢<;>omega
theorem sR:∀ {l:List Block} {cs bs:List Block},(∀ b∈l,1≤pw b.Order)→bj (some cs) l=some bs→cs.length≤(List.range 256).countP (dV cs)→(∀ x∈cs,0≤x.At∧1≤pw x.Order)→bs.length≤(List.range 256).countP (dV bs)
 | [],cs,bs,_,h,hc,_=>by injection h with h;subst h;exact hc
 | b::l,cs,bs,hp,h,hc,hg=>by
   have h':bj (jW (some cs) b) l=some bs:=h
   cases e:jW (some cs) b with
   | none=>rw [e,fp] at h';cases h'
   | some ds =>
     rw [e] at h';obtain ⟨cs',e1,hf,rfl⟩:=lz e;injection e1 with e1
     subst e1;have h1:=hp b (by simp);have iT:=(rC hg h1).2 hf;refine sR (fun x hx=>hp x (by simp [hx])) h' ?_ (fun x hx => ?_)
     ·have:=uS (p:=dV cs) (q:=dV (cs++[b])) (l:=List.range 256) (fun x _ hx=>by simp only [dV,List.any_append,Bool.or_eq_true] at hx ⊢;exact .inl hx)
       ⟨b.At.toNat,by simp;have:=hf.1;have:=hf.2.1;omega,iT.2.2.2 _ (by have:=hf.1;omega) (by have:=hf.1;omega),by
        simp only [dV,List.any_append,Bool.or_eq_true];right;have:=hf.1
        simp [pX];omega⟩
      simp;omega
     ·rcases List.mem_append.1 hx with hx|hx
      ·exact hg x hx
      ·simp at hx;subst hx;exact ⟨hf.1,h1⟩
theorem sS {l bs:List Block} (hp:∀ b∈l,1≤pw b.Order) (h:bj (some []) l=some bs) : bs.length≤256:=by
 have:=sR hp h (by simp) (fun x hx=>by simp at hx)
 have h2:(List.range 256).countP (dV bs)≤(List.range 256).length:=List.countP_le_length
 simp at h2;omega
section
variable {P:Program} {n:Nat} {ops:Array Oper} {Q:Exit→Act→World→Prop} {rest:List Oper} {L:Env} {w:World}
theorem SW.yU {d:Nat} {fo:Operand} {f:FuncId} {cap:List Value} {xs:List Operand} {vs:List Value} {ts:Array TypeId} {T:TypeId} {pos:String} {af:Array Edge} {R:Value→World→Prop}
 [Body P f] (hf:cd L fo=some (.func (.func f) #[] cap.toArray)) (hx:pK L xs=some vs) (hn:Nat.blt d n=true) (hc:il P f (vs++cap) w R) (h:∀ v w',R v w'→SW P n ops (.fF Q) rest ((d,v)::L) w') :
 SW P n ops (.fF Q) (⟨some d,.call ⟨.value fo,xs.toArray,ts⟩,T,pos,af,none⟩::rest) L w :=
 ⟨fun a ha=>by
  simp only [swp,wpList,Region.wanted,if_true];refine .inl ?_;unfold Oper.wp;rw [pM (ha.eval hf),Oper.upon_enter,ha.oM hx];refine Calls.mono hc.out ?_;rintro e w' ⟨v,rfl,hv⟩
  exact (h v w' hv).out _ (ha.put hn v)⟩
end
structure Kp (w w':World) : Prop where
 k:∀ (g:Nat) (t:TypeId) (cs:List Value),aI w g t cs→Nat.beq 77 t=false→Nat.beq 25 t=false→aI w' g t cs
theorem Kp.refl (w:World) : Kp w w:=⟨fun _ _ _ h _ _=>h⟩
theorem Kp.ext {w w1 w2:World} (h:Kp w w1) (hx:Ext w1 w2) : Kp w w2:=⟨fun g t cs hb h1 h2=>(h.k g t cs hb h1 h2).ext hx⟩
theorem Kp.NE {w w1 w2:World} (h:Kp w w1) (hG:nY w1 w2 77) : Kp w w2:=⟨fun g t cs hb h1 h2=>(h.k g t cs hb h1 h2).ay hG h1⟩
theorem Kp.IE {w w1 w2:World} (h:Kp w w1) (hG:nY w1 w2 25) : Kp w w2:=⟨fun g t cs hb h1 h2=>(h.k g t cs hb h1 h2).ay hG h2⟩
structure rj (w:World) (lo b:Nat) (l:List Block) : Prop where
 ex:∃ A c,aI w b 25 [.slice A l.length c]∧Own w lo 77 3 az A l.length c l
theorem rj.ext {w w':World} {lo b:Nat} {l:List Block} (h:rj w lo b l) (hx:Ext w w') : rj w' lo b l:=by
 obtain ⟨A,c,h1,h2⟩:=h.ex;exact ⟨A,c,h1.ext hx,h2.ext hx⟩
theorem Fz (b:Nat) : (⟨b,0,none⟩ : Addr).add 0=⟨b,0,none⟩:=by unfold Addr.add;simp
theorem aI.cell0 {w:World} {b:Nat} {t:TypeId} {cs:List Value} (h:aI w b t cs) {v:Value} (hv:cs[0]?=some v) : w.cell? ⟨b,0,none⟩=some v:=by
 rw [← Fz];exact h.cell hv
def GM (w wE:World) (b:Nat) (l:List Block) (x:Block) (v:Value) (w':World) : Prop:=Ext w w'∧Kp wE w'∧((v = .bool true∧ly l x∧rj w' w.heap.size b (l++[x]))∨(v = .bool false ∧ ¬ ly l x∧rj w' w.heap.size b l))
set_option maxHeartbeats 4000000 in
theorem sU (b:Nat) (l:List Block) (x:Block) (w wE:World) (hw:Ext w wE) (D6:w.heap.size≤b) (hS:rj wE w.heap.size b l) (gd:∀ y∈l,dG 0 256 y) (hlen:l.length≤256) (hx:dG 0 256 x) :
 il Tryz.prog 79 [.agg (az x).toArray,.pointer (some ⟨b,0,none⟩)] wE (GM w wE b l x):=by
 refine dC Tryz.func79 rfl Tryz.ntmps79 rfl ?_;have hK:=Kp.refl wE;obtain ⟨A,c,hB,hO⟩:=hS.ex;clear hS;obtain ⟨⟨o1,o2,a1,a2,a3⟩,ty⟩:=id hx;have hp:=bH o1 o2;refine CW.seq (CW.region (SW.box rfl rfl fun b2 w2 cJ im aK => ?_));(replace hw:=Ext.trans hw cJ;replace hB:=hB.ext cJ;replace hO:=hO.ext cJ;replace hK:=hK.ext cJ);have NF:=hB.cell0 rfl
 have cO:∀ w',Ext w w'→Sl w' 3 az A l.length l→bt Tryz.prog 80 [.slice A l.length c,.int .i64 x.At,.int .i64 x.Order] w' fun v _=>v = .bool (fc l x.At x.Order):=fun w' _ h =>
  oX _ _ _ _ 0 256 _ _ _ h gd (by omega) (by omega) (by omega) ⟨by omega,by omega⟩ ⟨o1,o2⟩
 obtain ⟨q,hq⟩ : ∃ q,fc l x.At x.Order=q:=⟨_,rfl⟩;rw [hq] at cO;have gU:(q=true)∨(q=false∧256<x.At+pw x.Order)∨(q=false∧x.At+pw x.Order≤256):=by cases q<;>simp<;>omega
 rcases gU with rfl|⟨rfl,d⟩|⟨rfl,d⟩
 repeat' (first|refine Wz ?_|((apply CW.aP mixed;(· kernel_rfl);rotate_left;intro w1 ab;replace hw:=Ext.trans hw ab;replace hB:=hB.ext ab;replace hO:=hO.ext ab;replace aK:=aK.ext ab;replace hK:=hK.ext ab;clear ab;rotate_right))|refine SW.st (ak rfl NF) rfl ?_|refine SW.bq rfl rfl (fun w1 ab=>(cO _ (Ext.trans hw ab) (hO.sl.ext ab))) ?_|refine SW.bq rfl rfl (fun w1 ab=>(dh _ (by omega) _)) ?_|exact SW.bx rfl)
 iterate 2 exact ae.aO rfl rfl ⟨_,rfl,hw,hK,.inr ⟨rfl,fun hf=>by have h1:=hf.2.1;have h2:=hf.2.2;simp [hq] at h2<;>omega,⟨A,c,hB,hO⟩⟩⟩
 have JK:=hB.cell0 rfl;repeat' (first|refine Wz ?_|refine SW.st (ak rfl JK) rfl ?_)
 refine SW.bD rfl rfl rfl rfl rfl fun b4 w4 aj bY NG => ?_
 (replace hw:=Ext.trans hw aj;replace hB:=hB.ext aj;replace hO:=hO.ext aj;replace hK:=hK.ext aj);refine SW.append hO (aI.lj (enc:=az) NG) hw.size rfl rfl rfl (by omega) (by omega) fun A2 c2 w5 gf hg => ?_
 have hG:=hO.gr hg;replace hw:=aF hw hg (Nat.le_refl _) hO.aL;replace hK:=hK.NE hG;(replace hB:=hB.ay hG rfl);refine SW.bB (i:=0) hB (by rw [Fz];rfl) rfl rfl rfl fun w6 qZ hg => ?_
 have hG:=hB.gr hg;replace hw:=hw.own D6 hg;replace hK:=hK.IE hG;(replace gf:=gf.ay hG rfl);refine Wz ?_;exact ae.aO rfl rfl ⟨_,rfl,hw,hK,.inl ⟨rfl,⟨a1,d,hq⟩,⟨A2,c2,by simpa using qZ,by simpa using gf⟩⟩⟩
theorem rL {l:List Block} (h:mT l) : l.Pairwise fun x y=>x.At<y.At:=by
 have key:∀ (d i:Nat) (hj:i+d+1<l.length),(l[i]'(by omega)).At<l[i+d+1].At:=by
  intro d;induction d with
  | zero=>intro i hj;exact h.next i hj
  | succ d ih=>intro i hj;exact Int.lt_trans (ih i (by omega)) (h.next (i+d+1) (by omega))
 rw [List.pairwise_iff_getElem];intro i j hi hj kX;have:=key (j-i-1) i (by omega)
 have e:i+(j-i-1)+1=j:=by omega
 simp only [e] at this;exact this
theorem pq {l:List Block} {a:Int} (h:cf l a=true) : ∃ hk:bF l a<l.length,l[bF l a].At=a:=by
 unfold cf at h;split at h
 ·rename_i hk;exact ⟨hk,of_decide_eq_true h⟩
 ·cases h
theorem yV {l:List Block} (hu:l.Pairwise fun x y=>x.At<y.At) {a:Int} {k:Nat} (hk:k<l.length) (h:l[k].At=a) : bF l a=k∧cf l a=true:=by
 rw [List.pairwise_iff_getElem] at hu;have e:bF l a=k:=zY (by omega) (fun j hj kx=>by have:=hu j k hj hk kx;omega) (fun _=>by omega)
 refine ⟨e,?_⟩;unfold cf;simp only [e,dif_pos hk];exact decide_eq_true h
theorem yW {l:List Block} {a:Int} (h:∀ (k:Nat) (hk:k<l.length),l[k].At≠a) : cf l a=false:=by
 unfold cf;split
 ·rename_i hk;exact decide_eq_false (h _ hk)
 ·rfl
structure mr (h:Heap) (z0 z1:aq) : Prop where
 d:lC h z0 z1
 yX:rH h.av
 live:mT h.Live
 lists:∀ l∈h.av,1≤l.aw.length∧l.aw.length≤8
 all:(bj (some []) (z0.ag++z1.ag++aS h.av++h.Live)).isSome=true
 er : 1≤h.bX∧h.bX≤4
 count:h.av.length≤256
theorem Bf {l m:List Block} {a o:Int} (h:∀ x∈l,x∈m) (ho:fc m a o=false) : fc l a o=false:=by
 unfold fc at *;rw [List.any_eq_false] at *;exact fun x hx=>ho x (h x hx)
theorem mr.next {h:Heap} {z0 z1:aq} (f:mr h z0 z1) {k:Nat} (hk:k<h.Live.length) : qG (z0.ag++z1.ag) h.Live[k]:=by
 have gd:=f.all;have e:z0.ag++z1.ag++aS h.av++h.Live=(z0.ag++z1.ag++aS h.av++h.Live.take k)++h.Live[k]::h.Live.drop (k+1):=by simp
 rw [e] at gd;have hf:=l9 gd;have hl:=f.live.each k hk;have hs:∀ x∈z0.ag++z1.ag,x∈z0.ag++z1.ag++aS h.av++h.Live.take k:=fun x hx=>List.mem_append_left _ (List.mem_append_left _ hx)
 obtain ⟨l1,l2,l3,l4⟩:=hl;refine ⟨l1,by omega,l3,⟨hf.1,hf.2.1,Bf hs hf.2.2⟩,fun x hx => ?_⟩;rcases List.mem_append.1 hx with hx|hx
 ·exact j6 f.d.m8 x hx
 ·exact j6 f.d.l8 x hx
theorem jE {h:Heap} (hm:bE h) : ∃ z0 z1,mr h z0 z1:=by
 obtain ⟨z0,z1,h1,h2,h3,h4,h5,h6,h7,h8⟩:=hm.cx;have hd:lC h z0 z1:=⟨h1,h2,h3,h4,h5,h6,ff h8⟩
 have hl:∀ l∈h.av,1≤l.aw.length∧l.aw.length≤8:=fun l hl=>by
  obtain ⟨i,hi,rfl⟩:=List.getElem_of_mem hl;exact (h7.head i hi).2.2.2
 refine ⟨z0,z1,hd,vK h7,hm.live,hl,h8,hm.er,?_⟩
 have key:∀ k,k≤h.av.length→k≤gX h.av k:=by
  intro k;induction k with
  | zero=>intro _;omega
  | succ k ih =>
    intro hk;have:=ih (by omega)
    have:=(hl _ (List.getElem_mem (show k<h.av.length by omega))).1
    rw [sH (show k<h.av.length by omega)];omega
 have hc:=key _ (Nat.le_refl _);rw [vJ] at hc
 have hb:(aS h.av).length≤256:=by
  obtain ⟨bs,tL⟩:=Option.isSome_iff_exists.1 hd.all;have h9:=sS hd.pw tL;have e:=kL tL;rw [List.nil_append] at e;subst e;simp only [List.length_append] at h9;omega
 omega
open Go.RowKit
set_option maxHeartbeats 4000000 in
theorem jX (r:eI) (h:Heap) (w:World) (hr:wH w r h) (hs:h.small) :
 bt Tryz.prog 13 [.agg (bm r).toArray] w fun v w' => ∃ s,v = .agg (bm s).toArray∧iU w' w.heap.size s h:=by
 refine aM Tryz.func13 rfl Tryz.ntmps13 rfl ?_;refine CW.seq (CW.region (SW.box rfl rfl fun b1 w1 hw ik aB => ?_));refine SW.alloc rfl fun b2 w2 cJ im aK => ?_
 have pQ:w.heap.size≤b2:=Nat.le_trans hw.size im
 have yJ:b2≠b1:=by have:=aB.lt;omega
 (replace hw:=Ext.trans hw cJ;replace aB:=aB.ext cJ);obtain ⟨zs,hz⟩:=hr.cx;obtain ⟨ls,hl⟩:=hr.lists;have JF:=hr.cn.len;have Gx:=hr.live.len;have s1:=hs.cn;have s2:=hs.live;have s3:=hs.cx;have s4:=hs.lists;obtain ⟨z1,z2⟩:=hz.len;obtain ⟨l1,l2⟩:=hl.len;refine Wz ?_
 obtain ⟨K,hK⟩ : ∃ K:Env→World→Prop,K=fun L' w' => ∃ X c1 Y d1 b3,eE L' [(1,.pointer (some ⟨b1,0,none⟩)),(2,.pointer (some ⟨b2,0,none⟩)),(3,.pointer (some ⟨b3,0,none⟩))]∧Ext w w'∧aI w' b1 27 (bm r)∧aI w' b2 27 (bm .zero) ∧
  aI w' b3 27 (bm ⟨.nil,⟨X,r.bJ.n,c1⟩,r.bX,.nil,⟨Y,r.Live.n,d1⟩⟩)∧Own w' w.heap.size 3 1 bf X r.bJ.n c1 h.bJ∧Own w' w.heap.size 77 3 az Y r.Live.n d1 h.Live∧w.heap.size≤b3∧b1≠b3∧b2≠b3:=⟨_,rfl⟩
 refine CW.cut K ?_ ?_
 ·refine CW.any 10 mixed (cq (by kernel_rfl)) rfl fun w1 ab aG => ?_
  replace hw:=Ext.trans hw ab;replace aB:=aB.ext ab;replace aK:=aK.ext ab;clear ab;refine Wa ?_;refine SA.two 2 9 rfl rfl (by kernel_rfl) rfl rfl ?_ ?_
  ·refine SW.call rfl rfl (gw _ _ _ _ _ (hr.cn.ext hw) (by omega)) fun v w4 aj hv => ?_
   obtain ⟨X,c4,rfl,hX⟩:=hv;replace hX:=hX.low hw.size;replace hw:=Ext.trans hw aj;replace aB:=aB.ext aj;replace aK:=aK.ext aj;try replace ar:=ar.ext aj
   refine SW.nil (ae.sa aj ?_);refine SA.two 7 9 rfl rfl (by kernel_rfl) rfl rfl ?_ ?_
   ·refine SW.call rfl rfl (lR _ _ _ _ _ (hr.live.ext hw) (by omega)) fun v w4 aj hv => ?_
    obtain ⟨Y,d4,rfl,hY⟩:=hv;replace hY:=hY.low hw.size;replace hX:=hX.ext aj;replace hw:=Ext.trans hw aj;replace aB:=aB.ext aj;replace aK:=aK.ext aj;try replace ar:=ar.ext aj
    refine SW.nil (ae.sa aj ?_);refine Wa ?_;refine SA.one 9 rfl (by kernel_rfl) rfl ?_;refine SW.alloc rfl fun b3 w4 aj bM ar => ?_
    have cr:w.heap.size≤b3:=Nat.le_trans hw.size bM
    have ef:b1≠b3:=by have:=aB.lt;omega
    have ey:b2≠b3:=by have:=aK.lt;omega
    replace hw:=Ext.trans hw aj;replace aB:=aB.ext aj;replace aK:=aK.ext aj;try replace hX:=hX.ext aj
    try replace hY:=hY.ext aj
    refine SW.nil (ae.sa aj ?_);refine SA.done (by kernel_rfl) ?_;skip;refine SW.ap ar rfl rfl rfl rfl (cS ⟨.nil,⟨X,r.bJ.n,c4⟩,r.bX,.nil,⟨Y,r.Live.n,d4⟩⟩) fun w5 bL hg => ?_
    have hG:=ar.gr hg;replace hw:=hw.own cr hg;(replace hX:=hX.ay hG rfl;replace hY:=hY.ay hG rfl);replace aB:=aB.grown hg (by simpa using ef);replace aK:=aK.grown hg (by simpa using ey);refine Wz ?_;exact ae.cut (K:=K) (by rw [hK];exact ⟨X,c4,Y,d4,b3,⟨rfl,rfl,rfl,trivial⟩,hw,aB,aK,bL,hX,hY,cr,ef,ey⟩)
   ·refine SW.alloc rfl fun b3 w4 aj bM ar => ?_
    have cr:w.heap.size≤b3:=Nat.le_trans hw.size bM
    have ef:b1≠b3:=by have:=aB.lt;omega
    have ey:b2≠b3:=by have:=aK.lt;omega
    replace hw:=Ext.trans hw aj;replace aB:=aB.ext aj;replace aK:=aK.ext aj;try replace hX:=hX.ext aj
    try replace hY:=hY.ext aj
    refine SW.nil (ae.sa aj ?_);refine SA.one 7 rfl (by kernel_rfl) rfl ?_;refine SW.call rfl rfl (lR _ _ _ _ _ (hr.live.ext hw) (by omega)) fun v w4 aj hv => ?_
    obtain ⟨Y,d4,rfl,hY⟩:=hv;replace hY:=hY.low hw.size;replace hX:=hX.ext aj;replace hw:=Ext.trans hw aj;replace aB:=aB.ext aj;replace aK:=aK.ext aj;try replace ar:=ar.ext aj
    refine SW.nil (ae.sa aj ?_);refine Wa ?_;refine SA.done (by kernel_rfl) ?_;skip;refine SW.ap ar rfl rfl rfl rfl (cS ⟨.nil,⟨X,r.bJ.n,c4⟩,r.bX,.nil,⟨Y,r.Live.n,d4⟩⟩) fun w5 bL hg => ?_
    have hG:=ar.gr hg;replace hw:=hw.own cr hg;(replace hX:=hX.ay hG rfl;replace hY:=hY.ay hG rfl);replace aB:=aB.grown hg (by simpa using ef);replace aK:=aK.grown hg (by simpa using ey);refine Wz ?_;exact ae.cut (K:=K) (by rw [hK];exact ⟨X,c4,Y,d4,b3,⟨rfl,rfl,rfl,trivial⟩,hw,aB,aK,bL,hX,hY,cr,ef,ey⟩)
  ·refine SW.alloc rfl fun b3 w4 aj bM ar => ?_
   have cr:w.heap.size≤b3:=Nat.le_trans hw.size bM
   have ef:b1≠b3:=by have:=aB.lt;omega
   have ey:b2≠b3:=by have:=aK.lt;omega
   replace hw:=Ext.trans hw aj;replace aB:=aB.ext aj;replace aK:=aK.ext aj;try replace hX:=hX.ext aj
   try replace hY:=hY.ext aj
   refine SW.nil (ae.sa aj ?_);refine SA.one 2 rfl (by kernel_rfl) rfl ?_;refine SW.call rfl rfl (gw _ _ _ _ _ (hr.cn.ext hw) (by omega)) fun v w4 aj hv => ?_
   obtain ⟨X,c4,rfl,hX⟩:=hv;replace hX:=hX.low hw.size;replace hw:=Ext.trans hw aj;replace aB:=aB.ext aj;replace aK:=aK.ext aj;try replace ar:=ar.ext aj
   refine SW.nil (ae.sa aj ?_);refine SA.one 7 rfl (by kernel_rfl) rfl ?_;refine SW.call rfl rfl (lR _ _ _ _ _ (hr.live.ext hw) (by omega)) fun v w4 aj hv => ?_
   obtain ⟨Y,d4,rfl,hY⟩:=hv;replace hY:=hY.low hw.size;replace hX:=hX.ext aj;replace hw:=Ext.trans hw aj;replace aB:=aB.ext aj;replace aK:=aK.ext aj;try replace ar:=ar.ext aj
   refine SW.nil (ae.sa aj ?_);refine Wa ?_;refine SA.done (by kernel_rfl) ?_;skip;refine SW.ap ar rfl rfl rfl rfl (cS ⟨.nil,⟨X,r.bJ.n,c4⟩,r.bX,.nil,⟨Y,r.Live.n,d4⟩⟩) fun w5 bL hg => ?_
   have hG:=ar.gr hg;replace hw:=hw.own cr hg;(replace hX:=hX.ay hG rfl;replace hY:=hY.ay hG rfl);replace aB:=aB.grown hg (by simpa using ef);replace aK:=aK.grown hg (by simpa using ey);refine Wz ?_;exact ae.cut (K:=K) (by rw [hK];exact ⟨X,c4,Y,d4,b3,⟨rfl,rfl,rfl,trivial⟩,hw,aB,aK,bL,hX,hY,cr,ef,ey⟩)
 ·clear aB aK hw;subst hK;rintro L' w' ⟨X,c4,Y,d4,b3,fe,hw,aB,aK,ar,hX,hY,cr,ef,ey⟩
  refine ae.sub fe ?_;refine Wz ?_
  refine CW.loop (fun s:Nat×Option Addr×Nat×List ct=>[(1,.pointer (some ⟨b1,0,none⟩)),(2,.pointer (some ⟨b2,0,none⟩)),(3,.pointer (some ⟨b3,0,none⟩)),(4,.int .i64 (s.1:Int))])
   (fun s w'=>s.1≤r.aN.n∧Ext w w'∧aI w' b1 27 (bm r)∧aI w' b2 27 (bm .zero)∧aI w' b3 27 (bm ⟨⟨s.2.1,s.1,s.2.2.1⟩,⟨X,r.bJ.n,c4⟩,r.bX,.nil,⟨Y,r.Live.n,d4⟩⟩)∧Own w' w.heap.size 3 1 bf X r.bJ.n c4 h.bJ∧Own w' w.heap.size 77 3 az Y r.Live.n d4 h.Live ∧
     gj w' w.heap.size ⟨s.2.1,s.1,s.2.2.1⟩ s.2.2.2 (h.aN.take s.1)) (fun s=>r.aN.n-s.1) (0,none,0,[]) ⟨rfl,rfl,rfl,rfl,trivial⟩ ⟨by omega,hw,aB,aK,ar,hX,hY,gj.nil _ _⟩ ?_
  clear aB aK ar hX hY hw fe;rintro ⟨k,A,c,zr⟩ w' ⟨hk,hw,aB,aK,ar,hX,hY,hO⟩
  simp only at hk ar hO ⊢;have hA:=hz.row.base;by_cases cb:k<r.aN.n
  ·have AU:=hz.each.get k (by omega) (by omega);have ck:h.aN[k]'(by omega)∈h.aN:=List.getElem_mem _
   have q:=hs.free _ ck;have q1:=AU.free.len;have q2:=AU.types.len;repeat' (first|refine Wz ?_|refine SW.st (aH hw rfl rfl ((hz.row.all cb))) rfl ?_)
   refine SW.call rfl rfl (lW _ _ _ (AU.ext hw) (by omega) (by omega)) fun v w4 aj hv => ?_
   obtain ⟨s,rfl,jG⟩:=hv;replace jG:=jG.low hw.size;(replace hw:=Ext.trans hw aj;replace aB:=aB.ext aj;replace aK:=aK.ext aj;replace ar:=ar.ext aj;replace hX:=hX.ext aj;replace hY:=hY.ext aj;replace hO:=hO.ext aj);refine SW.alloc rfl fun b5 w1 ab iC cg => ?_
   skip;refine SW.ap cg rfl rfl rfl rfl (cw s) fun w2 gl hg => ?_
   have aj:=ab.own iC hg;have nP:w.heap.size≤b5:=Nat.le_trans hw.size iC
   replace hw:=Ext.trans hw aj;replace aB:=aB.ext aj;replace aK:=aK.ext aj;replace ar:=ar.ext aj;replace hX:=hX.ext aj;replace hY:=hY.ext aj;replace hO:=hO.ext aj;replace jG:=jG.ext aj;replace cg:=gl;clear gl ab hg aj;refine Wz ?_;refine SW.bD rfl rfl rfl rfl rfl fun b w4 aj hb hB => ?_
   (replace hw:=Ext.trans hw aj;replace aB:=aB.ext aj;replace aK:=aK.ext aj;replace ar:=ar.ext aj;replace cg:=cg.ext aj;replace hX:=hX.ext aj;replace hY:=hY.ext aj;replace hO:=hO.ext aj;replace jG:=jG.ext aj);refine SW.append hO.row (aI.lj (enc:=bo) hB) hw.size rfl rfl rfl (by simp only;omega) (by simp only;omega) fun A2 c2 w5 gi hg => ?_
   have hG:=hO.row.gr hg;replace hw:=aF hw hg (Nat.le_refl _) hO.row.aL;(replace aB:=aB.ay hG rfl;replace aK:=aK.ay hG rfl;replace ar:=ar.ay hG rfl;replace hX:=hX.ay hG rfl;replace hY:=hY.ay hG rfl;replace jG:=jG.ay hG rfl);have hE:=hO.each.mono fun _ _ h=>h.ay hG rfl
   refine Wz ?_;refine SW.bB (i:=0) ar rfl rfl rfl rfl fun w6 cU hg => ?_
   have hG:=ar.gr hg;replace hw:=hw.own cr hg;replace aB:=aB.grown hg (by simpa using ef);replace aK:=aK.grown hg (by simpa using ey);(replace hX:=hX.ay hG rfl;replace hY:=hY.ay hG rfl;replace jG:=jG.ay hG rfl;replace gi:=gi.ay hG rfl);replace hE:=hE.mono fun _ _ h=>h.ay hG rfl
   refine Wz ?_;refine ae.again (k+1,A2,c2,zr++[s]) ⟨rfl,rfl,rfl,rfl,trivial⟩ (by simp only;omega) ⟨by simp only;omega,hw,aB,aK,cU,hX,hY,gi,?_⟩;rw [List.take_succ_eq_append_getElem (by omega)];exact hE.snoc jG
  ·obtain rfl:k=r.aN.n:=by omega
   rw [List.take_of_length_le (by omega)] at hO;refine Wz ?_
   refine CW.loop (fun s:Nat×Option Addr×Nat×List bO=>[(1,.pointer (some ⟨b1,0,none⟩)),(2,.pointer (some ⟨b2,0,none⟩)),(3,.pointer (some ⟨b3,0,none⟩)),(6,.int .i64 (s.1:Int))])
    (fun s w'=>s.1≤r.av.n∧Ext w w'∧aI w' b1 27 (bm r)∧aI w' b2 27 (bm .zero)∧aI w' b3 27 (bm ⟨⟨A,r.aN.n,c⟩,⟨X,r.bJ.n,c4⟩,r.bX,⟨s.2.1,s.1,s.2.2.1⟩,⟨Y,r.Live.n,d4⟩⟩)∧Own w' w.heap.size 3 1 bf X r.bJ.n c4 h.bJ∧Own w' w.heap.size 77 3 az Y r.Live.n d4 h.Live ∧
      gj w' w.heap.size ⟨A,r.aN.n,c⟩ zr h.aN∧cQ w' w.heap.size ⟨s.2.1,s.1,s.2.2.1⟩ s.2.2.2 (h.av.take s.1)) (fun s=>r.av.n-s.1) (0,none,0,[]) ⟨rfl,rfl,rfl,rfl,trivial⟩ ⟨by omega,hw,aB,aK,ar,hX,hY,hO,cQ.nil _ _⟩ ?_
   clear aB aK ar hX hY hw hO;rintro ⟨k,B,d,lr⟩ w' ⟨hk,hw,aB,aK,ar,hX,hY,hO,hP⟩
   simp only at hk ar hP ⊢;have hA:=hl.row.base;by_cases cb:k<r.av.n
   ·have ud:=hl.each.get k (by omega) (by omega);have ck:h.av[k]'(by omega)∈h.av:=List.getElem_mem _
    have q:=hs.cu _ ck;have q1:=ud.cu.len;repeat' (first|refine Wz ?_|refine SW.st (aH hw rfl rfl ((hl.row.all cb))) rfl ?_)
    have Gz:=hP.row.lt_size;refine SW.alloc rfl fun b7 w1 ab lu j4 => ?_
    skip;refine SW.ap j4 rfl rfl rfl rfl (sy _) fun w2 dL hg => ?_
    have aj:=ab.own lu hg;have q9:w.heap.size≤b7:=Nat.le_trans hw.size lu
    replace hw:=Ext.trans hw aj;replace aB:=aB.ext aj;replace aK:=aK.ext aj;replace ar:=ar.ext aj;replace hX:=hX.ext aj;replace hY:=hY.ext aj;replace hO:=hO.ext aj;replace hP:=hP.ext aj;replace j4:=dL;clear dL ab hg aj;refine Wz ?_;refine SW.call rfl rfl (gw _ _ _ _ _ (ud.cu.ext hw) (by omega)) fun v w4 aj hv => ?_
    obtain ⟨W,e4,rfl,hW⟩:=hv;replace hW:=hW.low hw.size;(replace hw:=Ext.trans hw aj;replace aB:=aB.ext aj;replace aK:=aK.ext aj;replace ar:=ar.ext aj;replace j4:=j4.ext aj;replace hX:=hX.ext aj;replace hY:=hY.ext aj;replace hO:=hO.ext aj;replace hP:=hP.ext aj);refine Wz ?_;refine SW.bB (i:=3) j4 rfl rfl rfl rfl fun w5 dL hg => ?_
    have hG:=j4.gr hg;replace hw:=hw.own q9 hg;(replace aB:=aB.ay hG rfl;replace aK:=aK.ay hG rfl;replace ar:=ar.ay hG rfl;replace hX:=hX.ay hG rfl;replace hY:=hY.ay hG rfl;replace hO:=hO.ay hG rfl;replace hW:=hW.ay hG rfl);replace hP:cQ w5 w.heap.size ⟨B,k,d⟩ lr (h.av.take k):=⟨hP.row.grown hg (.inr (fun e=>by have:=Gz _ e;omega)),hP.each.mono fun _ _ h=>h.ay hG rfl⟩;refine Wz ?_;refine SW.bD rfl rfl rfl rfl rfl fun b w6 aj hb hB => ?_
    (replace hw:=Ext.trans hw aj;replace aB:=aB.ext aj;replace aK:=aK.ext aj;replace ar:=ar.ext aj;replace hX:=hX.ext aj;replace hY:=hY.ext aj;replace hO:=hO.ext aj;replace hP:=hP.ext aj;replace hW:=hW.ext aj);refine SW.append hP.row (aI.lj (enc:=bp) (x:=⟨ls[k].dU,ls[k].aq,ls[k].Ty,⟨W,_,e4⟩⟩) hB) hw.size rfl rfl rfl (by simp only;omega) (by simp only;omega) fun A2 c2 w7 GA hg => ?_
    have hG:=hP.row.gr hg;replace hw:=aF hw hg (Nat.le_refl _) hP.row.aL;(replace aB:=aB.ay hG rfl;replace aK:=aK.ay hG rfl;replace ar:=ar.ay hG rfl;replace hX:=hX.ay hG rfl;replace hY:=hY.ay hG rfl;replace hO:=hO.ay hG rfl;replace hW:=hW.ay hG rfl);have hE:=hP.each.mono fun _ _ h=>h.ay hG rfl
    refine Wz ?_;refine SW.bB (i:=3) ar rfl rfl rfl rfl fun w8 cU hg => ?_
    have hG:=ar.gr hg;replace hw:=hw.own cr hg;replace aB:=aB.grown hg (by simpa using ef);replace aK:=aK.grown hg (by simpa using ey);(replace hX:=hX.ay hG rfl;replace hY:=hY.ay hG rfl;replace hO:=hO.ay hG rfl;replace GA:=GA.ay hG rfl;replace hW:=hW.ay hG rfl);replace hE:=hE.mono fun _ _ h=>h.ay hG rfl
    refine Wz ?_;refine ae.again (k+1,A2,c2,lr++[⟨ls[k].dU,ls[k].aq,ls[k].Ty,⟨W,_,e4⟩⟩]) ⟨rfl,rfl,rfl,rfl,trivial⟩ (by simp only;omega) ⟨by simp only;omega,hw,aB,aK,cU,hX,hY,hO,GA,?_⟩;rw [List.take_succ_eq_append_getElem (by omega)];exact hE.snoc ⟨ud.cpu,ud.fC,ud.ty,hW⟩
   ·obtain rfl:k=r.av.n:=by omega
    rw [List.take_of_length_le (by omega)] at hP;refine Wz ?_;refine SW.ap aK rfl rfl rfl rfl (cS _) fun w5 bL hg => ?_
    have hG:=aK.gr hg;replace hw:=hw.own pQ hg;(replace hX:=hX.ay hG rfl;replace hY:=hY.ay hG rfl;replace hO:=hO.ay hG rfl;replace hP:=hP.ay hG rfl);refine Wz ?_;exact ae.mn rfl rfl bL rfl ⟨_,rfl,hw,⟨_,_,r.bX,_,_⟩,rfl,hr.er,hX,hY,⟨zr,hO⟩,⟨lr,hP⟩⟩
open Go.RowKit
structure na (w:World) (lo:Nat) (m li lv:fR) (ls:List bO) (h:Heap) : Prop where
 cn:Own w lo 3 1 bf m.A m.n m.c h.bJ
 live:Own w lo 77 3 az lv.A lv.n lv.c h.Live
 lists:cQ w lo li ls h.av
section
variable {w w':World} {lo t:Nat} {m li lv:fR} {ls:List bO} {h:Heap}
theorem na.ext (a:na w lo m li lv ls h) (hx:Ext w w') : na w' lo m li lv ls h:=⟨a.cn.ext hx,a.live.ext hx,a.lists.ext hx⟩
theorem na.ay (a:na w lo m li lv ls h) (hG:nY w w' t) (cG:(Nat.beq t 3 || (Nat.beq t 77 || Nat.beq t 62))=false) : na w' lo m li lv ls h:=by
 simp only [Bool.or_eq_false_iff] at cG;obtain ⟨h1,h2,h3⟩:=cG;exact ⟨a.cn.ay hG h1,a.live.ay hG h2,a.lists.ay hG (by simp [h1,h3])⟩
theorem iU.split {r:eI} (a:iU w lo r h) {z0 z1:aq} (hz:h.aN=[z0,z1]) : ∃ g c u0 u1 ls,r.aN=⟨some ⟨g,0,none⟩,2,c⟩∧ec w lo g c u0 u1 (z0,z1)∧na w lo r.bJ r.av r.Live ls h:=by
 obtain ⟨zs,ui⟩:=a.cx;obtain ⟨ls,Hz⟩:=a.lists;have l0:=ui.each.len;rw [hz] at l0;obtain ⟨u0,u1,rfl⟩:=qf (show zs.length=2 from l0);have l1:=ui.row.len;have h0:=ui.each.get 0 (by simp) (by simp [hz]);have h1:=ui.each.get 1 (by simp) (by simp [hz]);simp only [hz] at h0 h1;have hc : 0<r.aN.c:=by have:=ui.row.le;simp at l1;omega
 obtain ⟨g,rest,hA,fG,_⟩:=ui.row.opened hc;refine ⟨g,r.aN.c,u0,u1,ls,?_,⟨?_,h0,h1,fG,hc⟩,⟨a.cn,a.live,Hz⟩⟩
 ·rw [← hA];have:(2:Nat)=r.aN.n:=l1
  rw [this]
 ·have:=ui.row
  rw [hA,← l1] at this;exact this
end
structure G2 (w0 w:World) (g b:Nat) : Prop where
 os:w.os=w0.os
 tape:w.tape=w0.tape
 output:w.output=w0.output
 size:w0.heap.size≤w.heap.size
 block:∀ k,k<w0.heap.size→k≠g→k≠b→w.heap[k]?=w0.heap[k]?
section
variable {w0 w w':World} {g b k t:Nat} {cs:List Value}
theorem G2.refl (w:World) (g b:Nat) : G2 w w g b:=⟨rfl,rfl,rfl,Nat.le_refl _,fun _ _ _ _=>rfl⟩
theorem G2.step (h:G2 w0 w g b) {row:Option Nat} (hg:w.grownBy w' row) (hr:∀ k,row=some k→k=g∨k=b∨w0.heap.size≤k) : G2 w0 w' g b :=
 ⟨hg.os.trans h.os,hg.tape.trans h.tape,hg.output.trans h.output,Nat.le_trans h.size hg.size,fun k hk h1 h2=>by
  rw [hg.block k (Nat.lt_of_lt_of_le hk h.size) (fun e=>by rcases hr k e.symm with e|e|e<;>omega)];exact h.block k hk h1 h2⟩
theorem G2.ext (h:G2 w0 w g b) (hx:Ext w w') : G2 w0 w' g b:=h.step (hx.gr none) (fun k e=>by cases e)
theorem G2.GN (h:G2 w0 w g b) (hg:w.grownBy w' (some g)) : G2 w0 w' g b:=h.step hg (fun k e=>by cases e;exact .inl rfl)
theorem G2.new (h:G2 w0 w g b) (hg:w.grownBy w' (some k)) (hk:w0.heap.size≤k) : G2 w0 w' g b:=h.step hg (fun i e=>by cases e;exact .inr (.inr hk))
theorem G2.cV (h:G2 w0 w g b) (hB:aI w0 k t cs) (h1:k≠g) (h2:k≠b) : aI w k t cs:=(h.block k hB.lt h1 h2).trans hB
end
noncomputable def iN (h:Heap) (z0 z1:aq) (k:Nat) : aq×aq:=dt (z0,z1) ((aS h.av).take k)
open Go.RowKit
noncomputable def nb (z:aq) : Int×Int:=if ev z then (dK z.ag,0) else (0,8)
theorem yY (A:Option Addr) (n c:Nat) (l:List Block) (w:World) (hl:Sl w 3 az A n l) (iT:∀ b∈l,0≤b.Order∧b.Order≤4) (hn:n≤100000000000000000) :
 bt Tryz.prog 116 [.slice A n c] w fun v _=>v = .int .i64 (dK l):=by
 refine aM Tryz.func116 rfl Tryz.ntmps116 rfl ?_;have hw:=Ext.refl w;have hA:=hl.base;repeat' (first|refine Wz ?_|(first|refine CW.gB rfl (fun h => ?_) (fun h => ?_)|refine CW.gC rfl (fun h => ?_) (fun h => ?_)|refine CW.bG rfl ?_|refine CW.bA rfl ?_|refine CW.cond rfl (fun h => ?_) (fun h => ?_))|refine SW.bZ rfl rfl rfl (fun h => ?_) (fun h => ?_)|refine SW.eG rfl rfl rfl (fun h => ?_) (fun h => ?_)|refine SW.want rfl rfl ?_|refine SW.skip rfl rfl rfl rfl ?_|refine SW.jQ rfl rfl rfl ?_|refine SW.split rfl rfl rfl (fun h => ?_) (fun h => ?_))
 refine CW.loop (fun k:Nat=>[(0,.slice A n c),(3,.int .i64 (dK (l.take k))),(4,.int .i64 (k:Int))]) (fun k w'=>k≤n∧Ext w w'∧0≤dK (l.take k)∧dK (l.take k)≤16*(k:Int)) (fun k=>n-k) 0 ⟨rfl,rfl,rfl,trivial⟩ ⟨by omega,hw,by simp [dK],by simp [dK]⟩ ?_;clear hw;rintro k w' ⟨hk,hw,OR,tO⟩
 by_cases cb:k<n
 ·have di:=hl.lt cb;obtain ⟨f1,f2⟩:=iT l[k] (List.getElem_mem di);have hp:=bH f1 f2;have et:=lS l k di;repeat' (first|refine Wz ?_|(first|refine CW.gB rfl (fun h => ?_) (fun h => ?_)|refine CW.gC rfl (fun h => ?_) (fun h => ?_)|refine CW.bG rfl ?_|refine CW.bA rfl ?_|refine CW.cond rfl (fun h => ?_) (fun h => ?_))|refine SW.bZ rfl rfl rfl (fun h => ?_) (fun h => ?_)|refine SW.eG rfl rfl rfl (fun h => ?_) (fun h => ?_)|refine SW.want rfl rfl ?_|refine SW.skip rfl rfl rfl rfl ?_|refine SW.jQ rfl rfl rfl ?_|refine SW.split rfl rfl rfl (fun h => ?_) (fun h => ?_)|refine SW.st (aY rfl rfl ((hl.all cb))) rfl ?_|refine SW.st (aH hw rfl rfl ((hl.all cb))) rfl ?_|refine SW.st (ak rfl (hl.dA cb rfl)) rfl ?_|refine SW.st (ao hw rfl (hl.dA cb rfl)) rfl ?_|(refine SW.call rfl rfl (dh _ (by omega) _) ?_;intro v w1 ab hv;subst hv;replace hw:=Ext.trans hw ab;clear ab))
  exact ae.again (k+1) ⟨rfl,by rw [et];rfl,rfl,trivial⟩ (by omega) ⟨by omega,hw,by omega,by omega⟩
 ·repeat' (first|refine Wz ?_|(first|refine CW.gB rfl (fun h => ?_) (fun h => ?_)|refine CW.gC rfl (fun h => ?_) (fun h => ?_)|refine CW.bG rfl ?_|refine CW.bA rfl ?_|refine CW.cond rfl (fun h => ?_) (fun h => ?_))|refine SW.bZ rfl rfl rfl (fun h => ?_) (fun h => ?_)|refine SW.eG rfl rfl rfl (fun h => ?_) (fun h => ?_)|refine SW.want rfl rfl ?_|refine SW.skip rfl rfl rfl rfl ?_|refine SW.jQ rfl rfl rfl ?_|refine SW.split rfl rfl rfl (fun h => ?_) (fun h => ?_))
  refine ae.aO rfl rfl ⟨_,rfl,hw,?_⟩;rw [List.take_of_length_le (by have:=hl.len;omega)]
theorem yZ (r:ct) (z:aq) (w:World) (hr:tY w r z) (hf:r.ag.n≤100000000000000000) (ht:r.Types.n≤1000000000000000000) (h1 : -9223372036854775808≤r.aV∧r.aV≤9223372036854775807) (h2 : -9223372036854775808≤r.To∧r.To≤9223372036854775807) :
 bt Tryz.prog 131 [.agg (bo r).toArray] w fun v _=>v = .tuple #[.int .i64 (nb z).1,.int .i64 (nb z).2]:=by
 refine aM Tryz.func131 rfl Tryz.ntmps131 rfl ?_;refine CW.seq (CW.region (SW.box rfl rfl fun b1 w1 hw ik aB => ?_));have Co:=hr.free.len;obtain ⟨q,hq⟩ : ∃ q,ev z=q:=⟨_,rfl⟩
 have c1:∀ w',Ext w w'→bt Tryz.prog 59 [.agg (bo r).toArray] w' fun v _=>v = .int .i64 (if q then 0 else 8):=fun w' h=>by
  have:=kd r z w' (hr.ext h) (by omega) (by omega) h1 h2
  rwa [hq] at this
 cases q
 ·have e:nb z=(0,8):=by simp [nb,hq]
  rw [e];simp only [Bool.false_eq_true,if_false] at c1;repeat' (first|refine Wz ?_|(first|refine CW.gB rfl (fun h => ?_) (fun h => ?_)|refine CW.gC rfl (fun h => ?_) (fun h => ?_)|refine CW.bG rfl ?_|refine CW.bA rfl ?_|refine CW.cond rfl (fun h => ?_) (fun h => ?_))|refine SW.bZ rfl rfl rfl (fun h => ?_) (fun h => ?_)|refine SW.eG rfl rfl rfl (fun h => ?_) (fun h => ?_)|refine SW.want rfl rfl ?_|refine SW.skip rfl rfl rfl rfl ?_|refine SW.jQ rfl rfl rfl ?_|refine SW.split rfl rfl rfl (fun h => ?_) (fun h => ?_)|refine SW.st (aH hw rfl rfl ((fun _ _=>aB.cell))) rfl ?_|(refine SW.call rfl rfl (c1 _ hw) ?_;intro v w1 ab hv;subst hv;replace hw:=Ext.trans hw ab;replace aB:=aB.ext ab;clear ab))
  exact ae.cy rfl rfl rfl ⟨_,rfl,hw,rfl⟩
 ·simp only [if_true] at c1;have hz:=dw.1 hq;have e:nb z=(dK z.ag,0):=by simp [nb,hq]
  rw [e];repeat' (first|refine Wz ?_|(first|refine CW.gB rfl (fun h => ?_) (fun h => ?_)|refine CW.gC rfl (fun h => ?_) (fun h => ?_)|refine CW.bG rfl ?_|refine CW.bA rfl ?_|refine CW.cond rfl (fun h => ?_) (fun h => ?_))|refine SW.bZ rfl rfl rfl (fun h => ?_) (fun h => ?_)|refine SW.eG rfl rfl rfl (fun h => ?_) (fun h => ?_)|refine SW.want rfl rfl ?_|refine SW.skip rfl rfl rfl rfl ?_|refine SW.jQ rfl rfl rfl ?_|refine SW.split rfl rfl rfl (fun h => ?_) (fun h => ?_)|refine SW.st (aH hw rfl rfl ((fun _ _=>aB.cell))) rfl ?_|refine SW.st (ao hw rfl (aB.cell rfl)) rfl ?_|(refine SW.call rfl rfl (c1 _ hw) ?_;intro v w1 ab hv;subst hv;replace hw:=Ext.trans hw ab;replace aB:=aB.ext ab;clear ab))
  refine CW.loop (fun k:Nat=>[(5,.int .i64 (dK (z.ag.take k))),(14,.slice r.ag.A r.ag.n r.ag.c),(15,.int .i64 (r.ag.n:Int)),(16,.int .i64 (k:Int))]) (fun k w'=>k≤r.ag.n∧Ext w w') (fun k=>r.ag.n-k) 0 ⟨rfl,rfl,rfl,rfl,trivial⟩ ⟨by omega,hw⟩ ?_;clear hw aB;rintro k w' ⟨hk,hw⟩
  have hA:=hr.free.base;by_cases cb:k<r.ag.n
  ·have di:=hr.free.lt cb;obtain ⟨f1,f2,_⟩:=(hz.cV k di).1;have hp:=bH f1 f2;have et:=lS z.ag k di;have hs:=jr hz k (by omega);repeat' (first|refine Wz ?_|(first|refine CW.gB rfl (fun h => ?_) (fun h => ?_)|refine CW.gC rfl (fun h => ?_) (fun h => ?_)|refine CW.bG rfl ?_|refine CW.bA rfl ?_|refine CW.cond rfl (fun h => ?_) (fun h => ?_))|refine SW.bZ rfl rfl rfl (fun h => ?_) (fun h => ?_)|refine SW.eG rfl rfl rfl (fun h => ?_) (fun h => ?_)|refine SW.want rfl rfl ?_|refine SW.skip rfl rfl rfl rfl ?_|refine SW.jQ rfl rfl rfl ?_|refine SW.split rfl rfl rfl (fun h => ?_) (fun h => ?_)|refine SW.st (aY rfl rfl ((hr.free.all cb))) rfl ?_|refine SW.st (aH hw rfl rfl ((hr.free.all cb))) rfl ?_)
   refine SW.alloc rfl fun b7 w3 j2 lu j4 => ?_
   have q9:w.heap.size≤b7:=Nat.le_trans hw.size lu
   replace hw:=Ext.trans hw j2;repeat' (first|refine Wz ?_|(first|refine CW.gB rfl (fun h => ?_) (fun h => ?_)|refine CW.gC rfl (fun h => ?_) (fun h => ?_)|refine CW.bG rfl ?_|refine CW.bA rfl ?_|refine CW.cond rfl (fun h => ?_) (fun h => ?_))|refine SW.bZ rfl rfl rfl (fun h => ?_) (fun h => ?_)|refine SW.eG rfl rfl rfl (fun h => ?_) (fun h => ?_)|refine SW.want rfl rfl ?_|refine SW.skip rfl rfl rfl rfl ?_|refine SW.jQ rfl rfl rfl ?_|refine SW.split rfl rfl rfl (fun h => ?_) (fun h => ?_))
   refine SW.ap j4 rfl rfl rfl rfl (fO.one (enc:=az) _) fun w4 dL hg => ?_
   replace hw:=hw.own q9 hg;repeat' (first|refine Wz ?_|(first|refine CW.gB rfl (fun h => ?_) (fun h => ?_)|refine CW.gC rfl (fun h => ?_) (fun h => ?_)|refine CW.bG rfl ?_|refine CW.bA rfl ?_|refine CW.cond rfl (fun h => ?_) (fun h => ?_))|refine SW.bZ rfl rfl rfl (fun h => ?_) (fun h => ?_)|refine SW.eG rfl rfl rfl (fun h => ?_) (fun h => ?_)|refine SW.want rfl rfl ?_|refine SW.skip rfl rfl rfl rfl ?_|refine SW.jQ rfl rfl rfl ?_|refine SW.split rfl rfl rfl (fun h => ?_) (fun h => ?_)|refine SW.st (ao hw rfl (dL.cell rfl)) rfl ?_|(refine SW.st (fQ (r:=pw (z.ag[k]).Order) rfl rfl (by omega) (by omega) (by simp [pw]) (by omega) (by omega)) rfl ?_))
   exact ae.again (k+1) ⟨by rw [et];rfl,rfl,rfl,rfl,trivial⟩ (by omega) ⟨by omega,hw⟩
  ·repeat' (first|refine Wz ?_|(first|refine CW.gB rfl (fun h => ?_) (fun h => ?_)|refine CW.gC rfl (fun h => ?_) (fun h => ?_)|refine CW.bG rfl ?_|refine CW.bA rfl ?_|refine CW.cond rfl (fun h => ?_) (fun h => ?_))|refine SW.bZ rfl rfl rfl (fun h => ?_) (fun h => ?_)|refine SW.eG rfl rfl rfl (fun h => ?_) (fun h => ?_)|refine SW.want rfl rfl ?_|refine SW.skip rfl rfl rfl rfl ?_|refine SW.jQ rfl rfl rfl ?_|refine SW.split rfl rfl rfl (fun h => ?_) (fun h => ?_))
   refine ae.cy rfl rfl rfl ⟨_,rfl,hw,?_⟩;rw [List.take_of_length_le (by omega)]
open Go.RowKit
theorem eH.two {α β:Type} {R : α → β → Prop} {a b : α} {c d : β} (h1:R a c) (h2:R b d) : eH R [a,b] [c,d]:=eH.snoc (eH.snoc eH.nil h1) h2
open Go.RowKit
end Go.Proofs.YtjimadiidbkohaaGreatDoor
