/- Part 7 of what kmemRuns_holds leans on. -/
import Derived.Test.YtdlfabkacdgneaaGreatDoorPackKmemRuns4
set_option maxHeartbeats 16000000
set_option linter.unusedVariables false
set_option linter.unusedSimpArgs false
set_option linter.defProp false
open Go.Proofs.Tryz
namespace Go.Proofs.YtdlfabkacdgneaaGreatDoor
open Go.RowKit
variable {f:Int} {j k:Nat}
def qx(L:List Block):Prop:=bh (some []) L=some L∧∀y∈L,eG 0 256 y
theorem qx.nil:qx []:=⟨Z,λy h=>by grind⟩
theorem qx.len{L:List Block}(h:qx L):L.length<=256:=wY (λb hb=>(bP (h.2 b hb).1.1 (h.2 b hb).1.2.1).1) h.1
theorem qx.add{L:List Block}{b:Block}(h:qx L)(hb:eG 0 256 b)(c:mQ L b):qx (L++[b]):=by
 refine⟨?_,λy a=>?_⟩
 ·rw[bF,h.1];show kn (some L) b=_
  simp[kn,c]
 rcases Px.1 a with a|a
 ·exact h.2 y a
 grind
theorem qx.no{L M:List Block}{b:Block}(h:qx L)(a:¬mQ L b):bh (some []) (L++[b]++M)=none:=by
 rw[bF,bF,h.1];grind[bF,bh,kn,il]
theorem eG.wide{t:Int}{b:Block}(h:eG f t b)(e:0<=f)(g:t<=256):eG 0 256 b:=by
 obtain⟨⟨a,c,i,j,d⟩,ty⟩:=h;exact⟨⟨a,c,by omega,by omega,d⟩,ty⟩
theorem Ed{a:List ap}(b:k<a.length)(c:j<(a[k]).ai.length):∃M,a.flatMap ap.ai=((a.take k).flatMap ap.ai++(a[k]).ai.take j)++[(a[k]).ai[j]]++M:=by
 refine⟨(a[k]).ai.drop (j+1)++(a.drop (k+1)).flatMap ap.ai,?_⟩;have d:a=a.take k++([a[k]]++a.drop (k+1)):=by simp
 have e:(a[k]).ai=(a[k]).ai.take j++([(a[k]).ai[j]]++(a[k]).ai.drop (j+1)):=by simp
 grind
theorem bf.all{h:Heap}(a:bf h):(bh (some []) (h.aK.flatMap ap.ai++aM h.ak++h.Live)).isSome=true:=by
 obtain⟨b,c,e,_,_,_,_,_,_,d⟩:=a.bA<;>grind
theorem tx(r:fB)(h:Heap)(w:World)(hr:AQ w r h)(hs:h.small)(zB:∀z∈h.aK,ew z):
 aS prog 103 [.agg (bg r).toArray] w λv _=>v= .bool (gd h):=by
 refine Wj func103 ntmps103 ?_;refine Ww λb1 Q g yf f=>?_;have zC:=hr.cpus;have yi:=hr.cx.len;obtain⟨zS,zD⟩:=hr.bA;obtain⟨zE,yj⟩:=zD.len;by_cases hd:sn h
 ·obtain⟨d1,d2,d3⟩:=id hd;obtain⟨K,N,R,z1,o⟩:=hr.two d1;obtain⟨m0,m1,em⟩:=sk d2;have zm:=hr.cx;rw[em]at zm;have yk:=hr.cx.base;have zT:0<r.bY.n:=Y;have zU:1<r.bY.n:=Y;have g0:w.cell? ((r.bY.A.getD default).add (0*1))=some (Iv m0):=zm.one zT Z;have g1:w.cell? ((r.bY.A.getD default).add (1*1))=some (Iv m1):=zm.one zU Z;have A:=o.eq;have hA:=o.row.base;have zV:=zB R (by rw[A];simp);have zF:=zB z1 (by rw[A];simp);have s0:=hs.free R (by rw[A];simp);have s1:=hs.free z1 (by rw[A];simp);have yl:=o.z0.from_;have ym:=o.z0.kW;have yn:=o.z1.from_;have yo:=o.z1.kW;have l0:=o.z0.free.len;have l1:=o.z1.free.len;have t0:=o.z0.types.len;have t1:=o.z1.types.len;unfold ew at zV zF;obtain⟨q0,zr⟩:=bq (dZ R);obtain⟨q1,zs⟩:=bq (dZ z1)
  have c0:∀x,Ext w x->aS prog 178 [.agg (bu K).toArray] x λv _=>v= .bool q0:=λx hx=>by
   have:=lH K R x (o.z0.ext hx) Y Y Y Y;rwa[zr]at this
  have c1:∀x,Ext w x->aS prog 178 [.agg (bu N).toArray] x λv _=>v= .bool q1:=λx hx=>by
   have:=lH N z1 x (o.z1.ext hx) Y Y Y Y;rwa[zs]at this
  have zW:(q0=true∧q1=true)∨(q0=false)∨(q0=true∧q1=false):=by cases q0<;>cases q1<;>simp
  rcases zW with⟨rfl,rfl⟩|rfl|⟨rfl,rfl⟩
  repeat'(first|refine Wz ?_|(first|refine CW.bQ Z ?_|refine CW.bo Z ?_)|refine SW.want Z Z ?_|refine SW.skip Z Z Z Z ?_|refine SW.st (aU (0) Z Z ig Y Y) Z ?_|refine SW.st (aU (1) Z Z ig Y Y) Z ?_|refine SW.st (g7 g Z Z ((o.c0))) Z ?_|refine SW.st (g7 g Z Z ((o.c1))) Z ?_|((first|refine SW.call Z Z (c0 _ g) ?_|refine SW.call Z Z (c1 _ g) ?_|refine SW.call Z Z (bE _ _ _ _) ?_);intro v Q m L;subst L;obtain⟨g,f⟩:=bk m g f))
  rotate_left
  ·exact ah.aF Z Z ⟨_,Z,g,by rw[fI (λB=>by have:=dj.2 (B.front A).one;rw[zr]at this;cases this)]⟩
  ·exact ah.aF Z Z ⟨_,Z,g,by rw[fI (λB=>by have:=dj.2 (B.front A).two;rw[zs]at this;cases this)]⟩
  have S:=dj.1 zr;have zn:=dj.1 zs;have C:(K.aE=0∧N.aE=K.To∧N.To=256∧(0<=m0∧m0<=256)∧(0<=m1∧m1<=256))∨K.aE≠0∨(K.aE=0∧N.aE≠K.To)∨(K.aE=0∧N.aE=K.To∧N.To≠256)∨(K.aE=0∧N.aE=K.To∧N.To=256∧¬(0<=m0∧m0<=256))∨(K.aE=0∧N.aE=K.To∧N.To=256∧(0<=m0∧m0<=256)∧¬(0<=m1∧m1<=256)):=Y
  have zG:bf h->(0<=m0∧m0<=256)∧(0<=m1∧m1<=256):=λB=>by
   have:=(B.front A).cx;rw[em]at this;simp[AV]at this;omega
  rcases C with⟨d1,d2,d3,d4,d5⟩|d|⟨d1,d⟩|⟨d1,d2,d⟩|⟨d1,d2,d3,d⟩|⟨d1,d2,d3,d4,d⟩
  repeat'(first|refine Wz ?_|refine fq ?_|refine SW.st (aU (0) Z Z ig Y Y) Z ?_|refine SW.st (aU (1) Z Z ig Y Y) Z ?_|refine SW.st (bX g Z (o.c0 0 _ Z)) Z ?_|refine SW.st (bX g Z (o.c0 1 _ Z)) Z ?_|refine SW.st (bX g Z (o.c1 0 _ Z)) Z ?_|refine SW.st (bX g Z (o.c1 1 _ Z)) Z ?_|refine SW.st (bX g Z g0) Z ?_|refine SW.st (bX g Z g1) Z ?_|refine SW.ba Z Z (λQ m=>(bE _ _ _ _)) ?_|(refine SW.br λQ m=>?_;obtain⟨g,f⟩:=bk m g f))
  rotate_left
  iterate 5 exact ah.aF Z Z ⟨_,Z,g,by rw[fI (λB=>by have h1:=(B.front A).from_;have h2:=(B.front A).AT;have h3:=(B.front A).kW;have h4:=zG B;omega)]⟩
  have yg:0<=R.aE∧R.aE<=R.To∧R.To<=256:=⟨S.ok.1,S.ok.2.1,S.ok.2.2.1⟩;have zX:v5 h R z1:=⟨S,zn,by omega,by omega,by omega,by rw[em];simp[AV];omega⟩;have hn:=o.n
  have z2:∀z∈h.aK,∀b∈z.ai,eG 0 256 b:=λz hz b hb=>by
   obtain⟨i,hi,rfl⟩:=Pg hb;rw[A]at hz;simp only[List.mem_cons,List.not_mem_nil,or_false]at hz;rcases hz with rfl|rfl
   ·exact(S.dm i hi).wide S.ok.1 S.ok.2.2.1
   exact(zn.dm i hi).wide zn.ok.1 zn.ok.2.2.1
  refine SW.alloc Z λI w2 zH zI zJ=>?_;have zc:=g.up zI;obtain⟨g,f⟩:=bk zH g f;have s:vI w2 w.heap.size I []:=⟨none,0,zJ,Own.cq _ _ _ _ _ _⟩;repeat'(first|refine Wz ?_|(refine SW.st (gH (vs:=[Pt I]) Z) Z ?_))
  refine CW.loop (λk:Nat=>[(1,Pt b1),(3,Pt I),(4,.func (.func 183) #[] ([Pt I]:List Value).toArray),(5,Iv (k:Int))])
   (λk x=>k<=2∧Ext w x∧ay x b1 34 (bg r)∧vI x w.heap.size I ((h.aK.take k).flatMap ap.ai)∧qx ((h.aK.take k).flatMap ap.ai)) (λk=>2-k) 0
   ⟨Z,Z,Z,Z,trivial⟩ ⟨by omega,g,f,s,qx.nil⟩ ?_
  rintro k x ⟨hk,g,f,s,D⟩;by_cases zK:k<2
  ·have zL:k<h.aK.length:=Y;have J:=o.row.all (i:=k) Y
   have zd:vD w ([K,N][k]'(by simpa using zK)) h.aK[k]:=by
    simp only[A];have:k=0∨k=1:=Y;rcases this with rfl|rfl
    ·exact o.z0
    exact o.z1
   generalize yp:([K,N][k]'(by simpa using zK))=rk at J zd;have zM:=z2 h.aK[k] (Pf _);have z3:=hs.free h.aK[k] (Pf _)
   have V:(h.aK.take (k+1)).flatMap ap.ai=(h.aK.take k).flatMap ap.ai++h.aK[k].ai:=by
    rw[Pk zL,PP];simp
   have H:∀(j:Nat)(hj:j<h.aK[k].ai.length),qx ((h.aK.take k).flatMap ap.ai++h.aK[k].ai.take j)->¬mQ ((h.aK.take k).flatMap ap.ai++h.aK[k].ai.take j) h.aK[k].ai[j]->¬bf h:=λj hj T hx B=>by
    obtain⟨M,hM⟩:=Ed zL hj;have:=B.all;have e:=T.no hx (M:=M++aM h.ak++h.Live);rw[hM]at this;simp only[List.append_assoc]at this e;rw[e]at this;cases this
   generalize h.aK[k]=zk at zd zM z3 V H;have yq:=zd.free.base;have yr:=zd.free.len;refine Wz ?_
   refine CW.loop (λj:Nat=>[(1,Pt b1),(3,Pt I),(4,.func (.func 183) #[] ([Pt I]:List Value).toArray),(5,Iv (k:Int)),(6,Iv (j:Int))])
    (λj x=>j<=rk.ai.n∧Ext w x∧ay x b1 34 (bg r)∧vI x w.heap.size I ((h.aK.take k).flatMap ap.ai++zk.ai.take j)∧qx ((h.aK.take k).flatMap ap.ai++zk.ai.take j)) (λj=>rk.ai.n-j) 0
    ⟨Z,Z,Z,Z,Z,trivial⟩ ⟨by omega,g,f,by simpa using s,by simpa using D⟩ ?_
   rintro j x ⟨hj,g,f,s,D⟩;by_cases zt:j<rk.ai.n
   ·have ze:j<zk.ai.length:=Y;have zN:=zM zk.ai[j] (Pf _);have W:zk.ai.take (j+1)=zk.ai.take j++[zk.ai[j]]:=Pk ze;repeat'(first|refine Wz ?_|refine SW.st (bX g Z (J 2 _ Z)) Z ?_|refine SW.st (g7 g Z Z ((zd.free.all zt))) Z ?_)
    refine SW.FI Z Z Z (wZ I _ zk.ai[j] w _ g zc s D.2 D.len zN) λv w5 L=>?_;obtain⟨z4,hK,O⟩:=L;have g:=z4;have f:=hK.k _ _ _ f Z Z;rcases O with⟨rfl,T,E⟩|⟨rfl,T,E⟩
    ·rw[Po,<-W]at E;have P:=D.add zN T;rw[Po,<-W]at P;repeat'(first|refine Wz ?_|(refine CW.bo Z ?_))
     exact ah.again (j+1) ⟨Z,Z,Z,Z,Z,trivial⟩ Y ⟨by omega,g,f,E,P⟩
    repeat'(first|refine Wz ?_|(refine CW.bQ Z ?_))
    exact ah.aF Z Z ⟨_,Z,g,by rw[fI (H j ze D T)]⟩
   obtain rfl:j=rk.ai.n:=Y;rw[Pl (l:=zk.ai) Y,<-V]at s D;repeat'(first|refine Wz ?_|refine SW.st (bX g Z (J 2 _ Z)) Z ?_)
   exact ah.again (k+1) ⟨Z,Z,Z,Z,trivial⟩ Y ⟨by omega,g,f,s,D⟩
  obtain rfl:k=2:=Y;rw[Pl Y]at s D;have zo:=λB:bf h=>B.all;have zO:h.aK.flatMap ap.ai=R.ai++z1.ai:=by rw[A];simp
  generalize h.aK.flatMap ap.ai=F at s D zo zO;have zP:=D.1;obtain⟨y,hl⟩:=hr.lists;obtain⟨ys,yt⟩:=hl.len;have yu:=hl.row.base;have yv:=hs.lists;refine Wz ?_
  refine CW.loop (λk:Nat=>[(1,Pt b1),(3,Pt I),(4,.func (.func 183) #[] ([Pt I]:List Value).toArray),(7,Iv (k:Int))])
   (λk x=>k<=r.ak.n∧Ext w x∧ay x b1 34 (bg r)∧vI x w.heap.size I (F++aM (h.ak.take k))∧qx (F++aM (h.ak.take k))∧CO h.bl R.To h.ak k) (λk=>r.ak.n-k) 0
   ⟨Z,Z,Z,Z,trivial⟩ ⟨by omega,g,f,by simpa[aM]using s,by simpa[aM]using D,.nil _ _ _⟩ ?_
  rintro k x ⟨hk,g,f,s,D,hP⟩;by_cases zu:k<r.ak.n
  ·have zf:k<y.length:=Y;have X:k<h.ak.length:=Y;have za:=hl.each.get k zf X;have z5:=za.cpu;have z6:=za.fX;have z7:=za.ty;have yw:=za.bt.len;have yx:=za.bt.base;have z8:=za.bt;have J:=hl.row.all zu;have zg:=hl.row.all (i:=k-1) (show k-1<r.ak.n by omega);repeat'(first|refine Wz ?_|refine SW.st (g7 g Z Z ((J))) Z ?_)
   refine Wr (gG.one (enc:=fj) _) λb8 w2 t zq u=>?_;have zQ:=g.up zq;obtain⟨g,f,s⟩:=aY t g f s;refine Wz ?_;by_cases zv:j4 r.bl h.ak[k]
   ·obtain⟨e1,e2,e3,e4⟩:=id zv;obtain⟨q,hq⟩:=bq (decide (cd (h.ak[k-1]'Y) h.ak[k]));have zh:=hl.each.get (k-1) Y Y
    have cL:∀x,aS prog 184 [.agg (fj (y[k-1]'Y)).toArray,.agg (fj y[k]).toArray] x λv _=>v= .bool q:=λx=>by
     have:=wV (y[k-1]'Y) y[k] (h.ak[k-1]'Y) h.ak[k] x ⟨zh.cpu,zh.fX,zh.ty⟩ ⟨z5,z6,z7⟩;rwa[hq]at this
    have zw:(0<k∧q=false)∨(0<k∧q=true)∨k=0:=by cases q<;>simp<;>omega
    rcases zw with⟨zi,rfl⟩|⟨zi,rfl⟩|zi
    repeat'(first|refine Wz ?_|refine fq ?_|refine SW.st (aU (k-1) Z Z ig Y Y) Z ?_|refine SW.st (g7 g Z Z ((zg))) Z ?_|refine SW.ba Z Z (λQ m=>(cL _)) ?_|refine SW.ba Z Z (λQ m=>(bE _ _ _ _)) ?_|(refine SW.br λQ m=>?_;obtain⟨g,f,u,s⟩:=cG m g f u s))
    ·exact ah.aF Z Z ⟨_,Z,g,by rw[fI (λB=>by
      have:=(B.rest A).1.next (k-1) Y
      simp only[show k-1+1=k by omega]at this;exact of_decide_eq_false hq this)]⟩
    all_goals
     have z9:∀(h0:0<k),cd (h.ak[k-1]'Y) h.ak[k]:=λh0=>by first|exact of_decide_eq_true hq|omega
     have zx:∀(j:Nat)(hj:j<h.ak[k].aq.length),qx (F++aM (h.ak.take k)++(h.ak[k].aq.take j).map bC)->¬mQ (F++aM (h.ak.take k)++(h.ak[k].aq.take j).map bC) (bC h.ak[k].aq[j])->¬bf h:=λj hj T hx B=>by
      have:=gp (zo B);have e:=T.no hx (M:=[])
      have e2:bh (bh (some F) (aM (h.ak.take k))) ((h.ak[k].aq.take (j+1)).map bC)=none:=by
       have e0:bh (some []) F=some F:=by
        have h1:=zP;exact h1
       rw[Pk hj,PO,<-e0,<-bF,<-bF];simpa using e
      have e3:=va X Y e2;rw[bF,zP,e3]at this;cases this
     refine CW.loop (λj:Nat=>[(1,Pt b1),(3,Pt I),(4,.func (.func 183) #[] ([Pt I]:List Value).toArray),(7,Iv (k:Int)),(8,Pt b8),(9,Iv (j:Int))])
      (λj x=>j<=y[k].aq.n∧Ext w x∧ay x b1 34 (bg r)∧ay x b8 100 (fj y[k])∧vI x w.heap.size I (F++aM (h.ak.take k)++(h.ak[k].aq.take j).map bC)∧qx (F++aM (h.ak.take k)++(h.ak[k].aq.take j).map bC)∧∀(i:Nat)(hi:i<h.ak[k].aq.length),i<j->(h.ak[k].aq[i]<R.To↔h.ak[k].ap=0)) (λj=>y[k].aq.n-j) 0
      ⟨Z,Z,Z,Z,Z,Z,trivial⟩ ⟨by omega,g,f,u,by simpa using s,by simpa using D,λi _ h=>by omega⟩ ?_
     rintro j x ⟨hj,g,f,u,s,D,hZ⟩;by_cases zt:j<y[k].aq.n
     ·have ze:j<h.ak[k].aq.length:=Y;have H:=zx j ze D;have W:(h.ak[k].aq.take (j+1)).map bC=(h.ak[k].aq.take j).map bC++[bC h.ak[k].aq[j]]:=by rw[Pk ze,PO];rfl
      have zp:=z8.one zt Z
      have G:bf h->(h.ak[k].aq[j]<R.To↔h.ak[k].ap=0)∧0<=h.ak[k].aq[j]∧h.ak[k].aq[j]<256:=λB=>by
       refine⟨(B.rest A).1.fX k X _ (Pf _),?_⟩;have h1:=gp (zo B);have h2:=qp h1 (bC h.ak[k].aq[j]) (List.mem_append_right _ (Py.2 ⟨h.ak[k],Pf _,Pw.2 ⟨_,Pf _,Z⟩⟩));simp only[bC,im]at h2;omega
      generalize hp:h.ak[k].aq[j]=p at H W zp G;have C:((y[k].ap=0∧¬(K.aE<=p∧p<=K.To-1))∨(y[k].ap=1∧¬(N.aE<=p∧p<=N.To-1)))∨((y[k].ap=0∧(K.aE<=p∧p<=K.To-1))∨(y[k].ap=1∧(N.aE<=p∧p<=N.To-1))):=Y;rcases C with C|C
      ·have zy:¬bf h:=λB=>by
        have:=G B;omega
       rw[fI zy];rcases C with⟨a,d⟩|⟨a,d⟩
       repeat'(first|refine Wz ?_|refine fq ?_|refine SW.st (aU (0) Z Z ig Y Y) Z ?_|refine SW.st (aU (1) Z Z ig Y Y) Z ?_|refine SW.st (bX g Z (o.c0 0 _ Z)) Z ?_|refine SW.st (bX g Z (o.c0 1 _ Z)) Z ?_|refine SW.st (bX g Z (o.c1 0 _ Z)) Z ?_|refine SW.st (bX g Z (o.c1 1 _ Z)) Z ?_|refine SW.st (bX g Z zp) Z ?_|refine SW.ba Z Z (λQ m=>(bE _ _ _ _)) ?_|(refine SW.br λQ m=>?_;obtain⟨g,f,u,s⟩:=cG m g f u s))
       all_goals exact ah.aF Z Z ⟨_,Z,g,Z⟩
      have ya:(p<R.To↔h.ak[k].ap=0)∧eG 0 256 (bC p):=by
       simp only[eG,gL,bC,im,iu];omega
      obtain⟨yb,zj⟩:=ya;rcases C with⟨a,d⟩|⟨a,d⟩
      all_goals
       refine Wz ?_;refine CW.any 30 mixed (cy bm) Z λQ m c=>?_;obtain⟨g,f,u,s⟩:=cG m g f u s;refine Wu 0 c Z (aI Z) ?_;refine Wu 1 c Z (aJ Z (u.cell Z)) ?_;refine Wq 2 c Z Z ?_;refine Wu 3 c Z (bO Z Z ig Y) ?_;refine Wu 4 c Z (bX g Z zp) ?_;refine Wu 5 c Z (aI Z) ?_;refine Wu 6 c Z (aJ Z (f.cell Z)) ?_;refine Wu 7 c Z (aI Z) ?_;refine Wu 8 c Z (aJ Z (u.cell Z)) ?_;refine SA.take 9 c Z bm bm Z ?_;repeat((show SW _ _ _ _ (⟨_,Op.indexAddr _ _ _,_,_,_,none⟩::_) _ _;first|refine SW.st (aU (0) Z Z ig Y Y) Z ?_|refine SW.st (aU (1) Z Z ig Y Y) Z ?_))
       refine SW.dI ?_;refine Wu 10 c Z (aI Z) ?_;refine SA.take 11 c Z bm bm Z ?_;repeat((show SW _ _ _ _ (⟨_,Op.load _ _,_,_,_,none⟩::_) _ _;first|refine SW.st (bX g Z (o.c0 0 _ Z)) Z ?_|refine SW.st (bX g Z (o.c1 0 _ Z)) Z ?_))
       refine SW.dI ?_;refine Wu 12 c Z (aI Z) ?_;refine Wu 13 c Z (aJ Z (f.cell Z)) ?_;refine Wu 14 c Z (aI Z) ?_;refine Wu 15 c Z (aJ Z (u.cell Z)) ?_;refine SA.take 16 c Z bm bm Z ?_;repeat((show SW _ _ _ _ (⟨_,Op.indexAddr _ _ _,_,_,_,none⟩::_) _ _;first|refine SW.st (aU (0) Z Z ig Y Y) Z ?_|refine SW.st (aU (1) Z Z ig Y Y) Z ?_))
       refine SW.dI ?_;refine Wu 17 c Z (aI Z) ?_;refine SA.take 18 c Z bm bm Z ?_;repeat((show SW _ _ _ _ (⟨_,Op.load _ _,_,_,_,none⟩::_) _ _;first|refine SW.st (bX g Z (o.c0 1 _ Z)) Z ?_|refine SW.st (bX g Z (o.c1 1 _ Z)) Z ?_))
       refine SW.dI ?_;refine Wu 19 c Z (r5 Z Z Y Y) ?_;refine SA.bD 20 ?_;refine SW.call Z Z (bE _ _ _ _) λv w5 t L=>?_;subst L;obtain⟨g,f,u,s⟩:=cG t g f u s;refine SW.nil (ah.sa t ?_);refine Wq 21 c Z Z ?_;refine Wq 22 c Z Z ?_;refine SA.take 23 c Z bm bm Z ?_;repeat(first|(show SW _ _ _ _ (⟨_,_,_,_,_,some _⟩::_) _ _;first|refine SW.fh Z Z kE ?_|refine SW.mI Z Z Z Y ?_)|refine SW.pure Z Z ?_)
       refine SW.dI ?_;refine SA.take 24 c Z bm bm Z ?_;repeat(first|(show SW _ _ _ _ (⟨_,_,_,_,_,some _⟩::_) _ _;refine SW.fh Z Z kE ?_)|(show SW _ _ _ _ (⟨_,Op.fieldAddr _ _ _,_,_,_,none⟩::_) _ _;refine SW.st (aI Z) Z ?_))
       refine SW.dI ?_;refine SA.take 25 c Z bm bm Z ?_;repeat(first|(show SW _ _ _ _ (⟨_,_,_,_,_,some _⟩::_) _ _;refine SW.fh Z Z kE ?_)|(show SW _ _ _ _ (⟨_,Op.load _ _,_,_,_,none⟩::_) _ _;refine SW.st (aJ Z (u.cell Z)) Z ?_))
       refine SW.dI ?_;refine SA.take 26 c Z bm bm Z ?_;repeat(first|(show SW _ _ _ _ (⟨_,_,_,_,_,some _⟩::_) _ _;refine SW.fh Z Z kE ?_)|refine SW.pure Z Z ?_)
       refine SW.dI ?_;refine SA.take 27 c Z bm bm Z ?_;repeat(first|(show SW _ _ _ _ (⟨_,_,_,_,_,some _⟩::_) _ _;refine SW.fh Z Z kE ?_)|(show SW _ _ _ _ (⟨_,Op.indexAddr _ _ _,_,_,_,none⟩::_) _ _;refine SW.st (bO Z Z ig Y) Z ?_))
       refine SW.dI ?_;refine SA.take 28 c Z bm bm Z ?_;repeat(first|(show SW _ _ _ _ (⟨_,_,_,_,_,some _⟩::_) _ _;refine SW.fh Z Z kE ?_)|(show SW _ _ _ _ (⟨_,Op.load _ _,_,_,_,none⟩::_) _ _;refine SW.st (bX g Z zp) Z ?_))
       refine SW.dI ?_;refine SA.take 29 c Z bm bm Z ?_;repeat(first|(show SW _ _ _ _ (⟨_,_,_,_,_,some _⟩::_) _ _;refine SW.fh Z Z kE ?_)|(show SW _ _ _ _ (⟨_,Op.build _ _,_,_,_,none⟩::_) _ _;refine SW.st (oh Z Z) Z ?_))
       refine SW.dI ?_;refine SA.fH ?_;refine Wz ?_;refine SW.FI Z Z Z (wZ I _ (bC p) w _ g zc s D.2 D.len zj) λv w6 L=>?_;obtain⟨zz,hK,O⟩:=L;have g:=zz;have f:=hK.k _ _ _ f Z Z;have u:=hK.k _ _ _ u Z Z;rcases O with⟨rfl,T,E⟩|⟨rfl,T,E⟩
       ·rw[Po,<-W]at E;have P:=D.add zj T;rw[Po,<-W]at P;refine Wz ?_;refine ah.again (j+1) ⟨Z,Z,Z,Z,Z,Z,trivial⟩ Y ⟨by omega,g,f,u,E,P,λi hi yy=>?_⟩;by_cases e:i=j
        ·subst e;rw[hp];exact yb
        exact hZ i hi Y
       repeat'(first|refine Wz ?_|(refine CW.bQ Z ?_))
       exact ah.aF Z Z ⟨_,Z,g,by rw[fI (H T)]⟩
     obtain rfl:j=y[k].aq.n:=Y;rw[Pl (l:=h.ak[k].aq) Y,Po,<-nE _ _ X]at s D;refine Wz ?_;refine ah.again (k+1) ⟨Z,Z,Z,Z,trivial⟩ Y ⟨by omega,g,f,s,D,hP.snoc X (by rwa[<-zC]) z9 λp hp=>?_⟩;obtain⟨i,hi,rfl⟩:=Pg hp;exact hZ i hi Y
   have H:¬bf h:=λB=>zv (by have:=(B.rest A).1.head k X;rwa[<-zC]at this);rw[fI H];have yh:¬(((0<=y[k].ep∧y[k].ep<r.bl)∧(0<=y[k].ap∧y[k].ap<=1)∧(0<=y[k].Ty∧y[k].Ty<=2)∧(1<=y[k].aq.n∧y[k].aq.n<=8))):=λB=>zv (by unfold j4;omega);have C:¬(0<=y[k].ep∧y[k].ep<=r.bl-1)∨((0<=y[k].ep∧y[k].ep<=r.bl-1)∧(¬(0<=y[k].ap∧y[k].ap<=1)∨((0<=y[k].ap∧y[k].ap<=1)∧(¬(0<=y[k].Ty∧y[k].Ty<=2)∨((0<=y[k].Ty∧y[k].Ty<=2)∧¬(1<=y[k].aq.n∧y[k].aq.n<=8)))))):=Y;rcases C with d|⟨d1,d|⟨d2,d|⟨d3,d⟩⟩⟩
   repeat'(first|refine Wz ?_|refine fq ?_|refine SW.ba Z Z (λQ m=>(bE _ _ _ _)) ?_|(refine SW.br λQ m=>?_;obtain⟨g,f,u,s⟩:=cG m g f u s))
   all_goals exact ah.aF Z Z ⟨_,Z,g,Z⟩
  obtain rfl:k=r.ak.n:=Y;rw[Pl Y]at s D;have hL:=hP.all Y;refine Wz ?_;have zR:=hr.live;have yz:=hr.live.len;have yA:=hr.live.base;have yB:=hs.live
  refine CW.loop (λk:Nat=>[(1,Pt b1),(3,Pt I),(4,.func (.func 183) #[] ([Pt I]:List Value).toArray),(10,Iv (k:Int))])
   (λk x=>k<=r.Live.n∧Ext w x∧ay x b1 34 (bg r)∧vI x w.heap.size I (F++aM h.ak++h.Live.take k)∧qx (F++aM h.ak++h.Live.take k)∧wW h.Live k) (λk=>r.Live.n-k) 0
   ⟨Z,Z,Z,Z,trivial⟩ ⟨by omega,g,f,by simpa using s,by simpa using D,.nil _⟩ ?_
  rintro k x ⟨hk,g,f,s,D,hP⟩;by_cases zu:k<r.Live.n
  ·have zf:k<h.Live.length:=Y;have yc:k-1<r.Live.n:=Y
   have G:bf h->p9 h.Live[k]∧(0<k->(h.Live[k-1]'Y).At<h.Live[k].At):=λB=>⟨B.live.each k zf,λh0=>by
    have:=B.live.next (k-1) Y
    simpa only[show k-1+1=k by omega]using this⟩
   have H:¬mQ (F++aM h.ak++h.Live.take k) h.Live[k]->¬bf h:=λhx B=>by
    have:=zo B;have e:=D.no hx (M:=h.Live.drop (k+1));have e1:h.Live.take k++([h.Live[k]]++h.Live.drop (k+1))=h.Live:=by simp
    rw[Po,Po (F++aM h.ak),e1]at e;rw[e]at this;cases this
   have U:=zR.dp yc (j:=0) Z;repeat'(first|refine Wz ?_|refine SW.st (g7 g Z Z ((zR.all zu))) Z ?_)
   refine Wr (gG.one (enc:=aL) _) λyC w2 t zA n=>?_;have yd:=g.up zA;obtain⟨g,f,s⟩:=aY t g f s;refine Wz ?_;have zb:Bw h.Live[k]->(0<k->(h.Live[k-1]'Y).At<h.Live[k].At)->wW h.Live (k+1):=λa b=>hP.snoc zf a λh0=>b h0;have V:h.Live.take (k+1)=h.Live.take k++[h.Live[k]]:=Pk zf;generalize yD:h.Live[k]=bb at n G zb V H;generalize yE:(h.Live[k-1]'Y).At=pv at G zb U;simp only[Bw,p9,iu]at G zb
   have hp:bb.Order<0∨4<bb.Order∨(1<=pw bb.Order∧pw bb.Order<=16):=by
    by_cases h1:0<=bb.Order
    ·by_cases h2:bb.Order<=4
     ·exact .inr (.inr (bP h1 h2))
     omega
    omega
   have em:bb.At<0∨bb.At.tmod (pw bb.Order)=bb.At % pw bb.Order:=by
    by_cases h1:0<=bb.At
    ·exact .inr (Pv h1)
    omega
   have C:(¬(0<=bb.Order∧bb.Order<=4)∨((0<=bb.Order∧bb.Order<=4)∧(¬(0<=bb.At∧bb.At<=255)∨((0<=bb.At∧bb.At<=255)∧(bb.At.tmod (pw bb.Order)≠0∨(bb.At.tmod (pw bb.Order)=0∧(¬(0<=bb.Ty∧bb.Ty<=2)∨((0<=bb.Ty∧bb.Ty<=2)∧0<k∧bb.At<=pv))))))))∨(((0<=bb.Order∧bb.Order<=4)∧(0<=bb.At∧bb.At<=255)∧bb.At.tmod (pw bb.Order)=0∧(0<=bb.Ty∧bb.Ty<=2))∧(k=0∨(0<k∧pv<bb.At))):=Y;rcases C with C|⟨⟨d1,d2,d3,d4⟩,C⟩
   ·have zy:¬bf h:=λB=>by
     have:=G B;omega
    rw[fI zy];rcases C with d|⟨d1,d|⟨d2,d|⟨d3,d|⟨d4,zi,d⟩⟩⟩⟩
    repeat'(first|refine Wz ?_|refine fq ?_|refine SW.st (aU (k-1) Z Z ig Y Y) Z ?_|refine SW.st (bX g Z U) Z ?_|refine SW.ba Z Z (λQ m=>(bE _ _ _ _)) ?_|refine SW.ba Z Z (λQ m=>(dk _ Y _)) ?_|(refine SW.br λQ m=>?_;obtain⟨g,f,n,s⟩:=cG m g f n s))
    all_goals exact ah.aF Z Z ⟨_,Z,g,Z⟩
   have zj:eG 0 256 bb:=by
    simp only[eG,gL,iu];omega
   have zb:=zb ⟨d1,d2.1,by omega,d4⟩ (λh0=>by omega);rcases C with zi|⟨zi,d⟩
   all_goals
    refine CW.any 44 mixed (cy bm) Z λQ m c=>?_;obtain⟨g,f,n,s⟩:=cG m g f n s;refine Wu 0 c Z (aI Z) ?_;refine Wu 1 c Z (aJ Z (n.cell Z)) ?_;refine SA.bD 2 ?_;refine SW.call Z Z (bE _ _ _ _) λv w5 t L=>?_;subst L;obtain⟨g,f,n,s⟩:=cG t g f n s;refine SW.nil (ah.sa t ?_);refine Wq 3 c Z Z ?_;refine Wq 4 c Z Z ?_;refine SA.take 5 c Z bm bm Z ?_;repeat(first|(show SW _ _ _ _ (⟨_,_,_,_,_,some _⟩::_) _ _;first|refine SW.fh Z Z kE ?_|refine SW.mI Z Z Z Y ?_)|(show SW _ _ _ _ (⟨_,Op.fieldAddr _ _ _,_,_,_,none⟩::_) _ _;refine SW.st (aI Z) Z ?_))
    refine SW.dI ?_;refine SA.take 6 c Z bm bm Z ?_;repeat(first|(show SW _ _ _ _ (⟨_,_,_,_,_,some _⟩::_) _ _;refine SW.fh Z Z kE ?_)|(show SW _ _ _ _ (⟨_,Op.load _ _,_,_,_,none⟩::_) _ _;refine SW.st (aJ Z (n.cell Z)) Z ?_))
    refine SW.dI ?_;refine SA.bD 7 ?_;refine SW.want Z Z ?_;refine SW.call Z Z (bE _ _ _ _) λv w5 t L=>?_;subst L;obtain⟨g,f,n,s⟩:=cG t g f n s;refine SW.nil (ah.sa t ?_);refine SA.take 8 c Z bm bm Z ?_;repeat(first|(show SW _ _ _ _ (⟨_,_,_,_,_,some _⟩::_) _ _;refine SW.fh Z Z kE ?_)|refine SW.pure Z Z ?_)
    refine SW.dI ?_;refine Wq 9 c Z Z ?_;refine Wq 10 c Z Z ?_;refine SA.take 11 c Z bm bm Z ?_;repeat(first|(show SW _ _ _ _ (⟨_,_,_,_,_,some _⟩::_) _ _;first|refine SW.fh Z Z kE ?_|refine SW.mI Z Z Z Y ?_)|(show SW _ _ _ _ (⟨_,Op.fieldAddr _ _ _,_,_,_,none⟩::_) _ _;refine SW.st (aI Z) Z ?_))
    refine SW.dI ?_;refine SA.take 12 c Z bm bm Z ?_;repeat(first|(show SW _ _ _ _ (⟨_,_,_,_,_,some _⟩::_) _ _;refine SW.fh Z Z kE ?_)|(show SW _ _ _ _ (⟨_,Op.load _ _,_,_,_,none⟩::_) _ _;refine SW.st (aJ Z (n.cell Z)) Z ?_))
    refine SW.dI ?_;refine SA.take 13 c Z bm bm Z ?_;repeat(first|(show SW _ _ _ _ (⟨_,_,_,_,_,some _⟩::_) _ _;refine SW.fh Z Z kE ?_)|(show SW _ _ _ _ (⟨_,Op.fieldAddr _ _ _,_,_,_,none⟩::_) _ _;refine SW.st (aI Z) Z ?_))
    refine SW.dI ?_;refine SA.take 14 c Z bm bm Z ?_;repeat(first|(show SW _ _ _ _ (⟨_,_,_,_,_,some _⟩::_) _ _;refine SW.fh Z Z kE ?_)|(show SW _ _ _ _ (⟨_,Op.load _ _,_,_,_,none⟩::_) _ _;refine SW.st (aJ Z (n.cell Z)) Z ?_))
    refine SW.dI ?_;refine SA.bD 15 ?_;refine SW.want Z Z ?_;refine SW.call Z Z (dk _ Y _) λv w5 t L=>?_;subst L;obtain⟨g,f,n,s⟩:=cG t g f n s;refine SW.nil (ah.sa t ?_);refine SA.take 16 c Z bm bm Z ?_;repeat(first|(show SW _ _ _ _ (⟨_,_,_,_,_,some _⟩::_) _ _;refine SW.fh Z Z kE ?_)|(show SW _ _ _ _ (⟨_,Op.binOp _ _ _ _ _,_,_,_,none⟩::_) _ _;refine SW.st (Fm Z Z Y) Z ?_))
    refine SW.dI ?_;refine SA.take 17 c Z bm bm Z ?_;repeat(first|(show SW _ _ _ _ (⟨_,_,_,_,_,some _⟩::_) _ _;refine SW.fh Z Z kE ?_)|refine SW.pure Z Z ?_)
    refine SW.dI ?_;refine Wq 18 c Z Z ?_;refine Wq 19 c Z Z ?_;refine SA.take 20 c Z bm bm Z ?_;repeat(first|(show SW _ _ _ _ (⟨_,_,_,_,_,some _⟩::_) _ _;first|refine SW.fh Z Z kE ?_|refine SW.mI Z Z Z Y ?_)|(show SW _ _ _ _ (⟨_,Op.fieldAddr _ _ _,_,_,_,none⟩::_) _ _;refine SW.st (aI Z) Z ?_))
    refine SW.dI ?_;refine SA.take 21 c Z bm bm Z ?_;repeat(first|(show SW _ _ _ _ (⟨_,_,_,_,_,some _⟩::_) _ _;refine SW.fh Z Z kE ?_)|(show SW _ _ _ _ (⟨_,Op.load _ _,_,_,_,none⟩::_) _ _;refine SW.st (aJ Z (n.cell Z)) Z ?_))
    refine SW.dI ?_;refine SA.bD 22 ?_;refine SW.want Z Z ?_;refine SW.call Z Z (bE _ _ _ _) λv w5 t L=>?_;subst L;obtain⟨g,f,n,s⟩:=cG t g f n s;refine SW.nil (ah.sa t ?_);refine SA.take 23 c Z bm bm Z ?_;repeat(first|(show SW _ _ _ _ (⟨_,_,_,_,_,some _⟩::_) _ _;refine SW.fh Z Z kE ?_)|refine SW.pure Z Z ?_)
    refine SW.dI ?_;refine Wq 24 c Z Z ?_;refine Wq 25 c Z Z ?_;refine SA.take 26 c Z bm bm Z ?_;repeat(first|(show SW _ _ _ _ (⟨_,_,_,_,_,some _⟩::_) _ _;first|refine SW.fh Z Z kE ?_|refine SW.mI Z Z Z Y ?_)|refine SW.pure Z Z ?_)
    refine SW.dI ?_;refine SA.take 27 c Z bm bm Z ?_;repeat(first|(show SW _ _ _ _ (⟨_,_,_,_,_,some _⟩::_) _ _;refine SW.fh Z Z kE ?_)|refine SW.pure Z Z ?_)
    refine SW.dI ?_;refine SA.take 28 c Z bm bm Z ?_;repeat(first|(show SW _ _ _ _ (⟨_,_,_,_,_,some _⟩::_) _ _;refine SW.fh Z Z kE ?_)|refine SW.pure Z Z ?_)
    refine SW.dI ?_;refine SA.take 29 c Z bm bm Z ?_;repeat(first|(show SW _ _ _ _ (⟨_,_,_,_,_,some _⟩::_) _ _;first|refine SW.lS Z Z kE ?_|refine SW.lT Z Z kE Z ?_|refine SW.wj Z Z Z Y ?_|refine SW.sK Z Z Z Y ?_)|(show SW _ _ _ _ (⟨_,Op.fieldAddr _ _ _,_,_,_,none⟩::_) _ _;refine SW.st (aI Z) Z ?_))
    refine SW.dI ?_;refine SA.take 30 c Z bm bm Z ?_;repeat(first|(show SW _ _ _ _ (⟨_,_,_,_,_,some _⟩::_) _ _;first|refine SW.lS Z Z kE ?_|refine SW.lT Z Z kE Z ?_)|(show SW _ _ _ _ (⟨_,Op.load _ _,_,_,_,none⟩::_) _ _;refine SW.st (aJ Z (f.cell Z)) Z ?_))
    refine SW.dI ?_;refine SA.take 31 c Z bm bm Z ?_;repeat(first|(show SW _ _ _ _ (⟨_,_,_,_,_,some _⟩::_) _ _;first|refine SW.lS Z Z kE ?_|refine SW.lT Z Z kE Z ?_)|refine SW.pure Z Z ?_)
    refine SW.dI ?_;refine SA.take 32 c Z bm bm Z ?_;repeat(first|(show SW _ _ _ _ (⟨_,_,_,_,_,some _⟩::_) _ _;first|refine SW.lS Z Z kE ?_|refine SW.lT Z Z kE Z ?_)|(show SW _ _ _ _ (⟨_,Op.binOp _ _ _ _ _,_,_,_,none⟩::_) _ _;refine SW.st (r5 Z Z Y Y) Z ?_))
    refine SW.dI ?_;refine SA.take 33 c Z bm bm Z ?_;repeat(first|(show SW _ _ _ _ (⟨_,_,_,_,_,some _⟩::_) _ _;first|refine SW.lS Z Z kE ?_|refine SW.lT Z Z kE Z ?_)|(show SW _ _ _ _ (⟨_,Op.indexAddr _ _ _,_,_,_,none⟩::_) _ _;refine SW.st (aU (k-1) Z Z ig Y Y) Z ?_))
    refine SW.dI ?_;refine SA.take 34 c Z bm bm Z ?_;repeat(first|(show SW _ _ _ _ (⟨_,_,_,_,_,some _⟩::_) _ _;first|refine SW.lS Z Z kE ?_|refine SW.lT Z Z kE Z ?_)|(show SW _ _ _ _ (⟨_,Op.fieldAddr _ _ _,_,_,_,none⟩::_) _ _;refine SW.st (aI Z) Z ?_))
    refine SW.dI ?_;refine SA.take 35 c Z bm bm Z ?_;repeat(first|(show SW _ _ _ _ (⟨_,_,_,_,_,some _⟩::_) _ _;first|refine SW.lS Z Z kE ?_|refine SW.lT Z Z kE Z ?_)|(show SW _ _ _ _ (⟨_,Op.load _ _,_,_,_,none⟩::_) _ _;refine SW.st (bX g Z U) Z ?_))
    refine SW.dI ?_;refine SA.take 36 c Z bm bm Z ?_;repeat(first|(show SW _ _ _ _ (⟨_,_,_,_,_,some _⟩::_) _ _;first|refine SW.lS Z Z kE ?_|refine SW.lT Z Z kE Z ?_)|(show SW _ _ _ _ (⟨_,Op.fieldAddr _ _ _,_,_,_,none⟩::_) _ _;refine SW.st (aI Z) Z ?_))
    refine SW.dI ?_;refine SA.take 37 c Z bm bm Z ?_;repeat(first|(show SW _ _ _ _ (⟨_,_,_,_,_,some _⟩::_) _ _;first|refine SW.lS Z Z kE ?_|refine SW.lT Z Z kE Z ?_)|(show SW _ _ _ _ (⟨_,Op.load _ _,_,_,_,none⟩::_) _ _;refine SW.st (aJ Z (n.cell Z)) Z ?_))
    refine SW.dI ?_;refine SA.take 38 c Z bm bm Z ?_;repeat(first|(show SW _ _ _ _ (⟨_,_,_,_,_,some _⟩::_) _ _;first|refine SW.lS Z Z kE ?_|refine SW.lT Z Z kE Z ?_)|refine SW.pure Z Z ?_)
    refine SW.dI ?_;refine SA.take 39 c Z bm bm Z ?_;repeat(first|(show SW _ _ _ _ (⟨_,_,_,_,_,some _⟩::_) _ _;refine SW.fh Z Z kE ?_)|refine SW.pure Z Z ?_)
    refine SW.dI ?_;refine Wq 40 c Z Z ?_;refine Wq 41 c Z Z ?_;refine SA.take 42 c Z bm bm Z ?_;repeat(first|(show SW _ _ _ _ (⟨_,_,_,_,_,some _⟩::_) _ _;first|refine SW.fh Z Z kE ?_|refine SW.sK Z Z Z Y ?_)|refine SW.pure Z Z ?_)
    refine SW.dI ?_;refine SA.take 43 c Z bm bm Z ?_;repeat(first|(show SW _ _ _ _ (⟨_,_,_,_,_,some _⟩::_) _ _;refine SW.fh Z Z kE ?_)|(show SW _ _ _ _ (⟨_,Op.load _ _,_,_,_,none⟩::_) _ _;refine SW.st (cv Z Z ((λ_ _=>n.cell))) Z ?_))
    refine SW.dI ?_;refine SA.fH ?_;refine Wz ?_;refine SW.FI Z Z Z (wZ I _ bb w _ g zc s D.2 D.len zj) λv w6 L=>?_;obtain⟨zz,hK,O⟩:=L;have g:=zz;have f:=hK.k _ _ _ f Z Z;rcases O with⟨rfl,T,E⟩|⟨rfl,T,E⟩
    ·rw[Po,<-V]at E;have P:=D.add zj T;rw[Po,<-V]at P;repeat'(first|refine Wz ?_|(refine CW.bo Z ?_))
     exact ah.again (k+1) ⟨Z,Z,Z,Z,trivial⟩ Y ⟨by omega,g,f,E,P,zb⟩
    repeat'(first|refine Wz ?_|(refine CW.bQ Z ?_))
    exact ah.aF Z Z ⟨_,Z,g,by rw[fI (H T)]⟩
  obtain rfl:k=r.Live.n:=Y;rw[Pl Y]at s D
  have zl:(bh (bh (mT h R z1) (aM h.ak)) h.Live).isSome=true:=by
   have:=D.1;rw[zO,bF,bF]at this;unfold mT;rw[this]
   rfl
  have ye:bf h:=bf.of A hd zX hL (hP.ok Y zl) zl;refine Wz ?_;exact ah.aF Z Z ⟨_,Z,g,by rw[sY ye]⟩
 rw[fI (λB=>hd B.Nv)];have C:r.aK.n≠2∨(r.aK.n=2∧(r.bY.n≠2∨(r.bY.n=2∧¬(1<=r.bl∧r.bl<=4)))):=by unfold sn at hd;omega
 rcases C with d|⟨d1,d|⟨d2,d⟩⟩
 repeat'(first|refine Wz ?_|(refine SW.call Z Z (bE _ _ _ _) ?_;intro v Q m L;subst L;obtain⟨g,f⟩:=bk m g f))
 all_goals exact ah.aF Z Z ⟨_,Z,g,Z⟩
end Go.Proofs.YtdlfabkacdgneaaGreatDoor
