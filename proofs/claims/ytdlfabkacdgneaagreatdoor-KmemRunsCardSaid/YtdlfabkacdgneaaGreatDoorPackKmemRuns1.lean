/- Part 1 of what kmemRuns_holds leans on. -/
import Derived.Test.YtdlfabkacdgneaaGreatDoorPackKmemRuns0
set_option maxHeartbeats 16000000
set_option linter.unusedVariables false
set_option linter.unusedSimpArgs false
set_option linter.defProp false
open Go.Proofs.Tryz
namespace Go.Proofs.YtdlfabkacdgneaaGreatDoor
open Go.RowKit
def CC(t:Int):Bool:= !decide (iu t)
theorem Fs{t:Int}(h:iu t):CC t=false:=by simp[CC,h]
theorem Ft{t:Int}(h:¬iu t):CC t=true:=by simp[CC,h]
theorem wD(t:Int)(w:World):aS prog 193 ([Iv t]++[]) w λv _=>v= .bool (CC t):=by
 refine Wj func193 ntmps193 ?_;have a:=Ext.refl w;by_cases b:0<=t
 ·by_cases c:t<=2
  ·rw[Fs ⟨b,c⟩];refine Wz ?_;all_goals exact ah.aF rfl rfl ⟨_,rfl,a,by simp;try omega⟩
  rw[Ft (λh=>c h.2)];refine Wz ?_;all_goals exact ah.aF rfl rfl ⟨_,rfl,a,by simp;try omega⟩
 rw[Ft (λh=>b h.1)];refine Wz ?_;all_goals exact ah.aF rfl rfl ⟨_,rfl,a,by simp;try omega⟩
theorem km(r:cM)(z:ap)(w:World)(u:vD w r z)(hf:r.ai.n<=2305843009213693952)(ht:r.Types.n<=2305843009213693952)(h1: -9223372036854775808<=r.aE∧r.aE<=9223372036854775807)(h2: -9223372036854775808<=r.To∧r.To<=9223372036854775807):
 aS prog 127 [.agg (bu r).toArray] w λv _=>v=Iv (if dZ z then 0 else 8):=by
 refine Wj func127 ntmps127 ?_;refine Ww λO e c zi b=>?_;have P:=u.from_;have Q:=u.kW;have zj:=u.free.len;have zk:=u.types.len;refine Wz ?_;refine Wk (wC r.aE r.To _ h1 h2) λv w2 za hv=>?_;obtain⟨c,b⟩:=bk za c b;by_cases F:eu r.aE r.To
 ·rw[jd F]at hv;obtain⟨s,rfl,C⟩:=hv;obtain⟨o1,o2,o3,o4,o5⟩:=id F;have zl:∀{p:Prop},(bV z->False)->p∨¬bV z:=λh=> .inr h;by_cases R:8*(z.Types.length:Int)=z.To-z.aE
  ·refine Wz ?_;refine SW.alloc Z λS e a l n=>?_;have y:=c.up l;have g:O≠S:=by have:=b.lt;omega
   obtain⟨c,b,C⟩:=aY a c b C;refine Wg n (ck _) λw2 m A=>?_;have c:=c.own y A;have C:=C.dm n A Z Z;have b:=b.grown A (by simpa using g);have n:=m
   have T:∀f,Ext w f->aS prog 141 [.slice r.Types.A r.Types.n r.Types.c,.func (.func 193) #[] ([]:List Value).toArray] f λv _=>v= .bool (z.Types.any CC):=λf h=>
    iJ _ _ _ _ _ (u.types.ext h) _ [] CC (λx=>Iv x) (λx=>Z) (λx _ e _=>wD x e) Y
   cases q:z.Types.any CC
   ·rw[q]at T
    have zb:∀t∈z.Types,iu t:=λt zc=>by
     rw[PA]at q;have:=q t zc;simp[CC]at this;exact this
    repeat'(first|refine Wz ?_|(refine Wc (T _ c) λe a=>?_;obtain⟨c,b⟩:=bk a c b))
    refine CW.loop (λk:Nat=>[(1,Pt O),(5,.func (.func 193) #[] #[]),(35,.slice r.ai.A r.ai.n r.ai.c),(36,Iv (r.ai.n:Int)),(37,Iv (k:Int))])
     (λk f=>k<=r.ai.n∧Ext w f∧ay f O 98 (bu r)∧(∀(i:Nat)(h:i<z.ai.length),i<k->eG z.aE z.To z.ai[i])∧(∀(i:Nat)(h:i+1<z.ai.length),i+1<k->kj z.ai[i] z.ai[i+1]))
     (λk=>r.ai.n-k) 0 ⟨Z,Z,Z,Z,Z,trivial⟩ ⟨by omega,c,b,λi h J=>by omega,λi h J=>by omega⟩ ?_
    rintro k f ⟨hk,c,b,U,hN⟩;have hA:=u.free.base;by_cases V:k<r.ai.n
    ·have N:=u.free.lt V;repeat'(first|refine Wz ?_|refine Wo c ((u.free.all V)) ?_)
     refine SW.alloc Z λb7 w3 zd W ze=>?_;have X:=c.up W;have zf:O≠b7:=by have:=b.lt;omega
     obtain⟨c,b⟩:=bk zd c b;refine Wz ?_;refine Wg ze (gG.one (enc:=aL) _) λw4 d A=>?_;have c:=c.own X A;have b:=b.grown A (by simpa using zf);by_cases B:eG z.aE z.To z.ai[k]
     ·obtain⟨D,G⟩:=id B;obtain⟨f1,f2,f3,f4,f5⟩:=id D;have hp:=bP f1 f2
      have I:∀f,Ext w f->aS prog 194 [.agg (bu r).toArray,.agg (aL z.ai[k]).toArray] f λv _=>v= .bool true:=λf _=>by
       have:=rb r z.ai[k] f Y;rwa[P,Q,decide_eq_true D]at this
      have M:∀f,aS prog 193 ([Iv (z.ai[k]).Ty]++[]) f λv _=>v= .bool false:=λf=>by
       have:=wD (z.ai[k]).Ty f;rwa[Fs G]at this
      by_cases zg:k=0
      ·subst zg;repeat'(first|refine Wz ?_|refine fq ?_|refine SW.want Z Z ?_|refine SW.ba Z Z (λe a=>(I _ (c.trans a))) ?_|(refine SW.r7 Z Z Z (λe _=>M e) ?_)|(refine SW.br λe a=>?_;obtain⟨c,b,d⟩:=aY a c b d))
       refine ah.again (0+1) ⟨Z,Z,Z,Z,Z,trivial⟩ Y ⟨by omega,c,b,λi h J=>?_,λi h J=>by omega⟩;obtain rfl:i=0:=Y;exact B
      obtain⟨j,rfl⟩:∃j,k=j+1:=⟨k-1,by omega⟩;have K:j<r.ai.n:=Y;have zh:=u.free.lt K;obtain⟨⟨g1,g2,g3,g4,g5⟩,_⟩:=U j zh Y;have cE:∀f,aS prog 195 [.agg (aL z.ai[j]).toArray] f λv _=>v=Iv ((z.ai[j]).At+pw (z.ai[j]).Order):=λf=>ol _ _ ⟨g1,g2⟩ ⟨by omega,by omega⟩;by_cases L:(z.ai[j]).At+pw (z.ai[j]).Order<=(z.ai[j+1]).At
      ·by_cases E:(z.ai[j+1]).Order<4∧(z.ai[j]).Order=(z.ai[j+1]).Order∧(z.ai[j]).At=beside (z.ai[j+1]).At (z.ai[j+1]).Order
       ·obtain⟨u1,u2,u3⟩:=id E;repeat'(first|refine Wz ?_|refine fq ?_|refine SW.st (aU (j) Z Z ig Y Y) Z ?_|refine Wo c ((u.free.all K)) ?_|refine Wn c (u.free.dp K Z) ?_|refine SW.ba Z Z (λe a=>(I _ (c.trans a))) ?_|refine SW.ba Z Z (λe a=>(cE _)) ?_|(refine SW.r7 Z Z Z (λe _=>M e) ?_)|(refine SW.st (fO (r:=pw (z.ai[j+1]).Order) Z Z Y Y (by simp[pw]) Y Y) Z ?_)|(refine SW.st (mz (z.ai[j+1]).At (z.ai[j+1]).Order Z Z Z Z ⟨by omega,by omega,f1,u1,f5⟩) Z ?_)|(refine SW.br λe a=>?_;obtain⟨c,b,d⟩:=aY a c b d))
        refine ah.aF Z Z ⟨_,Z,c,?_⟩;rw[jW (λh=>(h.next j N).2 E)];rfl
       by_cases u1:(z.ai[j+1]).Order<4
       ·by_cases u2:(z.ai[j]).Order=(z.ai[j+1]).Order
        ·have u3:¬(z.ai[j]).At=beside (z.ai[j+1]).At (z.ai[j+1]).Order:=λu3=>E ⟨u1,u2,u3⟩;repeat'(first|refine Wz ?_|refine fq ?_|refine SW.want Z Z ?_|refine SW.st (aU (j) Z Z ig Y Y) Z ?_|refine Wo c ((u.free.all K)) ?_|refine Wn c (u.free.dp K Z) ?_|refine SW.ba Z Z (λe a=>(I _ (c.trans a))) ?_|refine SW.ba Z Z (λe a=>(cE _)) ?_|(refine SW.r7 Z Z Z (λe _=>M e) ?_)|(refine SW.st (fO (r:=pw (z.ai[j+1]).Order) Z Z Y Y (by simp[pw]) Y Y) Z ?_)|(refine SW.st (mz (z.ai[j+1]).At (z.ai[j+1]).Order Z Z Z Z ⟨by omega,by omega,f1,u1,f5⟩) Z ?_)|(refine SW.br λe a=>?_;obtain⟨c,b,d⟩:=aY a c b d))
         refine ah.again (j+1+1) ⟨Z,Z,Z,Z,Z,trivial⟩ Y ⟨by omega,c,b,λi h J=>?_,λi h J=>?_⟩
         ·by_cases o:i=j+1
          ·subst o;exact B
          exact U i h Y
         by_cases o:i=j
         ·subst o;exact⟨L,E⟩
         exact hN i h Y
        repeat'(first|refine Wz ?_|refine fq ?_|refine SW.want Z Z ?_|refine SW.st (aU (j) Z Z ig Y Y) Z ?_|refine Wo c ((u.free.all K)) ?_|refine Wn c (u.free.dp K Z) ?_|refine SW.ba Z Z (λe a=>(I _ (c.trans a))) ?_|refine SW.ba Z Z (λe a=>(cE _)) ?_|(refine SW.r7 Z Z Z (λe _=>M e) ?_)|(refine SW.br λe a=>?_;obtain⟨c,b,d⟩:=aY a c b d))
        refine ah.again (j+1+1) ⟨Z,Z,Z,Z,Z,trivial⟩ Y ⟨by omega,c,b,λi h J=>?_,λi h J=>?_⟩
        ·by_cases o:i=j+1
         ·subst o;exact B
         exact U i h Y
        by_cases o:i=j
        ·subst o;exact⟨L,E⟩
        exact hN i h Y
       repeat'(first|refine Wz ?_|refine fq ?_|refine SW.want Z Z ?_|refine SW.st (aU (j) Z Z ig Y Y) Z ?_|refine Wo c ((u.free.all K)) ?_|refine SW.ba Z Z (λe a=>(I _ (c.trans a))) ?_|refine SW.ba Z Z (λe a=>(cE _)) ?_|(refine SW.r7 Z Z Z (λe _=>M e) ?_)|(refine SW.br λe a=>?_;obtain⟨c,b,d⟩:=aY a c b d))
       refine ah.again (j+1+1) ⟨Z,Z,Z,Z,Z,trivial⟩ Y ⟨by omega,c,b,λi h J=>?_,λi h J=>?_⟩
       ·by_cases o:i=j+1
        ·subst o;exact B
        exact U i h Y
       by_cases o:i=j
       ·subst o;exact⟨L,E⟩
       exact hN i h Y
      repeat'(first|refine Wz ?_|refine fq ?_|refine SW.want Z Z ?_|refine SW.st (aU (j) Z Z ig Y Y) Z ?_|refine Wo c ((u.free.all K)) ?_|refine SW.ba Z Z (λe a=>(I _ (c.trans a))) ?_|refine SW.ba Z Z (λe a=>(cE _)) ?_|(refine SW.r7 Z Z Z (λe _=>M e) ?_)|(refine SW.br λe a=>?_;obtain⟨c,b,d⟩:=aY a c b d))
      refine ah.aF Z Z ⟨_,Z,c,?_⟩;rw[jW (λh=>L (h.next j N).1)];rfl
     have H:dZ z=false:=jW (λh=>B (h.dm k N));by_cases D:gL z.aE z.To (z.ai[k]).At (z.ai[k]).Order
     ·have G:¬iu (z.ai[k]).Ty:=λh=>B ⟨D,h⟩
      have I:∀f,Ext w f->aS prog 194 [.agg (bu r).toArray,.agg (aL z.ai[k]).toArray] f λv _=>v= .bool true:=λf _=>by
       have:=rb r z.ai[k] f Y;rwa[P,Q,decide_eq_true D]at this
      have M:∀f,aS prog 193 ([Iv (z.ai[k]).Ty]++[]) f λv _=>v= .bool true:=λf=>by
       have:=wD (z.ai[k]).Ty f;rwa[Ft G]at this
      repeat'(first|refine Wz ?_|refine fq ?_|refine SW.want Z Z ?_|refine SW.ba Z Z (λe a=>(I _ (c.trans a))) ?_|(refine SW.r7 Z Z Z (λe _=>M e) ?_)|(refine SW.br λe a=>?_;obtain⟨c,b,d⟩:=aY a c b d))
      exact ah.aF Z Z ⟨_,Z,c,by rw[H];rfl⟩
     have I:∀f,Ext w f->aS prog 194 [.agg (bu r).toArray,.agg (aL z.ai[k]).toArray] f λv _=>v= .bool false:=λf _=>by
      have:=rb r z.ai[k] f Y;rwa[P,Q,decide_eq_false D]at this
     repeat'(first|refine Wz ?_|refine fq ?_|refine SW.skip Z Z Z Z ?_|refine SW.ba Z Z (λe a=>(I _ (c.trans a))) ?_|(refine SW.br λe a=>?_;obtain⟨c,b,d⟩:=aY a c b d))
     exact ah.aF Z Z ⟨_,Z,c,by rw[H];rfl⟩
    refine Wz ?_;refine ah.aF Z Z ⟨_,Z,c,?_⟩;rw[sQ ⟨by rw[<-P,<-Q];exact F,R,zb,λi h=>U i h Y,λi h=>hN i h Y⟩];rfl
   rw[q]at T;repeat'(first|refine Wz ?_|(refine Wc (T _ c) λe a=>?_;obtain⟨c,b⟩:=bk a c b))
   refine ah.aF Z Z ⟨_,Z,c,?_⟩
   rw[jW (λh=>by
    rw[Pn]at q;obtain⟨t,h1,h2⟩:=q;rw[Fs (h.types t h1)]at h2;cases h2)];rfl
  refine Wz ?_;refine SW.alloc Z λS e a l n=>?_;have y:=c.up l;have g:O≠S:=by have:=b.lt;omega
  obtain⟨c,b,C⟩:=aY a c b C;refine Wg n (ck _) λw2 m A=>?_;have c:=c.own y A;have C:=C.dm n A Z Z;have b:=b.grown A (by simpa using g);have n:=m;refine Wz ?_;refine ah.aF Z Z ⟨_,Z,c,?_⟩;rw[jW (λh=>R h.len)];rfl
 rw[lc F]at hv;obtain⟨s,rfl,C⟩:=hv;refine Wz ?_;refine SW.alloc Z λS e a l n=>?_;have y:=c.up l;have g:O≠S:=by have:=b.lt;omega
 obtain⟨c,b,C⟩:=aY a c b C;refine Wg n (ck _) λw2 m A=>?_;have c:=c.own y A;have C:=C.dm n A Z Z;have b:=b.grown A (by simpa using g);have n:=m;refine Wz ?_;refine ah.aF Z Z ⟨_,Z,c,?_⟩;rw[jW (λh=>F (by rw[P,Q];exact h.ok))];rfl
def GQ(f:Int)(l:List Block):Nat->Int
 | 0=>f
 | k+1=>match l[k]? with
   | some b=>b.At+pw b.Order
   | none=>0
theorem r8(f:Int)(l:List Block)(k:Nat)(h:k<l.length):GQ f l (k+1)=l[k].At+pw l[k].Order:=by simp[GQ,List.getElem?_eq_getElem h]
theorem lH(r:cM)(z:ap)(w:World)(x:vD w r z)(hf:r.ai.n<=2305843009213693952)(ht:r.Types.n<=1000000000000000000)(h1: -9223372036854775808<=r.aE∧r.aE<=9223372036854775807)(h2: -9223372036854775808<=r.To∧r.To<=9223372036854775807):
 aS prog 178 [.agg (bu r).toArray] w λv _=>v= .bool (dZ z):=by
 refine Wj func178 ntmps178 ?_;refine Ww λK n c zm a=>?_;have eF:=x.from_;have eT:=x.kW;have zo:=x.free.len;have zp:=x.types.len;refine Wz ?_;refine Wk (pX r.aE r.To _ h1 h2) λv w2 zf m=>?_;obtain⟨c,a⟩:=bk zf c a;by_cases D:eu r.aE r.To
 ·rw[jd D]at m;obtain⟨s,rfl,y⟩:=m;obtain⟨o1,o2,o3,o4,o5⟩:=id D;by_cases S:8*(z.Types.length:Int)=z.To-z.aE
  ·refine Wz ?_;refine SW.alloc Z λT n b f l=>?_;have o:=c.up f;have e:K≠T:=by have:=a.lt;omega
   obtain⟨c,a,y⟩:=aY b c a y;refine Wg l (ck _) λw2 g p=>?_;have c:=c.own o p;have y:=y.dm l p Z Z;have a:=a.grown p (by simpa using e);have l:=g;refine Wz ?_
   refine CW.loop (λk:Nat=>[(1,Pt K),(5,Iv (k:Int))]) (λk E=>k<=r.Types.n∧Ext w E∧ay E K 98 (bu r)∧∀(j:Nat)(L:j<z.Types.length),j<k->iu z.Types[j]) (λk=>r.Types.n-k) 0
    ⟨Z,Z,trivial⟩ ⟨by omega,c,a,λj _ h=>by omega⟩ ?_
   rintro k E ⟨hk,c,a,N⟩;have hA:=x.types.base;by_cases q:k<r.Types.n
   ·have u:=x.types.lt q;by_cases A:iu (z.Types[k])
    ·obtain⟨t1,t2⟩:=id A;repeat'(first|refine Wz ?_|refine Wn c (x.types.one q Z) ?_|(refine Wk (bE _ _ _ _) ?_;intro v n b m;subst m;obtain⟨c,a⟩:=bk b c a))
     all_goals try omega
     refine ah.again (k+1) ⟨Z,Z,trivial⟩ Y ⟨by omega,c,a,λj L h=>?_⟩;by_cases zg:j=k
     ·subst zg;exact A
     exact N j L Y
    have hn:¬(0<=z.Types[k]∧z.Types[k]<=2):=A;repeat'(first|refine Wz ?_|refine Wn c (x.types.one q Z) ?_|(refine Wk (bE _ _ _ _) ?_;intro v n b m;subst m;obtain⟨c,a⟩:=bk b c a))
    all_goals try omega
    refine ah.aF Z Z ⟨_,Z,c,?_⟩;rw[jW (λh=>A (h.types _ (Pf u)))]
   have A:∀t∈z.Types,iu t:=λt zh=>by
    obtain⟨j,L,rfl⟩:=Pg zh;exact N j L Y
   refine Wz ?_
   refine CW.loop (λk:Nat=>[(1,Pt K),(6,Iv (GQ z.aE z.ai k)),(7,Iv (k:Int))])
    (λk E=>k<=r.ai.n∧Ext w E∧ay E K 98 (bu r)∧(∀(i:Nat)(h:i<z.ai.length),i<k->eG z.aE z.To z.ai[i])∧(∀(i:Nat)(h:i+1<z.ai.length),i+1<k->kj z.ai[i] z.ai[i+1]))
    (λk=>r.ai.n-k) 0 ⟨Z,by rw[eF];rfl,Z,trivial⟩ ⟨by omega,c,a,λi h U=>by omega,λi h U=>by omega⟩ ?_
   rintro k E ⟨hk,c,a,N,hN⟩;have hA:=x.free.base;by_cases q:k<r.ai.n
   ·have u:=x.free.lt q
    have H:∀E,aS prog 179 [.agg (bu r).toArray,Iv (z.ai[k]).At,Iv (z.ai[k]).Order] E λv _=>v= .bool (decide (gL z.aE z.To (z.ai[k]).At (z.ai[k]).Order)):=λE=>by
     have:=sR r (z.ai[k]).At (z.ai[k]).Order E ⟨by omega,by omega⟩ ⟨by omega,by omega⟩;rwa[eF,eT]at this
    repeat'(first|refine Wz ?_|refine Wo c ((x.free.all q)) ?_)
    refine SW.alloc Z λb7 w3 zi V zj=>?_;have W:=c.up V;have zk:K≠b7:=by have:=a.lt;omega
    obtain⟨c,a⟩:=bk zi c a;skip;refine Wg zj (gG.one (enc:=aL) _) λw4 d p=>?_;have c:=c.own W p;have a:=a.grown p (by simpa using zk);by_cases B:eG z.aE z.To z.ai[k]
    ·obtain⟨C,t1,t2⟩:=id B;obtain⟨f1,f2,f3,f4,f5⟩:=id C;have hp:=bP f1 f2;have zq:=kG f1 f2;rw[decide_eq_true C]at H;by_cases zl:k=0
     ·subst zl;have X:GQ z.aE z.ai 0=z.aE:=Z;repeat'(first|refine Wz ?_|refine fq ?_|refine SW.want Z Z ?_|((first|refine Wk (H _) ?_|refine Wk (bE _ _ _ _) ?_);intro v n b m;subst m;obtain⟨c,a,d⟩:=aY b c a d)|refine SW.ba Z Z (λn b=>(dk _ Y _)) ?_|(refine SW.br λn b=>?_;obtain⟨c,a,d⟩:=aY b c a d))
      all_goals try omega
      refine ah.again (0+1) ⟨Z,by rw[r8 _ _ _ u];rfl,Z,trivial⟩ Y ⟨by omega,c,a,λi h U=>?_,λi h U=>by omega⟩;obtain rfl:i=0:=Y;exact B
     obtain⟨j,rfl⟩:∃j,k=j+1:=⟨k-1,by omega⟩;have L:j<r.ai.n:=Y;have za:=x.free.lt L;have zb:=N j za Y;obtain⟨⟨g1,g2,g3,g4,g5⟩,_⟩:=id zb;have X:=r8 z.aE z.ai j za;have em:(z.ai[j]).At.tmod (pw ((z.ai[j+1]).Order+1))=(z.ai[j]).At % (pw ((z.ai[j+1]).Order+1)):=Pv Y;by_cases O:(z.ai[j]).At+pw (z.ai[j]).Order<=(z.ai[j+1]).At
     ·have I:=JL zb B O;by_cases J:(z.ai[j+1]).Order<4∧(z.ai[j]).Order=(z.ai[j+1]).Order∧(z.ai[j]).At+pw (z.ai[j+1]).Order=(z.ai[j+1]).At∧(z.ai[j]).At % pw ((z.ai[j+1]).Order+1)=0
      ·have zc:=I.2 J;obtain⟨G,M,R,u4⟩:=id J;repeat'(first|refine Wz ?_|refine fq ?_|refine SW.st (aU (j) Z Z ig Y Y) Z ?_|refine Wn c (x.free.dp L Z) ?_|((first|refine Wk (H _) ?_|refine Wk (bE _ _ _ _) ?_);intro v n b m;subst m;obtain⟨c,a,d⟩:=aY b c a d)|refine SW.ba Z Z (λn b=>(dk _ Y _)) ?_|(refine SW.br λn b=>?_;obtain⟨c,a,d⟩:=aY b c a d))
       all_goals try omega
       refine ah.aF Z Z ⟨_,Z,c,?_⟩;rw[jW (λh=>(h.next j u).2 zc)]
      have zd:kj z.ai[j] z.ai[j+1]:=⟨O,λh=>J (I.1 h)⟩
      have hd:(¬(z.ai[j+1]).Order<4)∨((z.ai[j+1]).Order<4∧¬(z.ai[j]).Order=(z.ai[j+1]).Order)∨((z.ai[j+1]).Order<4∧(z.ai[j]).Order=(z.ai[j+1]).Order∧¬(z.ai[j]).At+pw (z.ai[j+1]).Order=(z.ai[j+1]).At)∨
       ((z.ai[j+1]).Order<4∧(z.ai[j]).Order=(z.ai[j+1]).Order∧(z.ai[j]).At+pw (z.ai[j+1]).Order=(z.ai[j+1]).At∧¬(z.ai[j]).At % pw ((z.ai[j+1]).Order+1)=0):=by
       by_cases G:(z.ai[j+1]).Order<4
       ·by_cases M:(z.ai[j]).Order=(z.ai[j+1]).Order
        ·by_cases R:(z.ai[j]).At+pw (z.ai[j+1]).Order=(z.ai[j+1]).At
         ·exact .inr (.inr (.inr ⟨G,M,R,λu4=>J ⟨G,M,R,u4⟩⟩))
         exact .inr (.inr (.inl ⟨G,M,R⟩))
        exact .inr (.inl ⟨G,M⟩)
       exact .inl G
      have P:∀(i:Nat)(h:i+1<z.ai.length),i+1<j+1+1->kj z.ai[i] z.ai[i+1]:=λi h U=>by
       by_cases Q:i=j
       ·subst Q;exact zd
       exact hN i h Y
      have ze:∀(i:Nat)(h:i<z.ai.length),i<j+1+1->eG z.aE z.To z.ai[i]:=λi h U=>by
       by_cases Q:i=j+1
       ·subst Q;exact B
       exact N i h Y
      rcases hd with G|⟨G,M⟩|⟨G,M,R⟩|⟨G,M,R,u4⟩
      all_goals
       repeat'(first|refine Wz ?_|refine fq ?_|refine SW.want Z Z ?_|refine SW.st (aU (j) Z Z ig Y Y) Z ?_|refine Wn c (x.free.dp L Z) ?_|((first|refine Wk (H _) ?_|refine Wk (bE _ _ _ _) ?_);intro v n b m;subst m;obtain⟨c,a,d⟩:=aY b c a d)|refine SW.ba Z Z (λn b=>(dk _ Y _)) ?_|(refine SW.br λn b=>?_;obtain⟨c,a,d⟩:=aY b c a d))
       all_goals try omega
       exact ah.again (j+1+1) ⟨Z,by rw[r8 _ _ _ u];rfl,Z,trivial⟩ Y ⟨by omega,c,a,ze,P⟩
     repeat'(first|refine Wz ?_|refine SW.want Z Z ?_|((first|refine Wk (H _) ?_|refine Wk (bE _ _ _ _) ?_);intro v n b m;subst m;obtain⟨c,a,d⟩:=aY b c a d))
     all_goals try omega
     refine ah.aF Z Z ⟨_,Z,c,?_⟩;rw[jW (λh=>O (h.next j u).1)]
    have F:dZ z=false:=jW (λh=>B (h.dm k u));by_cases C:gL z.aE z.To (z.ai[k]).At (z.ai[k]).Order
    ·have zn:¬(0<=(z.ai[k]).Ty∧(z.ai[k]).Ty<=2):=λh=>B ⟨C,h⟩;rw[decide_eq_true C]at H;repeat'(first|refine Wz ?_|refine SW.want Z Z ?_|((first|refine Wk (H _) ?_|refine Wk (bE _ _ _ _) ?_);intro v n b m;subst m;obtain⟨c,a,d⟩:=aY b c a d))
     all_goals try omega
     exact ah.aF Z Z ⟨_,Z,c,by rw[F]⟩
    rw[decide_eq_false C]at H;repeat'(first|refine Wz ?_|refine SW.skip Z Z Z Z ?_|(refine Wk (H _) ?_;intro v n b m;subst m;obtain⟨c,a,d⟩:=aY b c a d))
    exact ah.aF Z Z ⟨_,Z,c,by rw[F]⟩
   refine Wz ?_;refine ah.aF Z Z ⟨_,Z,c,?_⟩;rw[sQ ⟨by rw[<-eF,<-eT];exact D,S,A,λi h=>N i h Y,λi h=>hN i h Y⟩]
  refine Wz ?_;refine SW.alloc Z λT n b f l=>?_;have o:=c.up f;have e:K≠T:=by have:=a.lt;omega
  obtain⟨c,a,y⟩:=aY b c a y;refine Wg l (ck _) λw2 g p=>?_;have c:=c.own o p;have y:=y.dm l p Z Z;have a:=a.grown p (by simpa using e);have l:=g;refine Wz ?_;refine ah.aF Z Z ⟨_,Z,c,?_⟩;rw[jW (λh=>S h.len)]
 rw[lc D]at m;obtain⟨s,rfl,y⟩:=m;refine Wz ?_;refine SW.alloc Z λT n b f l=>?_;have o:=c.up f;have e:K≠T:=by have:=a.lt;omega
 obtain⟨c,a,y⟩:=aY b c a y;refine Wg l (ck _) λw2 g p=>?_;have c:=c.own o p;have y:=y.dm l p Z Z;have a:=a.grown p (by simpa using e);have l:=g;refine Wz ?_;refine ah.aF Z Z ⟨_,Z,c,?_⟩;rw[jW (λh=>D (by rw[eF,eT];exact h.ok))]
noncomputable def rS(z:ap)(a:Int):Int×Int:=if dZ z then(if z.aE<=a∧a<z.To then(z.Types.getD ((a-z.aE) / 8).toNat 0,0)else(0,1))else(0,8)
noncomputable def qC(z:ap):Int×Int:=if dZ z then(fu z.ai,0)else(0,8)
theorem FV(A:Option Addr)(n c:Nat)(l:List Block)(w:World)(g:Sl w 3 aL A n l)(h:∀b∈l,0<=b.Order∧b.Order<=4)(s:n<=100000000000000000):
 aS prog 220 [.slice A n c] w λv _=>v= .int .i64 (fu l):=by
 refine tV func220 rfl ntmps220 rfl ?_;have a:=Ext.refl w;have t:=g.base;refine Wz ?_;refine CW.loop (λk:Nat=>[(0,.slice A n c),(3,.int .i64 (fu (l.take k))),(4,.int .i64 (k:Int))]) (λk i=>k<=n∧Ext w i∧0<=fu (l.take k)∧fu (l.take k)<=16*(k:Int)) (λk=>n-k) 0 ⟨rfl,rfl,rfl,trivial⟩ ⟨by omega,a,by simp[fu],by simp[fu]⟩ ?_;rintro k i ⟨u,a,j,m⟩;by_cases d:k<n
 ·have e:=g.lt d;obtain⟨o,p⟩:=h l[k] (Pf e);have x:=bP o p;have q:=oX l k e;repeat'(first|refine Wz ?_|refine SW.st (bX a rfl (g.dp d rfl)) rfl ?_|(refine SW.call rfl rfl (dk _ Y _) ?_;intro v y f r;subst r;have a:=a.trans f))
  exact ah.again (k+1) ⟨rfl,by rw[q];rfl,rfl,trivial⟩ Y ⟨by omega,a,by omega,by omega⟩
 refine Wz ?_;refine ah.aF rfl rfl ⟨_,rfl,a,?_⟩;rw[Pl (by have:=g.len;omega)]
theorem FW(r:cM)(z:ap)(w:World)(f:vD w r z)(G:r.ai.n<=100000000000000000)(H:r.Types.n<=1000000000000000000)(y: -9223372036854775808<=r.aE∧r.aE<=9223372036854775807)(A: -9223372036854775808<=r.To∧r.To<=9223372036854775807):
 aS prog 208 [.agg (bu r).toArray] w λv _=>v= .tuple #[Iv (qC z).1,Iv (qC z).2]:=by
 refine Wj func208 ntmps208 ?_;refine Ww λI s a t b=>?_;have B:=f.free.len;obtain⟨q,m⟩:=bq (dZ z)
 have n:∀d,Ext w d->aS prog 127 [.agg (bu r).toArray] d λv _=>v=Iv (if q then 0 else 8):=λd h=>by
  have:=km r z d (f.ext h) Y Y y A;rwa[m]at this
 cases q
 ·have e:qC z=(0,8):=by simp[qC,m]
  rw[e];simp only[Bool.false_eq_true,if_false]at n;repeat'(first|refine Wz ?_|(refine Wc (n _ a) λs c=>?_;obtain⟨a,b⟩:=bk c a b))
  exact ah.cf Z Z Z ⟨_,Z,a,Z⟩
 simp only[if_true]at n;have u:=dj.1 m;have e:qC z=(fu z.ai,0):=by simp[qC,m]
 rw[e];repeat'(first|refine Wz ?_|(refine Wc (n _ a) λs c=>?_;obtain⟨a,b⟩:=bk c a b))
 refine CW.loop (λk:Nat=>[(5,Iv (fu (z.ai.take k))),(14,.slice r.ai.A r.ai.n r.ai.c),(15,Iv (r.ai.n:Int)),(16,Iv (k:Int))]) (λk d=>k<=r.ai.n∧Ext w d) (λk=>r.ai.n-k) 0 ⟨Z,Z,Z,Z,trivial⟩ ⟨by omega,a⟩ ?_;rintro k d ⟨J,a⟩;have K:=f.free.base;by_cases g:k<r.ai.n
 ·have i:=f.free.lt g;obtain⟨C,D,_⟩:=(u.dm k i).1;have L:=bP C D;have E:=oX z.ai k i;have M:=lz u k Y;repeat'(first|refine Wz ?_|refine Wo a ((f.free.all g)) ?_)
  refine SW.alloc Z λN O o j p=>?_;have l:=a.up j;have a:=a.trans o;skip;refine Wg p (gG.one (enc:=aL) _) λP x F=>?_;have a:=a.own l F;repeat'(first|refine Wz ?_|(refine SW.st (fO (r:=pw (z.ai[k]).Order) Z Z Y Y (by simp[pw]) Y Y) Z ?_))
  exact ah.again (k+1) ⟨by rw[E];rfl,Z,Z,Z,trivial⟩ Y ⟨by omega,a⟩
 refine Wz ?_;refine ah.cf Z Z Z ⟨_,Z,a,?_⟩;rw[Pl Y]
theorem MY.FX(r:cM)(z:ap)(a:Int)(w:World)(i:vD w r z)(p:r.ai.n<=2305843009213693952)(y:r.Types.n<=1000000000000000000)(s: -9223372036854775808<=r.aE∧r.aE<=9223372036854775807)(t: -9223372036854775808<=r.To∧r.To<=9223372036854775807):
 aS prog 158 [.agg (bu r).toArray,Iv a] w λv _=>v= .tuple #[Iv (rS z a).1,Iv (rS z a).2]:=by
 refine Wj func158 ntmps158 ?_;refine Ww λC m c u d=>?_;have D:=i.from_;have E:=i.kW;have A:=i.types.len;obtain⟨q,j⟩:=bq (dZ z)
 have l:∀g,Ext w g->aS prog 127 [.agg (bu r).toArray] g λv _=>v=Iv (if q then 0 else 8):=λg h=>by
  have:=km r z g (i.ext h) p Y s t;rwa[j]at this
 have c2:∀g,Ext w g->aS prog 178 [.agg (bu r).toArray] g λv _=>v= .bool q:=λg h=>by
  have:=lH r z g (i.ext h) p y s t;rwa[j]at this
 cases q
 ·have e:rS z a=(0,8):=by simp[rS,j]
  rw[e];simp only[Bool.false_eq_true,if_false]at l;repeat'(first|refine Wz ?_|(refine Wc (l _ c) λm b=>?_;obtain⟨c,d⟩:=bk b c d))
  exact ah.cf Z Z Z ⟨_,Z,c,Z⟩
 simp only[if_true]at l;have x:=dj.1 j;obtain⟨F,G,H,I,J⟩:=x.ok;have K:=i.types.base;by_cases f:z.aE<=a∧a<z.To
 ·obtain⟨k,B,n⟩:=vV x f.1 f.2;have o:k<r.Types.n:=Y;have e:rS z a=(z.Types[k],0):=by simp[rS,j,f,B,List.getD_eq_getElem?_getD,List.getElem?_eq_getElem n]
  rw[e];obtain⟨L,M⟩:=id f;repeat'(first|refine Wz ?_|refine SW.st (aU (k) Z Z ig Y Y) Z ?_|refine Wn c (i.types.one o Z) ?_|(refine Wc (l _ c) λm b=>?_;obtain⟨c,d⟩:=bk b c d))
  all_goals try omega
  exact ah.cf Z Z Z ⟨_,Z,c,Z⟩
 have e:rS z a=(0,1):=by simp only[rS,j,if_true,if_neg f]
 rw[e];repeat'(first|refine Wz ?_|refine SW.dP Z Z Z (λh=>?_) (λh=>?_)|(refine Wc (l _ c) λm b=>?_;obtain⟨c,d⟩:=bk b c d))
 all_goals try omega
 all_goals exact ah.cf Z Z Z ⟨_,Z,c,Z⟩
end Go.Proofs.YtdlfabkacdgneaaGreatDoor
