/- Part 11 of what kmemRuns_holds leans on. -/
import Derived.Test.YtdlfabkacdgneaaGreatDoorPackKmemRuns8
import Derived.LaidMore
import Derived.Stop.Joined
set_option maxHeartbeats 16000000
set_option linter.unusedVariables false
set_option linter.unusedSimpArgs false
set_option linter.defProp false
open Go.Proofs.Tryz
namespace Go.Proofs.YtdlfabkacdgneaaGreatDoor
open Go.RowKit
variable {α:Type} {l:List Block} {b lo:Nat} {A:Option Addr} {w w':World} {p:α -> Bool}
structure nq(w:World):Prop where
 row:∀(k:Nat),k<3->∀(j:Nat)(v:Value),[Iv (qb (k:Int)),Iv (qd (k:Int))][j]?=some v->w.cell? (((⟨1,0,none⟩:Addr).add (k*2)).add j)=some v
theorem nq.ext(h:nq w)(a:Ext w w'):nq w':=⟨λk b j v c=>a.cell (h.row k b j v c)⟩
def kf(lo:Nat)(u:ap×Int×Int)(v:Value)(w:World):Prop:=∃s,v= .tuple #[.agg (bu s).toArray,Iv u.2.1,Iv u.2.2]∧fv w lo s u.1
theorem kf.zero(e:Int)(lo:Nat)(w:World):kf lo (.zero,0,e) (.tuple #[.agg (bu .zero).toArray,Iv 0,Iv e]) w:=⟨.zero,Z,fv.zero _ _⟩
theorem rl{l:List α}(h:l.any p=true):∃(k:Nat)(d:k<l.length),p l[k]=true∧(∀(j:Nat)(b:j<l.length),j<k->p l[j]=false)∧idxOf p l=(k:Int):=by
 have a:l.findIdx p<l.length:=List.findIdx_lt_length_of_exists (by grind);exact⟨l.findIdx p,a,List.findIdx_getElem (w:=a),λj b c=>by grind,by unfold idxOf<;>grind⟩
theorem wM{l:List α}(h:l.any p=false):idxOf p l= -1:=by unfold idxOf<;>grind
theorem Own.MQ{n c:Nat}{x:Block}(h:Own w lo 129 3 aL A n c l)(a:ay w b 129 (aL x))(r:0<n)(j:∀y∈l,y.At≠x.At):aN A c≠some b:=by
 rcases h.row with⟨s,_⟩|⟨k,g,m,rfl,t,o,u,v,p,f⟩
 ·omega
 intro e;simp only[aN,Nat.pos_iff_ne_zero.1 k,if_false,Option.map_some,Option.some.injEq]at e;subst e;unfold ay at a;rw[o]at a;injection a with a
 injection a with NR _ _
 subst NR;have q:c=1:=by simp[aL]at p;omega
 have d:n=1:=Y;have i:=h.len;rw[d]at i;obtain⟨y,rfl⟩:=List.length_eq_one_iff.1 i;rw[d]at f;simp[aL]at f;exact j y fy f.1.symm
theorem JW(r:cM)(z:ap)(o t:Int)(w:World)(hr:vD w r z)(hf:(r.ai.n+1)*24<=140737488355328)(ht:r.Types.n*8<=140737488355328)(h1: -9223372036854775808<=r.aE∧r.aE<=9223372036854775807)(h2: -9223372036854775808<=r.To∧r.To<=9223372036854775807)(hO:nq w):
 aS prog 210 [.agg (bu r).toArray,Iv o,Iv t] w λv G=>∃u,gq z o t u∧kf w.heap.size u v G:=by
 refine Wj func210 ntmps210 ?_;refine Ww λb3 w1 B zJ d=>?_;refine SW.alloc Z λb6 w2 z0 zK a=>?_;have zL:=B.up zK;have zB:b3≠b6:=by have:=d.lt;omega
 obtain⟨B,d⟩:=bk z0 B d;have eF:=hr.from_;have eT:=hr.kW;have z1:=hr.free.len;have z8:=hr.types.len;obtain⟨q,hq⟩:=bq (dZ z)
 have c1:∀G,Ext w G->aS prog 127 [.agg (bu r).toArray] G λv _=>v=Iv (if q then 0 else 8):=λG h=>by
  have:=km r z G (hr.ext h) Y Y h1 h2;rwa[hq]at this
 cases q
 ·simp only[Bool.false_eq_true,if_false]at c1;repeat'(first|refine Wz ?_|(refine Wc (c1 _ B) λw1 E=>?_;obtain⟨B,d,a⟩:=aY E B d a;clear E))
  skip;refine Wh a (ck .zero) λw5 g R=>?_;have B:=jc g B;refine Wz ?_;exact ah.cb Z Z Z Z R Z ⟨_,Z,B,_,.bad hq,kf.zero 8 _ _⟩
 simp only[if_true]at c1;have hz:=dj.1 hq;obtain⟨o1,o2,o3,o4,o5⟩:=hz.ok;by_cases ho:0<=o∧o<=4
 ·by_cases X:iu t
  ·have zd:=X;unfold iu at zd;repeat'(first|refine Wz ?_|(refine Wc (c1 _ B) λw1 E=>?_;obtain⟨B,d,a⟩:=aY E B d a;clear E))
   refine Wk (ra r z _ (hr.ext B) Y ht) λv w4 z2 hv=>?_;obtain⟨s,rfl,hs,e1,e2⟩:=hv;have hs:=hs.low B.size;obtain⟨B,d,a⟩:=aY z2 B d a;clear c1;skip;refine Wg d (ck s) λw5 M I=>?_;have P:=d.gr I;have B:=B.own zJ I;have C:=hs.free.aQ P Z;have D:=hs.types.aQ P Z;have a:=a.grown I (by simpa using zB.symm);have d:=M;have es:s.ai.n=z.ai.length:=by rw[e1,z1]
   have sF:=hs.from_;have sT:=hs.kW;clear M I P hs;have cL:∀p u G,Sl G 3 aL s.ai.A s.ai.n z.ai->aS prog 233 [.agg (bu s).toArray,Iv p,Iv u] G λv _=>v=Iv (idxOf (jN p u) z.ai):=λp u G h=>FB s z.ai p u G h Y;refine Wz ?_
   obtain⟨K,hK⟩:∃K:Env->World->Prop,K=λL' G=>∃i:Int,eA L' [(1,Iv o),(2,Iv t),(3,Pt b3),(6,Pt b6),(10,Iv i)]∧Ext w G∧ay G b3 98 (bu s)∧ay G b6 98 (bu .zero)∧
    Own G w.heap.size 129 3 aL s.ai.A s.ai.n s.ai.c z.ai∧Own G w.heap.size 3 1 aT s.Types.A s.Types.n s.Types.c z.Types∧((i= -1∧∀m,m<5->iD z.ai o t m=false)∨∃k:Nat,i=(k:Int)∧gf z.ai o t (some (k,false))):=⟨_,Z⟩
   refine CW.vE K ?_ ?_
   ·refine CW.loop (λu:Nat×Int=>[(1,Iv o),(2,Iv t),(3,Pt b3),(6,Pt b6),(10,Iv u.2),(11,Iv (o+(u.1:Int)))])
     (λu G=>Ext w G∧ay G b3 98 (bu s)∧ay G b6 98 (bu .zero)∧Own G w.heap.size 129 3 aL s.ai.A s.ai.n s.ai.c z.ai∧Own G w.heap.size 3 1 aT s.Types.A s.Types.n s.Types.c z.Types∧
       ((u.2= -1∧(u.1:Int)<=5-o∧∀m,m<u.1->iD z.ai o t m=false)∨∃k:Nat,u.2=(k:Int)∧gf z.ai o t (some (k,false)))) (λu=>if u.2<0 then 7-u.1 else 0) (0,-1)
     ⟨Z,Z,Z,Z,Z,congrArg (λz=>some (Iv z)) fy,trivial⟩ ⟨B,d,a,C,D,.inl ⟨Z,by simp only;omega,λm h=>by simp only at h;omega⟩⟩ ?_
    clear B d a C D;rintro⟨j,i⟩ G ⟨B,d,a,C,D,N⟩;simp only at N⊢;rcases N with⟨rfl,hj,N⟩|⟨k,rfl,W⟩
    ·by_cases hp:o+(j:Int)<=4
     ·have ze:j<5:=Y;have zM:=DH (l:=z.ai) (o:=o) (t:=t) ze hp;cases H:z.ai.any (jN (o+(j:Int)) t)
      ·have c2:=cL (o+(j:Int)) t;rw[wM H]at c2;repeat'(first|refine Wz ?_|(refine Wc (c2 _ C.sl) λw1 E=>?_;obtain⟨B,d,a,C,D⟩:=dz E B d a C D;clear E))
       refine ah.again (j+1,-1) ⟨Z,Z,Z,Z,Z,congrArg (λz=>some (Iv z)) dD,trivial⟩ (by simp only;(repeat' split)<;>omega) ⟨B,d,a,C,D,.inl ⟨Z,by simp only;omega,λm h=>?_⟩⟩;simp only at h;by_cases e:m=j
       ·subst e;rw[zM,H]
       exact N m Y
      obtain⟨k,S,zf,zg,zh⟩:=rl H;have c2:=cL (o+(j:Int)) t;rw[zh]at c2;repeat'(first|refine Wz ?_|(refine Wc (c2 _ C.sl) λw1 E=>?_;obtain⟨B,d,a,C,D⟩:=dz E B d a C D;clear E))
      have W:gf z.ai o t (some (k,false)):=by
       have:=gf.hit (l:=z.ai) (o:=o) (t:=t) (n:=j) (k:=k) Y (by rw[zM,H]) N S (by rw[o8 ze,wF ze];exact zf) (by rw[o8 ze,wF ze];exact zg);rwa[decide_eq_false Y]at this
      exact ah.again (j+1,(k:Int)) ⟨Z,Z,Z,Z,Z,congrArg (λz=>some (Iv z)) dD,trivial⟩ (by simp only;(repeat' split)<;>omega) ⟨B,d,a,C,D,.inr ⟨k,Z,W⟩⟩
     refine Wz ?_
     have zC:∀m,m<5->iD z.ai o t m=false:=λm hm=>by
      by_cases e:m<j
      ·exact N m e
      exact wI (by rw[o8 hm];omega)
     exact ah.fW (K:=K) (by rw[hK];exact⟨-1,⟨Z,Z,Z,Z,Z,trivial⟩,B,d,a,C,D,.inl ⟨Z,zC⟩⟩)
    refine Wz ?_;exact ah.fW (K:=K) (by rw[hK];exact⟨(k:Int),⟨Z,Z,Z,Z,Z,trivial⟩,B,d,a,C,D,.inr ⟨k,Z,W⟩⟩)
   clear B d a C D;subst hK;rintro L' G ⟨i0,V,B,d,a,C,D,zi⟩;refine ah.sub V ?_;clear V;obtain⟨kt,zN⟩:∃kt:Nat,t=(kt:Int):=⟨t.toNat,by omega⟩;have zt:kt<3:=Y;have zu:=hO.row kt zt;rw[<-zN]at zu;refine Wz ?_
   obtain⟨K,hK⟩:∃K:Env->World->Prop,K=λL' G=>∃(i:Int)(F:List Block)(T:List Int),eA L' [(1,Iv o),(2,Iv t),(3,Pt b3),(6,Pt b6),(10,Iv i)]∧Ext w G∧ay G b3 98 (bu s)∧ay G b6 98 (bu .zero)∧
    Own G w.heap.size 129 3 aL s.ai.A s.ai.n s.ai.c F∧Own G w.heap.size 3 1 aT s.Types.A s.Types.n s.Types.c T∧((i= -1∧∀m,m<15->iD z.ai o t m=false)∨∃(k:Nat)(st:Bool)(S:k<z.ai.length),i=(k:Int)∧gf z.ai o t (some (k,st))∧F=fJ z z.ai[k] t st∧T=if st=true then fb z z.ai[k] t else z.Types):=⟨_,Z⟩
   refine CW.vE K ?_ ?_
   ·refine CW.loop (λu:Nat×Int×List Block×List Int=>[(1,Iv o),(2,Iv t),(3,Pt b3),(6,Pt b6),(10,Iv u.2.1),(12,Iv (4-(u.1:Int)))])
     (λu G=>Ext w G∧ay G b3 98 (bu s)∧ay G b6 98 (bu .zero)∧Own G w.heap.size 129 3 aL s.ai.A s.ai.n s.ai.c u.2.2.1∧Own G w.heap.size 3 1 aT s.Types.A s.Types.n s.Types.c u.2.2.2∧
       ((u.2.1= -1∧(u.1:Int)<=5-o∧(∀m,m<5+2*u.1->iD z.ai o t m=false)∧u.2.2.1=z.ai∧u.2.2.2=z.Types)∨∃(k:Nat)(st:Bool)(S:k<z.ai.length),u.2.1=(k:Int)∧gf z.ai o t (some (k,st))∧u.2.2.1=fJ z z.ai[k] t st∧u.2.2.2=if st=true then fb z z.ai[k] t else z.Types)) (λu=>if u.2.1<0 then 7-u.1 else 0) (0,i0,z.ai,z.Types)
     ⟨Z,Z,Z,Z,Z,Z,trivial⟩ ⟨B,d,a,C,D,?_⟩ ?_
    ·rcases zi with⟨rfl,zi⟩|⟨k,rfl,W⟩
     ·exact .inl ⟨Z,by simp only;omega,λm h=>zi m (by simp only at h;omega),Z,Z⟩
     obtain⟨S,_⟩:=W.ord;exact .inr ⟨k,false,S,Z,W,Z,Z⟩
    clear B d a C D zi;rintro⟨j,i,F,T⟩ G ⟨B,d,a,C,D,N⟩;simp only at C D N⊢;rcases N with⟨rfl,hj,N,rfl,rfl⟩|⟨k,st,S,rfl,W,hF,zs⟩
    ·by_cases hp:o<=4-(j:Int)
     ·have zO:=DI (l:=z.ai) (t:=t) hp;have zP:=DJ (l:=z.ai) (t:=t) hp;repeat'(first|refine Wz ?_|refine Wo B zu ?_|(refine SW.st (qa kt Z Z zN zt) Z ?_))
      refine CW.loop (λv:Nat=>[(1,Iv o),(2,Iv t),(3,Pt b3),(6,Pt b6),(10,Iv (-1)),(12,Iv (4-(j:Int))),(65,.agg [Iv (qb t),Iv (qd t)].toArray),(66,Iv (v:Int))])
       (λv G=>v<=2∧Ext w G∧ay G b3 98 (bu s)∧ay G b6 98 (bu .zero)∧Own G w.heap.size 129 3 aL s.ai.A s.ai.n s.ai.c z.ai∧Own G w.heap.size 3 1 aT s.Types.A s.Types.n s.Types.c z.Types∧∀m,m<5+2*j+v->iD z.ai o t m=false)
       (λv=>2-v) 0 ⟨Z,Z,Z,Z,Z,Z,Z,Z,trivial⟩ ⟨by omega,B,d,a,C,D,N⟩ ?_
      clear B d a C D N;rintro v G ⟨z9,B,d,a,C,D,N⟩;rcases(show v=0∨v=1∨v=2 by omega)with rfl|rfl|rfl
      ·cases H:z.ai.any (jN (4-(j:Int)) (qb t))
       ·have c2:=cL (4-(j:Int)) (qb t);rw[wM H]at c2;repeat'(first|refine Wz ?_|(refine Wc (c2 _ C.sl) λw1 E=>?_;obtain⟨B,d,a,C,D⟩:=dz E B d a C D;clear E)|(refine SW.st (pa 0 Z Z Z ir Z) Z ?_))
        refine ah.again (0+1) ⟨Z,Z,Z,Z,Z,Z,Z,Z,trivial⟩ Y ⟨by omega,B,d,a,C,D,λm h=>?_⟩;by_cases e:m=5+2*j+0
        ·subst e;exact zO.trans H
        exact N m Y
       obtain⟨k,S,zf,zg,zh⟩:=rl H;have c2:=cL (4-(j:Int)) (qb t);rw[zh]at c2;repeat'(first|refine Wz ?_|(refine Wc (c2 _ C.sl) λw1 E=>?_;obtain⟨B,d,a,C,D⟩:=dz E B d a C D;clear E)|(refine SW.st (pa 0 Z Z Z ir Z) Z ?_))
       refine SW.cm Z Z (Bq s z k t w _ B C D sF hz S Y) λv w5 hv=>?_;obtain⟨B,zj,C,D⟩:=hv;have d:=zj.out _ _ d;have a:=zj.out _ _ a
       have W:gf z.ai o t (some (k,true)):=by
        have:=gf.hit (l:=z.ai) (o:=o) (t:=t) (n:=5+2*j+0) (k:=k) Y (zO.trans H) N S (by have e1:=s8 (o:=o) (j:=j);have e2:=wG (t:=t) (j:=j);(try simp only[Nat.add_zero]at*);rw[e1,e2];exact zf) (by have e1:=s8 (o:=o) (j:=j);have e2:=wG (t:=t) (j:=j);(try simp only[Nat.add_zero]at*);rw[e1,e2];exact zg);rwa[decide_eq_true Y]at this
       refine Wz ?_;exact ah.again (j+1,(k:Int),fY z.ai z.ai[k] t,fb z z.ai[k] t) ⟨Z,Z,Z,Z,Z,congrArg (λz=>some (Iv z)) dD,trivial⟩ (by simp only;(repeat' split)<;>omega) ⟨B,d,a,C,D,.inr ⟨k,true,S,Z,W,Z,Z⟩⟩
      ·cases H:z.ai.any (jN (4-(j:Int)) (qd t))
       ·have c2:=cL (4-(j:Int)) (qd t);rw[wM H]at c2;repeat'(first|refine Wz ?_|(refine Wc (c2 _ C.sl) λw1 E=>?_;obtain⟨B,d,a,C,D⟩:=dz E B d a C D;clear E)|(refine SW.st (pa 1 Z Z Z ir Z) Z ?_))
        refine ah.again (1+1) ⟨Z,Z,Z,Z,Z,Z,Z,Z,trivial⟩ Y ⟨by omega,B,d,a,C,D,λm h=>?_⟩;by_cases e:m=5+2*j+1
        ·subst e;exact zP.trans H
        exact N m Y
       obtain⟨k,S,zf,zg,zh⟩:=rl H;have c2:=cL (4-(j:Int)) (qd t);rw[zh]at c2;repeat'(first|refine Wz ?_|(refine Wc (c2 _ C.sl) λw1 E=>?_;obtain⟨B,d,a,C,D⟩:=dz E B d a C D;clear E)|(refine SW.st (pa 1 Z Z Z ir Z) Z ?_))
       refine SW.cm Z Z (Bq s z k t w _ B C D sF hz S Y) λv w5 hv=>?_;obtain⟨B,zj,C,D⟩:=hv;have d:=zj.out _ _ d;have a:=zj.out _ _ a
       have W:gf z.ai o t (some (k,true)):=by
        have:=gf.hit (l:=z.ai) (o:=o) (t:=t) (n:=5+2*j+1) (k:=k) Y (zP.trans H) N S (by have e1:=s9 (o:=o) (j:=j);have e2:=wH (t:=t) (j:=j);(try simp only[Nat.add_zero]at*);rw[e1,e2];exact zf) (by have e1:=s9 (o:=o) (j:=j);have e2:=wH (t:=t) (j:=j);(try simp only[Nat.add_zero]at*);rw[e1,e2];exact zg);rwa[decide_eq_true Y]at this
       refine Wz ?_;exact ah.again (j+1,(k:Int),fY z.ai z.ai[k] t,fb z z.ai[k] t) ⟨Z,Z,Z,Z,Z,congrArg (λz=>some (Iv z)) dD,trivial⟩ (by simp only;(repeat' split)<;>omega) ⟨B,d,a,C,D,.inr ⟨k,true,S,Z,W,Z,Z⟩⟩
      refine Wz ?_;exact ah.again (j+1,-1,z.ai,z.Types) ⟨Z,Z,Z,Z,Z,congrArg (λz=>some (Iv z)) dD,trivial⟩ (by simp only;(repeat' split)<;>omega) ⟨B,d,a,C,D,.inl ⟨Z,by simp only;omega,λm h=>N m (by simp only at h;omega),Z,Z⟩⟩
     refine Wz ?_
     have zC:∀m,m<15->iD z.ai o t m=false:=λm hm=>by
      by_cases e:m<5+2*j
      ·exact N m e
      exact DK (j:=j) Y Y
     exact ah.fW (K:=K) (by rw[hK];exact⟨-1,z.ai,z.Types,⟨Z,Z,Z,Z,Z,trivial⟩,B,d,a,C,D,.inl ⟨Z,zC⟩⟩)
    refine Wz ?_;exact ah.fW (K:=K) (by rw[hK];exact⟨(k:Int),F,T,⟨Z,Z,Z,Z,Z,trivial⟩,B,d,a,C,D,.inr ⟨k,st,S,Z,W,hF,zs⟩⟩)
   clear B d a C D zi;subst hK;rintro L' G ⟨i,F,T,V,B,d,a,C,D,N⟩;refine ah.sub V ?_;clear V cL;rcases N with⟨rfl,N⟩|⟨k,st,S,rfl,W,rfl,zs⟩
   ·refine Wz ?_;refine Wh a (ck .zero) λw5 g R=>?_;have B:=jc g B;refine Wz ?_;exact ah.cb Z Z Z Z R Z ⟨_,Z,B,_,.room hq ho X (.JR N),kf.zero 6 _ _⟩
   obtain⟨_,zQ,z3⟩:=W.ord;obtain⟨l1,l2,l3⟩:=qe hz (b:=z.ai[k]) X st;have zD:k<(fJ z z.ai[k] t st).length:=Y;have zb:(fJ z z.ai[k] t st)[k]=⟨z.ai[k].At,z.ai[k].Order,mS z t st z.ai[k]⟩:=ri hz X st S;obtain⟨⟨f1,f2,f3,f4,f5⟩,f6⟩:=hz.dm k S;have zk:gq z o t (o9 z o t z.ai[k] k st,z.ai[k].At,0):= .ok hq ho X S W;have hJ:=uf l2 l3 zD;rw[zb]at hJ;have ya:=js hz;have zR:iu (mS z t st z.ai[k]):=by unfold mS;split<;>assumption
   obtain⟨ty,zE⟩:=bq (mS z t st z.ai[k])
   have zS:o9 z o t z.ai[k] k st=⟨z.aE,z.To,jO ty z.ai[k].At (z.ai[k].Order-o).toNat z.ai[k].Order ((fJ z z.ai[k] t st).eraseIdx k),T⟩:=by
    rw[zs,<-zE];rfl
   rw[zS]at zk;rw[zE]at zb zR;clear zS zE zs W;obtain⟨F,hF⟩:=bq (fJ z z.ai[k] t st);simp only[hF]at C l1 zD zb hJ zk;clear l2 l3;obtain⟨x,hx⟩:=bq (z.ai[k]);simp only[hx]at zb hJ zk f1 f2 f3 f4 f5 zQ z3;clear f6;have zT:k<s.ai.n:=Y;have hA:=C.sl.base;have zl:=C.sl.all zT;simp only[zb]at zl;repeat'(first|refine Wz ?_|refine Wm zl ?_)
   refine SW.alloc Z λQ w3 z4 zv f=>?_;have zw:=B.up zv;have U:aN s.ai.A s.ai.c≠some Q:=λe=>by have:=C.lt_size _ e;omega
   obtain⟨B,d,a,C,D⟩:=dz z4 B d a C D;clear zl;skip;refine Wg f (gG.one (enc:=aL) ⟨x.At,x.Order,ty⟩) λw5 O I=>?_;have P:=f.gr I;have B:=B.own zw I;have C:=C.grown I (.inr U);obtain⟨d,a,D⟩:=aY P d a D;have f:ay w5 Q 129 [Iv x.At,Iv x.Order,Iv ty]:=O;clear O I P zv;refine Wz ?_;refine SW.cm Z Z (oZ dB s.ai.A s.ai.n s.ai.c w.heap.size F _ C k zT Y B.size) λv w6 hv=>?_;obtain⟨rfl,zm,I⟩:=hv;have P:=C.gr I;have B:=au B I (Ph _) C.az;have f:=f.grown I (λe=>U e.symm);obtain⟨d,a,D⟩:=aY P d a D;clear I P;have zF:s.ai.n-1=(F.eraseIdx k).length:=by rw[P9 zD];omega
   rw[zF]at zm;rw[zF];refine Wz ?_;refine We (i:=2) d λw7 g M=>?_;obtain⟨B,a,f,zm,D⟩:=dz g B a f zm D;have d:ay w7 b3 98 [Iv s.aE,Iv s.To,.slice s.ai.A (F.eraseIdx k).length s.ai.c,.slice s.Types.A s.Types.n s.Types.c]:=M;clear g M C;refine Wz ?_;obtain⟨zc,zx⟩:=bq (jO ty x.At (x.Order-o).toNat x.Order (F.eraseIdx k));rw[zx]at zk
   refine CW.loop (λu:Int×List Block×Option Addr×Nat=>[(1,Iv o),(3,Pt b3),(6,Pt b6),(15,Pt Q)])
    (λu G=>Ext w G∧ay G b3 98 [Iv s.aE,Iv s.To,.slice u.2.2.1 u.2.1.length u.2.2.2,.slice s.Types.A s.Types.n s.Types.c]∧ay G b6 98 (bu .zero)∧ay G Q 129 [Iv x.At,Iv u.1,Iv ty]∧
      Own G w.heap.size 129 3 aL u.2.2.1 u.2.1.length u.2.2.2 u.2.1∧Own G w.heap.size 3 1 aT s.Types.A s.Types.n s.Types.c T∧AO z.aE z.To u.2.1 x.At u.1∧o<=u.1∧jO ty x.At (u.1-o).toNat u.1 u.2.1=zc∧(u.2.1.length:Int)+u.1<=300∧aN u.2.2.1 u.2.2.2≠some Q) (λu=>(u.1-o).toNat) (x.Order,F.eraseIdx k,s.ai.A,s.ai.c)
    ⟨Z,Z,Z,Z,trivial⟩ ⟨B,d,a,f,zm,D,hJ,zQ,zx,by simp only;omega,U⟩ ?_
   clear B d a f zm D hJ zF zb U;rintro⟨q,l,A,c⟩ G ⟨B,d,a,f,C,D,hJ,z5,za,zU,zG⟩;simp only at d f C hJ z5 za zU zG⊢;by_cases yb:o<q
   ·obtain⟨k1,k2,k3,k4,k5⟩:=hJ.fit;obtain⟨zH,z7⟩:=wJ hJ o1 o3 o5 Y zR;rw[show(q-o).toNat=(q-1-o).toNat+1 by omega,jO]at za;have yc:=bP (o:=q-1) Y Y;have cE:∀G,aS prog 195 [.agg (aL ⟨x.At,q-1,ty⟩).toArray] G λv _=>v=Iv (x.At+pw (q-1)):=λG=>ol ⟨x.At,q-1,ty⟩ G ⟨by simp only;omega,by simp only;omega⟩ ⟨by simp only;omega,by simp only;omega⟩
    have cF:∀G,Sl G 3 aL A l.length l->aS prog 197 [.agg (bu ⟨s.aE,s.To,⟨A,l.length,c⟩,s.Types⟩).toArray,Iv (x.At+pw (q-1))] G λv _=>v= .tuple #[Iv (bB l (x.At+pw (q-1)):Int),.bool (bx l (x.At+pw (q-1)))]:=λG h=>
     ue ⟨s.aE,s.To,⟨A,l.length,c⟩,s.Types⟩ l z.aE z.To (x.At+pw (q-1)) G h hJ.pN hJ.dm o1 Y dD ⟨by omega,by omega⟩
    have z6:=DC l (x.At+pw (q-1));have zV:=Bn ty x.At q l;refine Wz ?_;refine Wb (i:=1) f λw5 O I=>?_;have P:=f.gr I;have B:=B.own zw I;have C:=C.grown I (.inr zG);obtain⟨d,a,D⟩:=aY P d a D;have f:ay w5 Q 129 [Iv x.At,Iv (q-1),Iv ty]:=O;clear O I P;refine Wz ?_
    focus
     refine CW.any 8 mixed (cy bm) Z λw1 E zI=>?_;obtain⟨B,d,a,f,C,D⟩:=fi E B d a f C D;clear E;refine Wa ?_;refine SA.two 1 7 Z Z bm Z Z ?_ ?_
     focus
      refine Wc (cE _) λw4 L=>?_;obtain⟨B,d,a,f,C,D⟩:=fi L B d a f C D;try have J:=J.ext L
      refine SW.nil (ah.sa L ?_);refine Wa ?_;refine SA.bD 7 ?_;refine SW.alloc Z λzn w4 L zo J=>?_;have zy:=B.up zo;have zz:aN A c≠some zn:=λe=>by have:=C.lt_size _ e;omega
      have zA:Q≠zn:=by have:=f.lt;omega
      obtain⟨B,d,a,f,C,D⟩:=fi L B d a f C D;refine SW.nil (ah.sa L ?_)
     rotate_left
     focus
      refine SW.alloc Z λzn w4 L zo J=>?_;have zy:=B.up zo;have zz:aN A c≠some zn:=λe=>by have:=C.lt_size _ e;omega
      have zA:Q≠zn:=by have:=f.lt;omega
      obtain⟨B,d,a,f,C,D⟩:=fi L B d a f C D;refine SW.nil (ah.sa L ?_);refine SA.bD 1 ?_;refine Wc (cE _) λw4 L=>?_;obtain⟨B,d,a,f,C,D⟩:=fi L B d a f C D;try have J:=J.ext L
      refine SW.nil (ah.sa L ?_);refine Wa ?_
     rotate_left
     all_goals
      refine SA.fH ?_;skip;refine Wg J (gG.one (enc:=aL) ⟨x.At+pw (q-1),q-1,ty⟩) λw5 zp I=>?_;have P:=J.gr I;have B:=B.own zy I;have C:=C.grown I (.inr zz);have f:=f.grown I (by simpa using zA);obtain⟨d,a,D⟩:=aY P d a D;have J:=zp;clear zp I P cE;repeat'(first|refine Wz ?_|(refine Wc (cF _ C.sl) λw1 E=>?_;obtain⟨B,d,a,f,J,C,D⟩:=iX E B d a f J C D;clear E))
      refine SW.bz Z Z Z Z Z λb w6 L hb hB=>?_;have zW:aN A c≠some b:=λe=>by have:=C.lt_size _ e;omega
      obtain⟨B,d,a,f,C,D⟩:=fi L B d a f C D;skip;refine SW.cm Z Z (nC iB A l.length c w.heap.size l _ C (bB l (x.At+pw (q-1))) z6 (mR ty x.At q) b hB zW Y B.size) λv w7 hv=>?_;obtain⟨A2,c2,rfl,zq,I,_⟩:=hv;have P:=C.gr I;have B:=au B I (Ph _) C.az;have f:=f.grown I (λe=>zG e.symm);obtain⟨d,a,D⟩:=aY P d a D;clear I P C
      have zX:aN A2 c2≠some Q:=zq.MQ (x:=⟨x.At,q-1,ty⟩) f Y λy hy e=>by
       have g1:=(zH.dm y hy).1;have g2:=bP g1.1 g1.2.1;simp only at e;rcases zH.Lt y hy with g|g<;>omega
      rw[<-zV]at zq;rw[<-zV];refine Wz ?_;refine We (i:=2) d λw8 g M=>?_;obtain⟨B,a,f,zq,D⟩:=dz g B a f zq D;refine Wz ?_;exact ah.again (q-1,pH ty x.At q l,A2,c2) ⟨Z,Z,Z,Z,trivial⟩ dD ⟨B,M,a,f,zq,D,zH,by simp only;omega,za,by simp only;omega,zX⟩
   obtain rfl:o=q:=Y
   have zr:l=zc:=by
    rw[<-za,show(o-o).toNat=0 by omega];rfl
   rw[zr]at C;rw[zr]at d;refine Wz ?_;refine CW.iF 3 5 (λw2=>ay w2 Q 129 [Iv x.At,Iv o,Iv ty]) mixed bm λw1 E zI=>?_;obtain⟨B,d,a,f,C,D⟩:=fi E B d a f C D;clear E;refine Wf ?_;refine Wi 1 [] zI Z (aI Z) (λw2 hS=>aI Z) ?_;refine SF.nz 2 [] zI Z bm bm bm (aJ Z (f.cell (i:=0) (v:=Iv x.At) Z)) (λw2 hS=>aJ Z (hS.cell (i:=0) (v:=Iv x.At) Z)) Z ?_;refine SF.eW ?_;refine Wg a (ck ⟨s.aE,s.To,⟨A,zc.length,c⟩,s.Types⟩) λw5 R I=>?_;have P:=a.gr I;have hS:=f.aQ P Z;have B:=B.own zL I;obtain⟨C,D⟩:=bk P C D;refine SW.nil (ah.sg hS ?_);refine SG.bD 4 ?_;repeat(refine SW.pure Z Z ?_)
   refine SW.nil (ah.sg hS ?_);refine SG.dQ ?_;refine Wz ?_;exact ah.cb Z Z Z Z R Z ⟨_,Z,B,_,zk,⟨s.aE,s.To,⟨A,zc.length,c⟩,s.Types⟩,Z,⟨sF,sT,C,D⟩⟩
  have zd:=X;unfold iu at zd;rcases(show t<0∨(0<=t∧2<t)by omega)with g|g
  all_goals
   repeat'(first|refine Wz ?_|(refine Wc (c1 _ B) λw1 E=>?_;obtain⟨B,d,a⟩:=aY E B d a;clear E))
   refine Wh a (ck .zero) λw5 g R=>?_;have B:=jc g B;refine Wz ?_;exact ah.cb Z Z Z Z R Z ⟨_,Z,B,_,.kind hq ho X,kf.zero 2 _ _⟩
 rcases(show o<0∨(0<=o∧4<o)by omega)with g|g
 all_goals
  repeat'(first|refine Wz ?_|(refine Wc (c1 _ B) λw1 E=>?_;obtain⟨B,d,a⟩:=aY E B d a;clear E))
  refine Wh a (ck .zero) λw5 g R=>?_;have B:=jc g B;refine Wz ?_;exact ah.cb Z Z Z Z R Z ⟨_,Z,B,_,.range hq ho,kf.zero 1 _ _⟩
variable {k:Nat}
inductive qM(p:Block->Bool)(l:List Block):Block×Bool->Prop
 | hit {k:Nat} (hk:k<l.length) (hp:p l[k]=true) (hf:∀(j:Nat)(hj:j<l.length),j<k->p l[j]=false):qM p l (l[k],true)
 | JR (hf:∀(j:Nat)(hj:j<l.length),p l[j]=false):qM p l (⟨0,0,0⟩,false)
theorem qM.M6{p:Block->Bool}{u:Block×Bool}(h:qM p l u)(a:k<l.length)(b:p l[k]=true)(c:∀(j:Nat)(d:j<l.length),j<k->p l[j]=false):u=(l[k],true):=by
 cases h<;>grind
theorem qM.L7{p:Block->Bool}{u:Block×Bool}(h:qM p l u)(a:l.any p=false):u=(⟨0,0,0⟩,false):=by
 cases h<;>grind
theorem Da(A:Option Addr)(n c:Nat)(l:List Block)(o t:Int)(w:World)(hl:Sl w 3 aL A n l)(hn:n<=9223372036854775807)(hs:∀(i j:Nat)(hj:j<l.length)(OZ:i<j),(l[i]'Y).At<=l[j].At):
 aS prog 222 [.slice A n c,Iv o,Iv t] w λv _=>∃u,qM (jN o t) l u∧v= .tuple #[.agg (aL u.1).toArray,.bool u.2]:=by
 refine Wj func222 ntmps222 ?_;have hw:=Ext.refl w;refine CW.seq (CW.region (SW.alloc rfl λb6 w1 pP OG AL=>?_));have hw:=hw.trans pP;refine Wz ?_;refine SW.alloc rfl λb8 w1 pP OH lE=>?_;have EL:=hw.up OH;have OA:b6≠b8:=by have:=AL.lt;omega
 obtain⟨hw,AL⟩:=bk pP hw AL;skip;refine Wh lE (gG.one (enc:=aL) ⟨0,0,0⟩) λw2 g lE=>?_;obtain⟨hw,AL⟩:=bk g hw AL;have hA:=hl.base;have O0:=hl.len;refine Wz ?_
 refine CW.loop (λu:Nat×Block×Bool=>[(0,.slice A n c),(1,Iv o),(2,Iv t),(6,Pt b6),(8,Pt b8),(9,.bool u.2.2),(10,Iv (u.1:Int))])
  (λu w'=>u.1<=n∧Ext w w'∧ay w' b6 129 (aL ⟨0,0,0⟩)∧ay w' b8 129 (aL u.2.1)∧((u.2.2=false∧u.2.1=⟨0,0,0⟩∧∀(j:Nat)(hj:j<l.length),j<u.1->jN o t l[j]=false)∨∃(k:Nat)(hk:k<l.length),k<u.1∧u.2.2=true∧u.2.1=l[k]∧jN o t l[k]=true∧∀(j:Nat)(hj:j<l.length),j<k->jN o t l[j]=false))
  (λu=>n-u.1) (0,⟨0,0,0⟩,false) ⟨Z,Z,Z,Z,Z,Z,Z,trivial⟩ ⟨by simp only;omega,hw,AL,lE,.inl ⟨Z,Z,λj hj h=>by simp only at h;omega⟩⟩ ?_
 rintro⟨i,x,f⟩ w' ⟨hi,hw,AL,lE,hI⟩;simp only at hi lE hI⊢;by_cases NK:i<n
 ·have Oj:i<l.length:=Y;obtain⟨y,hy⟩:=bq (l[i]);have g0:=hl.dp NK (j:=0) (u:=Iv y.At) (by rw[hy];rfl);have g1:=hl.dp NK (j:=1) (u:=Iv y.Order) (by rw[hy];rfl);have g2:=hl.dp NK (j:=2) (u:=Iv y.Ty) (by rw[hy];rfl);have gA:=hl.all NK;simp only[hy]at gA
  have My:jN o t l[i]=false->(f=false∧x=⟨0,0,0⟩∧∀(j:Nat)(hj:j<l.length),j<i+1->jN o t l[j]=false)∨∃(k:Nat)(hk:k<l.length),k<i+1∧f=true∧x=l[k]∧jN o t l[k]=true∧∀(j:Nat)(hj:j<l.length),j<k->jN o t l[j]=false:=λhm=>by
   rcases hI with⟨h1,h2,h3⟩|⟨k,hk,h1,h2⟩
   ·refine .inl ⟨h1,h2,λj hj h=>?_⟩;by_cases e:j=i
    ·subst e;exact hm
    exact h3 j hj Y
   exact .inr ⟨k,hk,by omega,h2⟩
  by_cases h1:y.Order=o
  ·by_cases h2:y.Ty=t
   ·have hp:jN o t l[i]=true:=ou.2 ⟨by rw[hy];exact h1,by rw[hy];exact h2⟩;rcases hI with⟨rfl,rfl,h3⟩|⟨k,hk,Ok,rfl,hx,h4,h5⟩
    ·repeat'(first|refine Wz ?_|refine fq ?_|refine SW.skip Z Z Z Z ?_|refine Wn hw g1 ?_|refine Wn hw g2 ?_|refine Wo hw gA ?_|(refine SW.br λw1 pP=>?_;obtain⟨hw,AL,lE⟩:=aY pP hw AL lE))
     refine Wh lE (gG.one (enc:=aL) y) λw2 g N0=>?_;obtain⟨hw,AL⟩:=bk g hw AL;refine Wz ?_;exact ah.again (i+1,y,true) ⟨Z,Z,Z,Z,Z,Z,Z,trivial⟩ dD ⟨by simp only;omega,hw,AL,N0,.inr ⟨i,Oj,by simp only;omega,Z,hy.symm,hp,h3⟩⟩
    have hle:=hs k i Oj Ok;rw[hy,<-hx]at hle;repeat'(first|refine Wz ?_|refine fq ?_|refine SW.want Z Z ?_|refine Wn hw g0 ?_|refine Wn hw g1 ?_|refine Wn hw g2 ?_|(refine SW.br λw1 pP=>?_;obtain⟨hw,AL,lE⟩:=aY pP hw AL lE))
    all_goals try omega
    exact ah.again (i+1,x,true) ⟨Z,Z,Z,Z,Z,Z,Z,trivial⟩ dD ⟨by simp only;omega,hw,AL,lE,.inr ⟨k,hk,by simp only;omega,Z,hx,h4,h5⟩⟩
   have hm:=My (by cases e:jN o t l[i];rfl;exact absurd (hy▸(ou.1 e).2) h2);repeat'(first|refine Wz ?_|refine fq ?_|refine Wn hw g1 ?_|refine Wn hw g2 ?_|(refine SW.br λw1 pP=>?_;obtain⟨hw,AL,lE⟩:=aY pP hw AL lE))
   all_goals try omega
   exact ah.again (i+1,x,f) ⟨Z,Z,Z,Z,Z,Z,Z,trivial⟩ dD ⟨by simp only;omega,hw,AL,lE,hm⟩
  have hm:=My (by cases e:jN o t l[i];rfl;exact absurd (hy▸(ou.1 e).1) h1);repeat'(first|refine Wz ?_|refine fq ?_|refine Wn hw g1 ?_|(refine SW.br λw1 pP=>?_;obtain⟨hw,AL,lE⟩:=aY pP hw AL lE))
  all_goals try omega
  exact ah.again (i+1,x,f) ⟨Z,Z,Z,Z,Z,Z,Z,trivial⟩ dD ⟨by simp only;omega,hw,AL,lE,hm⟩
 refine Wz ?_;refine Wh AL (gG.one (enc:=aL) x) λw2 g Js=>?_;have hw:=jc g hw;refine Wz ?_;refine ah.a9 Z Z Z Js Z ⟨_,Z,hw,(x,f),?_,Z⟩;rcases hI with⟨rfl,rfl,h3⟩|⟨k,hk,Ok,rfl,rfl,h4,h5⟩
 ·exact .JR λj hj=>h3 j hj Y
 exact .hit hk h4 h5
theorem yY(t:Int)(w:World)(e:iu t):
 aS prog 223 [Iv t] w λv f=>∃A,v= .slice A 2 2∧Own f w.heap.size 3 1 aT A 2 2 [qb t,qd t]:=by
 refine Wj func223 ntmps223 ?_;have h:=Ext.refl w;unfold iu at e;rcases(show t=0∨t=1∨t=2 by omega)with rfl|rfl|rfl
 ·refine Wz ?_;refine SW.qA (enc:=aT) 2 1 rfl rfl rfl rfl rfl rfl λg c a d b=>?_;refine Wz ?_;exact ah.aF Z Z ⟨_,Z,a,_,Z,b⟩
 ·refine Wz ?_;refine SW.qA (enc:=aT) 2 0 Z Z Z Z Z Z λg c a d b=>?_;refine Wz ?_;exact ah.aF Z Z ⟨_,Z,a,_,Z,b⟩
 refine Wz ?_;refine SW.qA (enc:=aT) 0 1 Z Z Z Z Z Z λg c a d b=>?_;refine Wz ?_;exact ah.aF Z Z ⟨_,Z,a,_,Z,b⟩
variable {i:Nat} {z:ap}
def IU(T:List Int)(i:Nat)(t:Int)(c:Nat):List Int:=if c=0 then T else if c=1 then T.set i t else(T.set i t).set (i+1) t
theorem IV{T:List Int}{t:Int}{c:Nat}(a:c<2):(IU T i t c).set (i+c) t=IU T i t (c+1):=by
 rcases(show c=0∨c=1 by omega)with rfl|rfl<;>simp[IU]
def Jt(b:Block):Nat:=if b.Order=4 then 2 else 1
theorem KN{b:Block}{t:Int}(a:2<=b.Order):IU z.Types (lL z b) t (Jt b)=fb z b t:=by
 unfold IU Jt fb<;>grind
theorem M7{b:Block}(f:2<=b.Order)(d:b.Order<=4)(e:b.At % pw b.Order=0):(b.At+pw b.Order-1) / 8*8=ov b-8∧ov b-8=b.At / 8*8+8*(Jt b:Int)-8:=by
 unfold ov Jt;rcases eE (show 0<=b.Order by omega) d with⟨c,a⟩|⟨c,a⟩|⟨c,a⟩|⟨c,a⟩|⟨c,a⟩<;>rw[a]at e⊢<;>split<;>omega
theorem IW{b:Block}{t:Int}{st:Bool}(h:b.Order<2):fJ z b t st=z.ai∧(if st=true then fb z b t else z.Types)=z.Types∧mS z t st b=b.Ty:=by
 refine⟨?_,?_,?_⟩
 ·unfold fJ fY<;>grind
 all_goals simp_all[fb,if_pos,mS,if_neg]
theorem vp(r:cM)(z:ap)(o t:Int)(w:World)(hr:vD w r z)(hf:(r.ai.n+1)*24<=140737488355328)(ht:r.Types.n*8<=140737488355328)(h1: -9223372036854775808<=r.aE∧r.aE<=9223372036854775807)(h2: -9223372036854775808<=r.To∧r.To<=9223372036854775807):
 aS prog 187 [.agg (bu r).toArray,Iv o,Iv t] w λv H=>∃u,gq z o t u∧kf w.heap.size u v H:=by
 refine Wj func187 ntmps187 ?_;refine Ww λb3 w1 E ym D=>?_;refine SW.alloc Z λb6 w2 z9 zP d=>?_;have zQ:=E.up zP;have ya:b3≠b6:=by have:=D.lt;omega
 obtain⟨E,D⟩:=bk z9 E D;have eF:=hr.from_;have eT:=hr.kW;have yo:=hr.free.len;have yp:=hr.types.len;obtain⟨q,hq⟩:=bq (dZ z)
 have c1:∀H,Ext w H->aS prog 178 [.agg (bu r).toArray] H λv _=>v= .bool q:=λH h=>by
  have:=lH r z H (hr.ext h) Y Y h1 h2;rwa[hq]at this
 cases q
 ·repeat'(first|refine Wz ?_|(refine CW.bQ Z ?_)|(refine Wc (c1 _ E) λw1 J=>?_;obtain⟨E,D,d⟩:=aY J E D d))
  refine Wh d (ck .zero) λw5 g zc=>?_;have E:=jc g E;refine Wz ?_;exact ah.cb Z Z Z Z zc Z ⟨_,Z,E,_,.bad hq,kf.zero 8 _ _⟩
 have hz:=dj.1 hq;obtain⟨o1,o2,o3,o4,o5⟩:=hz.ok;by_cases ho:0<=o∧o<=4
 ·by_cases ze:iu t
  ·have zl:=ze;unfold iu at zl;repeat'(first|refine Wz ?_|(refine CW.bo Z ?_)|((first|refine Wk (c1 _ E) ?_|refine Wk (bE _ _ _ _) ?_);intro v w1 J hv;subst hv;obtain⟨E,D,d⟩:=aY J E D d))
   all_goals try omega
   refine Wk (o6 r z _ (hr.ext E) Y ht) λv w4 yb hv=>?_;obtain⟨s,rfl,hs⟩:=hv;have hs:=hs.low E.size;obtain⟨E,D,d⟩:=aY yb E D d;skip;refine SW.alloc Z λb9 w5 zm zR C=>?_;have zS:=E.up zR;have zF:b3≠b9:=by have:=D.lt;omega
   have zn:b6≠b9:=by have:=d.lt;omega
   obtain⟨E,D,d,hs⟩:=cG zm E D d hs;skip;refine Wg C (ck s) λw5 za P=>?_;have hG:=C.gr P;have E:=E.own zS P;have G:=hs.free.aQ hG Z;have I:=hs.types.aQ hG Z;have d:=d.grown P (by simpa using zn);have D:=D.grown P (by simpa using zF);have C:=za;have sF:=hs.from_;have sT:=hs.kW;have es:s.ai.n=z.ai.length:=hs.free.len.symm;have et:s.Types.n=z.Types.length:=hs.types.len.symm;refine Wz ?_;refine SW.alloc Z λN w5 zm zC a=>?_;have zf:=E.up zC;have R:aN s.ai.A s.ai.c≠some N:=λe=>by have:=G.lt_size _ e;omega
   obtain⟨E,D,d,C,G,I⟩:=fi zm E D d C G I;skip;refine Wg a (gG.one (enc:=aL) ⟨0,0,0⟩) λw6 L P=>?_;have hG:=a.gr P;have E:=E.own zf P;have G:=G.grown P (.inr R);obtain⟨D,d,C,I⟩:=cG hG D d C I;have a:=L;have yq:=js hz
   have zG:∀(i j:Nat)(hj:j<z.ai.length)(zT:i<j),(z.ai[i]'Y).At<=z.ai[j].At:=λi j hj zT=>by
    have g1:=je (mN hz) hj zT;have g2:=(hz.dm i Y).1;have g3:=bP g2.1 g2.2.1;omega
   have cL:∀p u H,Sl H 3 aL s.ai.A s.ai.n z.ai->aS prog 222 [.slice s.ai.A s.ai.n s.ai.c,Iv p,Iv u] H λv _=>∃x,qM (jN p u) z.ai x∧v= .tuple #[.agg (aL x.1).toArray,.bool x.2]:=λp u H h=>Da _ _ _ z.ai p u H h Y zG
   have zo:∀p u,z.ai.any (jN p u)=false->∀H,Sl H 3 aL s.ai.A s.ai.n z.ai->aS prog 222 [.slice s.ai.A s.ai.n s.ai.c,Iv p,Iv u] H λv _=>v= .tuple #[.agg (aL ⟨0,0,0⟩).toArray,.bool false]:=λp u ha H h=>(cL p u H h).mono λv w2 _ hv=>by
    obtain⟨x,hx,rfl⟩:=hv;rw[hx.L7 ha]
   have zp:∀p u(k:Nat)(S:k<z.ai.length)(x:Block),z.ai[k]=x->jN p u z.ai[k]=true->(∀(j:Nat)(hj:j<z.ai.length),j<k->jN p u z.ai[j]=false)->∀H,Sl H 3 aL s.ai.A s.ai.n z.ai->aS prog 222 [.slice s.ai.A s.ai.n s.ai.c,Iv p,Iv u] H λv _=>v= .tuple #[.agg (aL x).toArray,.bool true]:=λp u k S x hx hp hb H h=>(cL p u H h).mono λv w2 _ hv=>by
    obtain⟨y,hy,rfl⟩:=hv;rw[hy.M6 S hp hb,hx]
   refine Wz ?_
   obtain⟨K,hK⟩:∃K:Env->World->Prop,K=λL' H=>∃(f:Bool)(x:Block),eA L' [(1,Iv o),(2,Iv t),(3,Pt b3),(6,Pt b6),(9,Pt b9),(10,Pt N),(11,.bool f)]∧Ext w H∧ay H b3 98 (bu r)∧ay H b6 98 (bu .zero)∧ay H b9 98 (bu s)∧ay H N 129 (aL x)∧
    Own H w.heap.size 129 3 aL s.ai.A s.ai.n s.ai.c z.ai∧Own H w.heap.size 3 1 aT s.Types.A s.Types.n s.Types.c z.Types∧((f=false∧∀m,m<5->iD z.ai o t m=false)∨∃(k:Nat)(S:k<z.ai.length),f=true∧x=z.ai[k]∧gf z.ai o t (some (k,false))):=⟨_,Z⟩
   refine CW.vE K ?_ ?_
   ·refine CW.loop (λu:Nat×Bool×Block=>[(1,Iv o),(2,Iv t),(3,Pt b3),(6,Pt b6),(9,Pt b9),(10,Pt N),(11,.bool u.2.1),(12,Iv (o+(u.1:Int)))])
     (λu H=>Ext w H∧ay H b3 98 (bu r)∧ay H b6 98 (bu .zero)∧ay H b9 98 (bu s)∧ay H N 129 (aL u.2.2)∧Own H w.heap.size 129 3 aL s.ai.A s.ai.n s.ai.c z.ai∧Own H w.heap.size 3 1 aT s.Types.A s.Types.n s.Types.c z.Types∧(u.1:Int)<=5-o∧
       ((u.2.1=false∧∀m,m<u.1->iD z.ai o t m=false)∨∃(k:Nat)(S:k<z.ai.length),u.2.1=true∧u.2.2=z.ai[k]∧gf z.ai o t (some (k,false)))) (λu=>if u.2.1=true then 0 else 7-u.1) (0,false,⟨0,0,0⟩)
     ⟨Z,Z,Z,Z,Z,Z,Z,congrArg (λz=>some (Iv z)) fy,trivial⟩ ⟨E,D,d,C,a,G,I,by simp only;omega,.inl ⟨Z,λm h=>by simp only at h;omega⟩⟩ ?_
    rintro⟨j,f,x⟩ H ⟨E,D,d,C,a,G,I,hj,V⟩;simp only at a hj V⊢;rcases V with⟨rfl,V⟩|⟨k,S,rfl,zq,hP⟩
    ·by_cases hp:o+(j:Int)<=4
     ·have zr:j<5:=Y;have zU:=DH (l:=z.ai) (o:=o) (t:=t) zr hp;cases M:z.ai.any (jN (o+(j:Int)) t)
      ·have c2:=zo (o+(j:Int)) t M;repeat'(first|refine Wz ?_|(refine CW.bQ Z ?_)|(refine Wc (c2 _ G.sl) λw1 J=>?_;obtain⟨E,D,d,C,a,G,I⟩:=iX J E D d C a G I))
       refine Wh a (gG.one (enc:=aL) ⟨0,0,0⟩) λw6 g L=>?_;have E:=jc g E;have G:=G.grown g.g (.inr R);(obtain⟨D,d,C,I⟩:=cG g.T D d C I);refine Wz ?_;refine ah.again (j+1,false,⟨0,0,0⟩) ⟨Z,Z,Z,Z,Z,Z,Z,congrArg (λz=>some (Iv z)) dD,trivial⟩ (by simp<;>omega) ⟨E,D,d,C,L,G,I,by simp only;omega,.inl ⟨Z,λm h=>?_⟩⟩;simp only at h;by_cases e:m=j
       ·subst e;rw[zU,M]
       exact V m Y
      obtain⟨k,S,zb,zg,zV⟩:=rl M;obtain⟨y,hy⟩:=bq (z.ai[k]);have c2:=zp (o+(j:Int)) t k S y hy zb zg;repeat'(first|refine Wz ?_|(refine CW.bQ Z ?_)|(refine Wc (c2 _ G.sl) λw1 J=>?_;obtain⟨E,D,d,C,a,G,I⟩:=iX J E D d C a G I))
      refine Wh a (gG.one (enc:=aL) y) λw6 g L=>?_;have E:=jc g E;have G:=G.grown g.g (.inr R);(obtain⟨D,d,C,I⟩:=cG g.T D d C I)
      have hP:gf z.ai o t (some (k,false)):=by
       have:=gf.hit (l:=z.ai) (o:=o) (t:=t) (n:=j) (k:=k) Y (by rw[zU,M]) V S (by rw[o8 zr,wF zr];exact zb) (by rw[o8 zr,wF zr];exact zg);rwa[decide_eq_false Y]at this
      refine Wz ?_;exact ah.again (j+1,true,y) ⟨Z,Z,Z,Z,Z,Z,Z,congrArg (λz=>some (Iv z)) dD,trivial⟩ (by simp<;>omega) ⟨E,D,d,C,L,G,I,by simp only;omega,.inr ⟨k,S,Z,hy.symm,hP⟩⟩
     refine Wz ?_
     have zH:∀m,m<5->iD z.ai o t m=false:=λm hm=>by
      by_cases e:m<j
      ·exact V m e
      exact wI (by rw[o8 hm];omega)
     exact ah.fW (K:=K) (by rw[hK];exact⟨false,x,⟨Z,Z,Z,Z,Z,Z,Z,trivial⟩,E,D,d,C,a,G,I,.inl ⟨Z,zH⟩⟩)
    by_cases hp:o+(j:Int)<=4
    all_goals
     repeat'(first|refine Wz ?_|(refine CW.bo Z ?_))
     exact ah.fW (K:=K) (by rw[hK];exact⟨true,x,⟨Z,Z,Z,Z,Z,Z,Z,trivial⟩,E,D,d,C,a,G,I,.inr ⟨k,S,Z,zq,hP⟩⟩)
   subst hK;rintro L' H ⟨f0,x0,X,E,D,d,C,a,G,I,zs⟩;refine ah.sub X ?_;refine Wz ?_
   obtain⟨K,hK⟩:∃K:Env->World->Prop,K=λL' H=>∃(f:Bool)(x:Block)(F:List Block)(T:List Int),eA L' [(1,Iv o),(2,Iv t),(3,Pt b3),(6,Pt b6),(9,Pt b9),(10,Pt N),(11,.bool f)]∧Ext w H∧ay H b3 98 (bu r)∧ay H b6 98 (bu .zero)∧ay H b9 98 (bu s)∧ay H N 129 (aL x)∧
    Own H w.heap.size 129 3 aL s.ai.A s.ai.n s.ai.c F∧Own H w.heap.size 3 1 aT s.Types.A s.Types.n s.Types.c T∧((f=false∧∀m,m<15->iD z.ai o t m=false)∨∃(k:Nat)(st:Bool)(S:k<z.ai.length),f=true∧x=⟨z.ai[k].At,z.ai[k].Order,mS z t st z.ai[k]⟩∧gf z.ai o t (some (k,st))∧F=fJ z z.ai[k] t st∧T=if st=true then fb z z.ai[k] t else z.Types):=⟨_,Z⟩
   refine CW.vE K ?_ ?_
   ·refine CW.loop (λu:Nat×Bool×Block×List Block×List Int=>[(1,Iv o),(2,Iv t),(3,Pt b3),(6,Pt b6),(9,Pt b9),(10,Pt N),(11,.bool u.2.1),(13,Iv (4-(u.1:Int)))])
     (λu H=>Ext w H∧ay H b3 98 (bu r)∧ay H b6 98 (bu .zero)∧ay H b9 98 (bu s)∧ay H N 129 (aL u.2.2.1)∧Own H w.heap.size 129 3 aL s.ai.A s.ai.n s.ai.c u.2.2.2.1∧Own H w.heap.size 3 1 aT s.Types.A s.Types.n s.Types.c u.2.2.2.2∧(u.1:Int)<=5-o∧
       ((u.2.1=false∧(∀m,m<5+2*u.1->iD z.ai o t m=false)∧u.2.2.2.1=z.ai∧u.2.2.2.2=z.Types)∨∃(k:Nat)(st:Bool)(S:k<z.ai.length),u.2.1=true∧u.2.2.1=⟨z.ai[k].At,z.ai[k].Order,mS z t st z.ai[k]⟩∧gf z.ai o t (some (k,st))∧u.2.2.2.1=fJ z z.ai[k] t st∧u.2.2.2.2=if st=true then fb z z.ai[k] t else z.Types)) (λu=>if u.2.1=true then 0 else 7-u.1) (0,f0,x0,z.ai,z.Types)
     ⟨Z,Z,Z,Z,Z,Z,Z,Z,trivial⟩ ⟨E,D,d,C,a,G,I,by simp only;omega,?_⟩ ?_
    ·rcases zs with⟨rfl,zs⟩|⟨k,S,rfl,rfl,hP⟩
     ·exact .inl ⟨Z,λm h=>zs m (by simp only at h;omega),Z,Z⟩
     exact .inr ⟨k,false,S,Z,by simp[mS],hP,Z,Z⟩
    rintro⟨j,f,x,F,T⟩ H ⟨E,D,d,C,a,G,I,hj,V⟩;simp only at a G I hj V⊢;rcases V with⟨rfl,V,rfl,rfl⟩|⟨k,st,S,rfl,zq,hP,hF,zy⟩
    ·by_cases hp:o<=4-(j:Int)
     ·have zI:=DI (l:=z.ai) (t:=t) hp;have zJ:=DJ (l:=z.ai) (t:=t) hp;repeat'(first|refine Wz ?_|(refine CW.bQ Z ?_))
      refine Wk (yY t _ ze) λv w4 O hv=>?_;obtain⟨U,rfl,Q⟩:=hv;have Q:=Q.low E.size;obtain⟨E,D,d,C,a,G,I⟩:=iX O E D d C a G I;refine Wz ?_
      obtain⟨K2,zK⟩:∃K2:Env->World->Prop,K2=λL' H=>∃(f:Bool)(x:Block),eA L' [(1,Iv o),(2,Iv t),(3,Pt b3),(6,Pt b6),(9,Pt b9),(10,Pt N),(11,.bool f),(13,Iv (4-(j:Int)))]∧Ext w H∧ay H b3 98 (bu r)∧ay H b6 98 (bu .zero)∧ay H b9 98 (bu s)∧ay H N 129 (aL x)∧
       Own H w.heap.size 129 3 aL s.ai.A s.ai.n s.ai.c z.ai∧Own H w.heap.size 3 1 aT s.Types.A s.Types.n s.Types.c z.Types∧((f=false∧∀m,m<5+2*(j+1)->iD z.ai o t m=false)∨∃(k:Nat)(S:k<z.ai.length),f=true∧x=z.ai[k]∧z.ai[k].Order=4-(j:Int)∧gf z.ai o t (some (k,true))):=⟨_,Z⟩
      refine CW.vE K2 ?_ ?_
      ·refine CW.loop (λu:Nat×Bool×Block=>[(1,Iv o),(2,Iv t),(3,Pt b3),(6,Pt b6),(9,Pt b9),(10,Pt N),(11,.bool u.2.1),(13,Iv (4-(j:Int))),(14,.slice U 2 2),(15,Iv (u.1:Int))])
        (λu H=>u.1<=2∧Ext w H∧ay H b3 98 (bu r)∧ay H b6 98 (bu .zero)∧ay H b9 98 (bu s)∧ay H N 129 (aL u.2.2)∧Own H w.heap.size 129 3 aL s.ai.A s.ai.n s.ai.c z.ai∧Own H w.heap.size 3 1 aT s.Types.A s.Types.n s.Types.c z.Types∧Own H w.heap.size 3 1 aT U 2 2 [qb t,qd t]∧
          ((u.2.1=false∧∀m,m<5+2*j+u.1->iD z.ai o t m=false)∨∃(k:Nat)(S:k<z.ai.length),u.2.1=true∧u.2.2=z.ai[k]∧z.ai[k].Order=4-(j:Int)∧gf z.ai o t (some (k,true)))) (λu=>if u.2.1=true then 0 else 7-u.1) (0,false,x)
        ⟨Z,Z,Z,Z,Z,Z,Z,Z,Z,Z,trivial⟩ ⟨by simp only;omega,E,D,d,C,a,G,I,Q,.inl ⟨Z,V⟩⟩ ?_
       rintro⟨v,f,x⟩ H ⟨yc,E,D,d,C,a,G,I,Q,V⟩;simp only at yc a V⊢;rcases V with⟨rfl,V⟩|⟨k,S,rfl,zq,zh,hP⟩
       ·rcases(show v=0∨v=1∨v=2 by omega)with rfl|rfl|rfl
        ·have hV:0<2:=Y;have yd:=Q.sl.base;cases M:z.ai.any (jN (4-(j:Int)) (qb t))
         ·have c2:=zo (4-(j:Int)) (qb t) M;repeat'(first|refine Wz ?_|(refine CW.bQ Z ?_))
          refine CW.iF 11 12 (λ_=>True) mixed bm λw1 J W=>?_;obtain⟨E,D,d,C,a,G,I,Q⟩:=nS J E D d C a G I Q;refine Wf ?_;refine Wt 6 [] [] W Z (aJ Z (Q.sl.one hV (u:=Iv (qb t)) Z)) ?_;refine SF.bD 7 ?_;refine Wc (c2 _ G.sl) λw4 O=>?_;obtain⟨E,D,d,C,a,G,I,Q⟩:=nS O E D d C a G I Q;refine SW.nil (ah.sf O ?_);refine Wf ?_;refine Wi 10 [] W Z (aH Z) (λw2 hS=>aH Z) ?_;refine SF.eW ?_;refine Wg a (gG.one (enc:=aL) ⟨0,0,0⟩) λw6 L P=>?_;have hG:=a.gr P;have hS:True:=trivial;have E:=E.own zf P;have G:=G.grown P (.inr R);obtain⟨D,d,C,I,Q⟩:=dz hG D d C I Q;refine SW.nil (ah.sg hS ?_);refine SG.dQ ?_;refine Wz ?_;refine ah.again (0+1,false,⟨0,0,0⟩) ⟨Z,Z,Z,Z,Z,Z,Z,Z,Z,Z,trivial⟩ (by simp<;>omega) ⟨by simp only;omega,E,D,d,C,L,G,I,Q,.inl ⟨Z,λm h=>?_⟩⟩;simp only at h;by_cases e:m=5+2*j+0
          ·subst e;exact zI.trans M
          exact V m Y
         obtain⟨k,S,zb,zg,zV⟩:=rl M;obtain⟨y,hy⟩:=bq (z.ai[k]);have c2:=zp (4-(j:Int)) (qb t) k S y hy zb zg
         have hP:gf z.ai o t (some (k,true)):=by
          have:=gf.hit (l:=z.ai) (o:=o) (t:=t) (n:=5+2*j+0) (k:=k) Y (zI.trans M) V S (by have e1:=s8 (o:=o) (j:=j);have e2:=wG (t:=t) (j:=j);(try simp only[Nat.add_zero]at*);rw[e1,e2];exact zb) (by have e1:=s8 (o:=o) (j:=j);have e2:=wG (t:=t) (j:=j);(try simp only[Nat.add_zero]at*);rw[e1,e2];exact zg);rwa[decide_eq_true Y]at this
         have zh:=(ou.1 zb).1;repeat'(first|refine Wz ?_|(refine CW.bQ Z ?_))
         refine CW.iF 11 12 (λ_=>True) mixed bm λw1 J W=>?_;obtain⟨E,D,d,C,a,G,I,Q⟩:=nS J E D d C a G I Q;refine Wf ?_;refine Wt 6 [] [] W Z (aJ Z (Q.sl.one hV (u:=Iv (qb t)) Z)) ?_;refine SF.bD 7 ?_;refine Wc (c2 _ G.sl) λw4 O=>?_;obtain⟨E,D,d,C,a,G,I,Q⟩:=nS O E D d C a G I Q;refine SW.nil (ah.sf O ?_);refine Wf ?_;refine Wi 10 [] W Z (aH Z) (λw2 hS=>aH Z) ?_;refine SF.eW ?_;refine Wg a (gG.one (enc:=aL) y) λw6 L P=>?_;have hG:=a.gr P;have hS:True:=trivial;have E:=E.own zf P;have G:=G.grown P (.inr R);obtain⟨D,d,C,I,Q⟩:=dz hG D d C I Q;refine SW.nil (ah.sg hS ?_);refine SG.dQ ?_;refine Wz ?_;exact ah.again (0+1,true,y) ⟨Z,Z,Z,Z,Z,Z,Z,Z,Z,Z,trivial⟩ (by simp<;>omega) ⟨by simp only;omega,E,D,d,C,L,G,I,Q,.inr ⟨k,S,Z,hy.symm,zh,hP⟩⟩
        ·have hV:1<2:=Y;have yd:=Q.sl.base;cases M:z.ai.any (jN (4-(j:Int)) (qd t))
         ·have c2:=zo (4-(j:Int)) (qd t) M;repeat'(first|refine Wz ?_|(refine CW.bQ Z ?_))
          refine CW.iF 11 12 (λ_=>True) mixed bm λw1 J W=>?_;obtain⟨E,D,d,C,a,G,I,Q⟩:=nS J E D d C a G I Q;refine Wf ?_;refine Wt 6 [] [] W Z (aJ Z (Q.sl.one hV (u:=Iv (qd t)) Z)) ?_;refine SF.bD 7 ?_;refine Wc (c2 _ G.sl) λw4 O=>?_;obtain⟨E,D,d,C,a,G,I,Q⟩:=nS O E D d C a G I Q;refine SW.nil (ah.sf O ?_);refine Wf ?_;refine Wi 10 [] W Z (aH Z) (λw2 hS=>aH Z) ?_;refine SF.eW ?_;refine Wg a (gG.one (enc:=aL) ⟨0,0,0⟩) λw6 L P=>?_;have hG:=a.gr P;have hS:True:=trivial;have E:=E.own zf P;have G:=G.grown P (.inr R);obtain⟨D,d,C,I,Q⟩:=dz hG D d C I Q;refine SW.nil (ah.sg hS ?_);refine SG.dQ ?_;refine Wz ?_;refine ah.again (1+1,false,⟨0,0,0⟩) ⟨Z,Z,Z,Z,Z,Z,Z,Z,Z,Z,trivial⟩ (by simp<;>omega) ⟨by simp only;omega,E,D,d,C,L,G,I,Q,.inl ⟨Z,λm h=>?_⟩⟩;simp only at h;by_cases e:m=5+2*j+1
          ·subst e;exact zJ.trans M
          exact V m Y
         obtain⟨k,S,zb,zg,zV⟩:=rl M;obtain⟨y,hy⟩:=bq (z.ai[k]);have c2:=zp (4-(j:Int)) (qd t) k S y hy zb zg
         have hP:gf z.ai o t (some (k,true)):=by
          have:=gf.hit (l:=z.ai) (o:=o) (t:=t) (n:=5+2*j+1) (k:=k) Y (zJ.trans M) V S (by have e1:=s9 (o:=o) (j:=j);have e2:=wH (t:=t) (j:=j);(try simp only[Nat.add_zero]at*);rw[e1,e2];exact zb) (by have e1:=s9 (o:=o) (j:=j);have e2:=wH (t:=t) (j:=j);(try simp only[Nat.add_zero]at*);rw[e1,e2];exact zg);rwa[decide_eq_true Y]at this
         have zh:=(ou.1 zb).1;repeat'(first|refine Wz ?_|(refine CW.bQ Z ?_))
         refine CW.iF 11 12 (λ_=>True) mixed bm λw1 J W=>?_;obtain⟨E,D,d,C,a,G,I,Q⟩:=nS J E D d C a G I Q;refine Wf ?_;refine Wt 6 [] [] W Z (aJ Z (Q.sl.one hV (u:=Iv (qd t)) Z)) ?_;refine SF.bD 7 ?_;refine Wc (c2 _ G.sl) λw4 O=>?_;obtain⟨E,D,d,C,a,G,I,Q⟩:=nS O E D d C a G I Q;refine SW.nil (ah.sf O ?_);refine Wf ?_;refine Wi 10 [] W Z (aH Z) (λw2 hS=>aH Z) ?_;refine SF.eW ?_;refine Wg a (gG.one (enc:=aL) y) λw6 L P=>?_;have hG:=a.gr P;have hS:True:=trivial;have E:=E.own zf P;have G:=G.grown P (.inr R);obtain⟨D,d,C,I,Q⟩:=dz hG D d C I Q;refine SW.nil (ah.sg hS ?_);refine SG.dQ ?_;refine Wz ?_;exact ah.again (1+1,true,y) ⟨Z,Z,Z,Z,Z,Z,Z,Z,Z,Z,trivial⟩ (by simp<;>omega) ⟨by simp only;omega,E,D,d,C,L,G,I,Q,.inr ⟨k,S,Z,hy.symm,zh,hP⟩⟩
        refine Wz ?_;exact ah.fW (K:=K2) (by rw[zK];exact⟨false,x,⟨Z,Z,Z,Z,Z,Z,Z,Z,trivial⟩,E,D,d,C,a,G,I,.inl ⟨Z,λm h=>V m Y⟩⟩)
       rcases(show v<2∨v=2 by omega)with ye|ye
       all_goals
        repeat'(first|refine Wz ?_|(refine CW.bo Z ?_))
        exact ah.fW (K:=K2) (by rw[zK];exact⟨true,x,⟨Z,Z,Z,Z,Z,Z,Z,Z,trivial⟩,E,D,d,C,a,G,I,.inr ⟨k,S,Z,zq,zh,hP⟩⟩)
      subst zK;rintro L' H ⟨f,x,X,E,D,d,C,a,G,I,V⟩;refine ah.sub X ?_;rcases V with⟨rfl,V⟩|⟨k,S,rfl,rfl,zh,hP⟩
      ·refine Wz ?_;exact ah.again (j+1,false,x,z.ai,z.Types) ⟨Z,Z,Z,Z,Z,Z,Z,congrArg (λz=>some (Iv z)) dD,trivial⟩ (by simp<;>omega) ⟨E,D,d,C,a,G,I,by simp only;omega,.inl ⟨Z,V,Z,Z⟩⟩
      by_cases yr:4-(j:Int)<2
      ·obtain⟨q1,q2,q3⟩:=IW (z:=z) (b:=z.ai[k]) (t:=t) (st:=true) Y;refine Wz ?_;exact ah.again (j+1,true,z.ai[k],z.ai,z.Types) ⟨Z,Z,Z,Z,Z,Z,Z,congrArg (λz=>some (Iv z)) dD,trivial⟩ (by simp<;>omega) ⟨E,D,d,C,a,G,I,by simp only;omega,.inr ⟨k,true,S,Z,by simp only[q3],hP,q1.symm,q2.symm⟩⟩
      have yn:2<=4-(j:Int):=Y;obtain⟨⟨f1,f2,f3,f4,f5⟩,f6⟩:=hz.dm k S
      have zt:∃(k':Nat)(st:Bool)(zW:k'<z.ai.length),(⟨z.ai[k].At,z.ai[k].Order,t⟩:Block)=⟨z.ai[k'].At,z.ai[k'].Order,mS z t st z.ai[k']⟩∧gf z.ai o t (some (k',st))∧fY z.ai z.ai[k] t=fJ z z.ai[k'] t st∧fb z z.ai[k] t=if st=true then fb z z.ai[k'] t else z.Types:=
       ⟨k,true,S,by unfold mS;rw[if_pos ⟨Z,by omega⟩],hP,Z,Z⟩
      obtain⟨x,hx⟩:=bq (z.ai[k]);simp only[hx]at zh f1 f2 f3 f4 f5 a zt;have cP:∀H,aS prog 123 [Iv (4-(j:Int))] H λv _=>v=Iv (pw x.Order):=λH=>by rw[zh];exact dk _ Y H
      have ys:=bP f1 f2;obtain⟨yf,yt⟩:=M7 (b:=x) Y f2 f5;have yg:∀c:Nat,(x.At / 8*8+8*(c:Int)-z.aE) / 8=((lL z x+c:Nat):Int):=λc=>by unfold lL;omega
      have yh:∀c:Nat,c<Jt x->lL z x+c<s.Types.n:=λc hc=>by
       unfold Jt at hc;unfold lL;have zD:=hz.len;rcases eE f1 f2 with⟨e1,e2⟩|⟨e1,e2⟩|⟨e1,e2⟩|⟨e1,e2⟩|⟨e1,e2⟩<;>rw[e2]at f5<;>split at hc<;>omega
      have yu:Jt x<=2:=by unfold Jt;split<;>omega
      repeat'(first|refine Wz ?_|refine fq ?_|refine SW.ba Z Z (λw1 J=>(cP _)) ?_|(refine SW.br λw1 J=>?_;obtain⟨E,D,d,C,a,G,I⟩:=iX J E D d C a G I))
      refine CW.loop (λc:Nat=>[(1,Iv o),(2,Iv t),(3,Pt b3),(6,Pt b6),(9,Pt b9),(10,Pt N),(11,.bool true),(13,Iv (4-(j:Int))),(16,Iv (x.At / 8*8)),(17,Iv (ov x-8)),(18,Iv (x.At / 8*8+8*(c:Int)))])
       (λc H=>c<=Jt x∧Ext w H∧ay H b3 98 (bu r)∧ay H b6 98 (bu .zero)∧ay H b9 98 (bu s)∧ay H N 129 (aL x)∧
         Own H w.heap.size 129 3 aL s.ai.A s.ai.n s.ai.c z.ai∧Own H w.heap.size 3 1 aT s.Types.A s.Types.n s.Types.c (IU z.Types (lL z x) t c)) (λc=>Jt x-c) 0
       ⟨Z,Z,Z,Z,Z,Z,Z,Z,Z,congrArg (λz=>some (Iv z)) yf,congrArg (λz=>some (Iv z)) Y,trivial⟩ ⟨by omega,E,D,d,C,a,G,I⟩ ?_
      rintro c H ⟨hc,E,D,d,C,a,G,I⟩;by_cases zX:c<Jt x
      ·have yv:=yg c;have zu:=yh c zX;have yw:=I.sl.base;repeat'(first|refine Wz ?_|refine SW.st (aU (lL z x+c) Z Z ig Y Y) Z ?_)
       refine SW.j3 (lL z x+c) I Z Z zu λw5 z0 P=>?_;have hG:=I.gr P;have E:=au E P (Ph _) I.az;obtain⟨D,d,C,a,G⟩:=dz hG D d C a G;rw[IV Y]at z0;refine Wz ?_;exact ah.again (c+1) ⟨Z,Z,Z,Z,Z,Z,Z,Z,Z,Z,congrArg (λz=>some (Iv z)) Y,trivial⟩ Y ⟨by omega,E,D,d,C,a,G,z0⟩
      obtain rfl:c=Jt x:=Y;rw[KN Y]at I;refine Wz ?_;obtain⟨f,hf⟩:=bq (Jq (x.At / 8*8) (ov x) t)
      refine CW.loop (λi:Nat=>[(1,Iv o),(2,Iv t),(3,Pt b3),(6,Pt b6),(9,Pt b9),(10,Pt N),(11,.bool true),(13,Iv (4-(j:Int))),(16,Iv (x.At / 8*8)),(17,Iv (ov x-8)),(19,Iv (i:Int))])
       (λi H=>i<=s.ai.n∧Ext w H∧ay H b3 98 (bu r)∧ay H b6 98 (bu .zero)∧ay H b9 98 (bu s)∧ay H N 129 (aL x)∧
         Own H w.heap.size 129 3 aL s.ai.A s.ai.n s.ai.c (k7 f z.ai i)∧Own H w.heap.size 3 1 aT s.Types.A s.Types.n s.Types.c (fb z x t)) (λi=>s.ai.n-i) 0
       ⟨Z,Z,Z,Z,Z,Z,Z,Z,Z,Z,Z,trivial⟩ ⟨by omega,E,D,d,C,a,by rw[wL];exact G,I⟩ ?_
      rintro i H ⟨hi,E,D,d,C,a,G,I⟩;have hA:=G.sl.base;by_cases zu:i<s.ai.n
      ·have zz:i<z.ai.length:=Y;obtain⟨g1,g2,g3,g4,g5⟩:=(hz.dm i zz).1;obtain⟨y,hy⟩:=bq (z.ai[i]);have zi:=ug (f:=f) zz;rw[hy]at g1 g2 g3 g4 g5 zi;have yx:=bP g1 g2;have y0:∀w2,Own w2 w.heap.size 129 3 aL s.ai.A s.ai.n s.ai.c (k7 f z.ai i)->w2.cell? (((s.ai.A.getD default).add (i*3)).add 0)=some (Iv y.At):=λw2 h=>h.sl.dp zu (by rw[zi];rfl);have y1:∀w2,Own w2 w.heap.size 129 3 aL s.ai.A s.ai.n s.ai.c (k7 f z.ai i)->w2.cell? (((s.ai.A.getD default).add (i*3)).add 1)=some (Iv y.Order):=λw2 h=>h.sl.dp zu (by rw[zi];rfl);have cY:∀H,aS prog 123 [Iv y.Order] H λv _=>v=Iv (pw y.Order):=λH=>dk _ Y H;by_cases zv:x.At / 8*8<=y.At∧y.At+pw y.Order<=ov x
       ·have zL:f y=⟨y.At,y.Order,t⟩:=by rw[<-hf];unfold Jq;rw[if_pos zv]
        repeat'(first|refine Wz ?_|refine fq ?_|refine Wl (y0 _ G) ?_|refine Wl (y1 _ G) ?_|refine SW.ba Z Z (λw1 J=>(bE _ _ _ _)) ?_|refine SW.ba Z Z (λw1 J=>(cY _)) ?_|(refine SW.br λw1 J=>?_;obtain⟨E,D,d,C,a,G,I⟩:=iX J E D d C a G I))
        all_goals try omega
        refine SW.eY i 2 ⟨y.At,y.Order,t⟩ G Z Z Z zu ir Z (by rw[zi];rfl) λw5 z1 P=>?_;have hG:=G.gr P;have E:=au E P (Ph _) G.az;have a:=a.grown P (λe=>R e.symm);obtain⟨D,d,C,I⟩:=cG hG D d C I;rw[<-zL,<-hy,rj zz]at z1;refine Wz ?_;exact ah.again (i+1) ⟨Z,Z,Z,Z,Z,Z,Z,Z,Z,Z,Z,trivial⟩ Y ⟨by omega,E,D,d,C,a,z1,I⟩
       have zL:f y=y:=by rw[<-hf];unfold Jq;rw[if_neg zv]
       have z2:=wK (f:=f) zz (by rw[hy];exact zL);obtain⟨bI,z3⟩:=bq (decide (x.At / 8*8<=y.At∧y.At<=ov x-8+7))
       have cI:∀H,aS prog 40 [Iv y.At,Iv (x.At / 8*8),Iv (ov x-8+7)] H λv _=>v= .bool bI:=λH=>by
        have:=bE y.At (x.At / 8*8) (ov x-8+7) H;rwa[z3]at this
       cases bI
       ·repeat'(first|refine Wz ?_|refine fq ?_|refine Wl (y0 _ G) ?_|refine SW.ba Z Z (λw1 J=>(cI _)) ?_|(refine SW.br λw1 J=>?_;obtain⟨E,D,d,C,a,G,I⟩:=iX J E D d C a G I))
        exact ah.again (i+1) ⟨Z,Z,Z,Z,Z,Z,Z,Z,Z,Z,Z,trivial⟩ Y ⟨by omega,E,D,d,C,a,by rw[z2];exact G,I⟩
       have yy:=of_decide_eq_true z3;repeat'(first|refine Wz ?_|refine fq ?_|refine Wl (y0 _ G) ?_|refine Wl (y1 _ G) ?_|refine SW.ba Z Z (λw1 J=>(cI _)) ?_|refine SW.ba Z Z (λw1 J=>(cY _)) ?_|(refine SW.br λw1 J=>?_;obtain⟨E,D,d,C,a,G,I⟩:=iX J E D d C a G I))
       exact ah.again (i+1) ⟨Z,Z,Z,Z,Z,Z,Z,Z,Z,Z,Z,trivial⟩ Y ⟨by omega,E,D,d,C,a,by rw[z2];exact G,I⟩
      obtain rfl:i=s.ai.n:=Y;rw[es,Bp,<-hf]at G;have zM:Own H w.heap.size 129 3 aL s.ai.A s.ai.n s.ai.c (fY z.ai x t):=by rw[fY,if_neg Y,es];exact G
      refine Wz ?_;refine We (i:=2) a λw6 g L=>?_;have E:=jc g E;have zM:=zM.grown g.g (.inr R);(obtain⟨D,d,C,I⟩:=cG g.T D d C I);refine Wz ?_;exact ah.again (j+1,true,⟨x.At,x.Order,t⟩,fY z.ai x t,fb z x t) ⟨Z,Z,Z,Z,Z,Z,Z,congrArg (λz=>some (Iv z)) dD,trivial⟩ (by simp<;>omega) ⟨E,D,d,C,L,zM,I,by simp only;omega,.inr (by obtain⟨k',st,zW,e1,e2,e3,e4⟩:=zt;exact⟨k',st,zW,Z,e1,e2,e3,e4⟩)⟩
     refine Wz ?_
     have zH:∀m,m<15->iD z.ai o t m=false:=λm hm=>by
      by_cases e:m<5+2*j
      ·exact V m e
      exact DK (j:=j) Y Y
     exact ah.fW (K:=K) (by rw[hK];exact⟨false,x,z.ai,z.Types,⟨Z,Z,Z,Z,Z,Z,Z,trivial⟩,E,D,d,C,a,G,I,.inl ⟨Z,zH⟩⟩)
    by_cases hp:o<=4-(j:Int)
    all_goals
     repeat'(first|refine Wz ?_|(refine CW.bo Z ?_))
     exact ah.fW (K:=K) (by rw[hK];exact⟨true,x,F,T,⟨Z,Z,Z,Z,Z,Z,Z,trivial⟩,E,D,d,C,a,G,I,.inr ⟨k,st,S,Z,zq,hP,hF,zy⟩⟩)
   subst hK;rintro L' H ⟨f,x,F,T,X,E,D,d,C,a,G,I,V⟩;refine ah.sub X ?_;rcases V with⟨rfl,V⟩|⟨k,st,S,rfl,rfl,hP,rfl,zy⟩
   ·repeat'(first|refine Wz ?_|(refine CW.bQ Z ?_))
    refine Wh d (ck .zero) λw5 g zc=>?_;have E:=jc g E;refine Wz ?_;exact ah.cb Z Z Z Z zc Z ⟨_,Z,E,_,.room hq ho ze (.JR V),kf.zero 6 _ _⟩
   obtain⟨_,z4,yi⟩:=hP.ord;obtain⟨l1,l2,l3⟩:=qe hz (b:=z.ai[k]) ze st;have zN:k<(fJ z z.ai[k] t st).length:=Y;have zA:(fJ z z.ai[k] t st)[k]=⟨z.ai[k].At,z.ai[k].Order,mS z t st z.ai[k]⟩:=ri hz ze st S;obtain⟨⟨f1,f2,f3,f4,f5⟩,f6⟩:=hz.dm k S;have zw:gq z o t (o9 z o t z.ai[k] k st,z.ai[k].At,0):= .ok hq ho ze S hP;have hJ:=uf l2 l3 zN;have zB:(fJ z z.ai[k] t st).eraseIdx k=bJ (fJ z z.ai[k] t st) z.ai[k].At z.ai[k].Order:=rM l2 l3 zN (by rw[zA]) (by rw[zA]);rw[zA]at hJ;have z5:iu (mS z t st z.ai[k]):=by unfold mS;split<;>assumption
   obtain⟨ty,zO⟩:=bq (mS z t st z.ai[k])
   have z6:o9 z o t z.ai[k] k st=⟨z.aE,z.To,jO ty z.ai[k].At (z.ai[k].Order-o).toNat z.ai[k].Order ((fJ z z.ai[k] t st).eraseIdx k),T⟩:=by
    rw[zy,<-zO];rfl
   rw[z6]at zw;rw[zO]at a z5;obtain⟨F,hF⟩:=bq (fJ z z.ai[k] t st);simp only[hF]at G l1 zN hJ zw zB;obtain⟨x,hx⟩:=bq (z.ai[k]);simp only[hx]at hJ zw f1 f2 f3 f4 f5 z4 yi zB a;repeat'(first|refine Wz ?_|(refine CW.bo Z ?_))
   refine Wk (pY s.ai.A s.ai.n s.ai.c F x.At x.Order _ G.sl Y) λv w5 O hv=>?_;obtain⟨B,c',rfl,hW⟩:=hv;rw[<-zB]at hW;rw[<-zB];have hW:=hW.low E.size;obtain⟨E,D,d,C,a,I⟩:=fi O E D d C a I;refine Wz ?_;refine Wb (i:=2) C λw7 za P=>?_;have hG:=C.gr P;have E:=E.own zS P;have d:=d.grown P (by simpa using zn);obtain⟨a,hW,I⟩:=aY hG a hW I;have C:ay w7 b9 98 [Iv s.aE,Iv s.To,.slice B (F.eraseIdx k).length c',.slice s.Types.A s.Types.n s.Types.c]:=za;have a:ay w7 N 129 [Iv x.At,Iv x.Order,Iv ty]:=a;have yz:(F.eraseIdx k).length<=F.length:=Qd F k;refine Wz ?_;obtain⟨zk,zE⟩:=bq (jO ty x.At (x.Order-o).toNat x.Order (F.eraseIdx k));rw[zE]at zw
   refine CW.loop (λu:Int×List Block×Option Addr×Nat=>[(1,Iv o),(6,Pt b6),(9,Pt b9),(10,Pt N),(20,Iv (u.1-1))])
    (λu H=>Ext w H∧ay H b9 98 [Iv s.aE,Iv s.To,.slice u.2.2.1 u.2.1.length u.2.2.2,.slice s.Types.A s.Types.n s.Types.c]∧ay H b6 98 (bu .zero)∧ay H N 129 [Iv x.At,Iv x.Order,Iv ty]∧
      Own H w.heap.size 129 3 aL u.2.2.1 u.2.1.length u.2.2.2 u.2.1∧Own H w.heap.size 3 1 aT s.Types.A s.Types.n s.Types.c T∧AO z.aE z.To u.2.1 x.At u.1∧o<=u.1∧jO ty x.At (u.1-o).toNat u.1 u.2.1=zk∧(u.2.1.length:Int)+u.1<=300) (λu=>(u.1-o).toNat) (x.Order,F.eraseIdx k,B,c')
    ⟨Z,Z,Z,Z,Z,trivial⟩ ⟨E,C,d,a,hW,I,hJ,z4,zE,by simp only;omega⟩ ?_
   rintro⟨q,l,A,c⟩ H ⟨E,C,d,a,G,I,hJ,yj,zj,zD⟩;simp only at C G hJ yj zj zD⊢;have yA:=hJ.fit.2.1;by_cases yB:o<q
   ·obtain⟨k1,k2,k3,k4,k5⟩:=hJ.fit;obtain⟨yk,z7⟩:=wJ hJ o1 o3 o5 Y z5;rw[show(q-o).toNat=(q-1-o).toNat+1 by omega,jO]at zj;have yC:=bP (o:=q-1) Y Y;have yl:=JP z7;have cP:∀H,aS prog 123 [Iv (q-1)] H λv _=>v=Iv (pw (q-1)):=λH=>dk _ Y H;have z8:=Bn ty x.At q l;refine Wz ?_;refine CW.any 12 mixed (cy bm) Z λw1 J W=>?_;obtain⟨E,d,C,a,G,I⟩:=fi J E d C a G I;refine Wa ?_;refine SA.bD 5 ?_;refine Wc (cP _) λw4 O=>?_;obtain⟨E,d,C,a,G,I⟩:=fi O E d C a G I;refine SW.nil (ah.sa O ?_);refine Wa ?_;refine SA.bD 11 ?_;refine Wk (nT A l.length c l ⟨x.At+pw (q-1),q-1,ty⟩ _ G.sl Y) λv w4 O hv=>?_;obtain⟨B2,c2,rfl,zd⟩:=hv;have zd:=zd.low E.size;obtain⟨E,d,C,a,I⟩:=dz O E d C a I;refine SW.nil (ah.sa O ?_);refine SA.fH ?_;rw[yl]at zd;have zd:Own _ w.heap.size 129 3 aL B2 (l.length+1) c2 (pH ty x.At q l):=zd;rw[<-z8]at zd;rw[<-z8];refine Wz ?_;refine We (i:=2) C λw8 g za=>?_;obtain⟨E,d,a,zd,I⟩:=dz g E d a zd I;refine Wz ?_;exact ah.again (q-1,pH ty x.At q l,B2,c2) ⟨Z,Z,Z,Z,Z,trivial⟩ dD ⟨E,za,d,a,zd,I,yk,by simp only;omega,zj,by simp only;omega⟩
   obtain rfl:o=q:=Y
   have zx:l=zk:=by
    rw[<-zj,show(o-o).toNat=0 by omega];rfl
   rw[zx]at G;rw[zx]at C;refine Wz ?_;refine CW.iF 3 5 (λw2=>ay w2 N 129 [Iv x.At,Iv x.Order,Iv ty]) mixed bm λw1 J W=>?_;obtain⟨E,d,C,a,G,I⟩:=fi J E d C a G I;refine Wf ?_;refine Wi 1 [] W Z (aI Z) (λw2 hS=>aI Z) ?_;refine SF.nz 2 [] W Z bm bm bm (aJ Z (a.cell (i:=0) (v:=Iv x.At) Z)) (λw2 hS=>aJ Z (hS.cell (i:=0) (v:=Iv x.At) Z)) Z ?_;refine SF.eW ?_;refine Wg d (ck ⟨s.aE,s.To,⟨A,zk.length,c⟩,s.Types⟩) λw5 zc P=>?_;have hG:=d.gr P;have hS:=a.aQ hG Z;have E:=E.own zQ P;obtain⟨G,I⟩:=bk hG G I;refine SW.nil (ah.sg hS ?_);refine SG.bD 4 ?_;repeat(refine SW.pure Z Z ?_)
   refine SW.nil (ah.sg hS ?_);refine SG.dQ ?_;refine Wz ?_;exact ah.cb Z Z Z Z zc Z ⟨_,Z,E,_,zw,⟨s.aE,s.To,⟨A,zk.length,c⟩,s.Types⟩,Z,⟨sF,sT,G,I⟩⟩
  have zl:=ze;unfold iu at zl;repeat'(first|refine Wz ?_|(refine CW.bo Z ?_)|((first|refine Wk (c1 _ E) ?_|refine Wk (bE _ _ _ _) ?_);intro v w1 J hv;subst hv;obtain⟨E,D,d⟩:=aY J E D d))
  all_goals try omega
  refine Wh d (ck .zero) λw5 g zc=>?_;have E:=jc g E;refine Wz ?_;exact ah.cb Z Z Z Z zc Z ⟨_,Z,E,_,.kind hq ho ze,kf.zero 2 _ _⟩
 repeat'(first|refine Wz ?_|(refine CW.bo Z ?_)|((first|refine Wk (c1 _ E) ?_|refine Wk (bE _ _ _ _) ?_);intro v w1 J hv;subst hv;obtain⟨E,D,d⟩:=aY J E D d))
 all_goals try omega
 refine Wh d (ck .zero) λw5 g zc=>?_;have E:=jc g E;refine Wz ?_;exact ah.cb Z Z Z Z zc Z ⟨_,Z,E,_,.range hq ho,kf.zero 1 _ _⟩
variable {held:Bool} {cs:List Value} {fuel:Nat} {spare:Nat->Bool} {W:World}
theorem CG:prog.globalNamed "paddock/buddy.others" =some 1:=by kernel_rfl
theorem DL:(prog.globals[1]?).map (·.type)=some 243:=by kernel_rfl
set_option maxRecDepth 100000 in
theorem CH{p:List MemPlace}{enc:TypeId×Value->Unit}{g:Nat}(h:DataW.trod enc prog W g spare held fuel 243 cs=some (Rows.laid_paddock_buddy_others,p)):
 cs=[.int .i64 2,.int .i64 1,.int .i64 2,.int .i64 0,.int .i64 0,.int .i64 1]:=by
 have c2:prog.cellsOf 242=2:=by kernel_rfl
 have y:prog.cellsOf 243=6:=by kernel_rfl
 have z:prog.cellsOf 3=1:=by kernel_rfl
 obtain⟨xs,m,rfl,o,n,A,j⟩:=DataW.trod_array Tryz.underlying243 h;rw[y]at n;rw[c2]at j;simp only[Prod.mk.injEq]at o
 have i:∀(a b:Value)(u v:Int)(x:DataW Unit×List MemPlace),DataW.trod enc prog W g spare held m 242 [a,b]=some x->x.1= .agg [.lit (.int .i64 u),.lit (.int .i64 v)]->a= .int .i64 u∧b= .int .i64 v:=by
  intro a b u v x o e;obtain⟨B,k,rfl,rfl,_,C,q⟩:=DataW.trod_array Tryz.underlying242 o;rw[z]at q
  match B,C with
  | [y0,y1],_=>
    have r:=q 0 ir;have s:=q 1 ir;obtain⟨G,t,D,_⟩:=DataW.trod_int Tryz.underlying3 (show DataW.trod enc prog W g spare held k 3 [a]=some y0 from r);obtain⟨H,w,E,_⟩:=DataW.trod_int Tryz.underlying3 (show DataW.trod enc prog W g spare held k 3 [b]=some y1 from s);rw[D,E]at e;simp at e t w;rw[t,w,e.1,e.2];exact⟨Z,Z⟩
 match cs,n,xs,A with
 | [a,b,c,d,e,f],_,[x0,x1,x2],_=>
   have r:=j 0 ir;have s:=j 1 ir;have F:=j 2 ir;have l:=o.1;simp only[Rows.laid_paddock_buddy_others,List.map_cons,List.map_nil,DataW.agg.injEq,List.cons.injEq,and_true]at l;obtain⟨rfl,rfl⟩:=i a b 2 1 x0 r l.1.symm;obtain⟨rfl,rfl⟩:=i c d 2 0 x1 s l.2.1.symm;obtain⟨rfl,rfl⟩:=i e f 0 1 x2 F l.2.2.symm
   rfl
end Go.Proofs.YtdlfabkacdgneaaGreatDoor
