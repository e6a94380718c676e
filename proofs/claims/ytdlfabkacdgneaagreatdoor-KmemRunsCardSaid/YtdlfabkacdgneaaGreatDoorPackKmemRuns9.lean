/- Part 9 of what kmemRuns_holds leans on. -/
import Derived.Test.YtdlfabkacdgneaaGreatDoorPackKmemRuns8
import Derived.Test.YtdlfabkacdgneaaGreatDoorPackKmemRuns7
set_option maxHeartbeats 16000000
set_option linter.unusedVariables false
set_option linter.unusedSimpArgs false
set_option linter.defProp false
open Go.Proofs.Tryz
namespace Go.Proofs.YtdlfabkacdgneaaGreatDoor
open Go.RowKit
theorem oC(r:cc)(s:aj)(w:World)(hr:mB w r s)(hf:s.bU):
 aS prog 99 [.agg (ar r).toArray] w λv _=>v= .bool (ef s):=by
 refine Wj func99 ntmps99 ?_;refine Ww λS F f zF a=>?_;obtain⟨cs,hc⟩:=hr.aV;obtain⟨z1,z2⟩:=hc.len;have wl:=hr.words.len;have hs:=hf.small;have m3:=hs.aV;obtain⟨q,hq⟩:=bq (gd s.Heap)
 have K:∀y,Ext w y->aS prog 103 [.agg (bg r.Heap).toArray] y λv _=>v= .bool q:=λy J=>by
  have:=tx r.Heap s.Heap y (hr.heap.ext J) hs.heap hf.bA;rwa[hq]at this
 by_cases L:s.Words.length=4096∧q=true∧s.ab.length<=20
 ·obtain⟨g1,g2,g3⟩:=L;subst g2;have hH:=ch.1 hq;repeat'(first|refine Wz ?_|refine SW.want Z Z ?_|refine Wm ((e7 a)) ?_|(refine Wc (K _ f) λF d=>?_;obtain⟨f,a⟩:=bk d f a))
  all_goals try omega
  refine CW.loop (λu:Nat×Option Addr×Nat×Option Addr×Nat=>[(1,Pt S),(3,.slice u.2.1 (aR (s.ab.take u.1)).length u.2.2.1),(4,.slice u.2.2.2.1 (aG (s.ab.take u.1)).length u.2.2.2.2),(5,Iv (u.1:Int))])
   (λu y=>u.1<=r.ab.n∧Ext w y∧ay y S 37 (ar r)∧Own y w.heap.size 9 1 encStr u.2.1 (aR (s.ab.take u.1)).length u.2.2.1 (aR (s.ab.take u.1))∧Own y w.heap.size 3 1 aT u.2.2.2.1 (aG (s.ab.take u.1)).length u.2.2.2.2 (aG (s.ab.take u.1))∧
     ∀(i:Nat)(h:i<s.ab.length),i<u.1->pk s i h) (λu=>r.ab.n-u.1) (0,none,0,none,0)
   ⟨Z,by simp[aR];rfl,by simp[aG];rfl,Z,trivial⟩ ⟨by simp only;omega,f,a,Own.cq _ _ _ _ _ _,Own.cq _ _ _ _ _ _,λi h h'=>by simp only at h';omega⟩ ?_
  rintro⟨k,U,K,V,c2⟩ y ⟨hk,f,a,o,p,hI⟩;simp only at hk o p hI⊢;have hA:=hc.row.base;by_cases zw:k<r.ab.n
  ·have zx:k<cs.length:=Y;have G:k<s.ab.length:=Y;have D:=hc.each.get k zx G;have sm:=hs.each _ (Pf G);have fN:=hf.names _ (Pf G);have q1:=D.names.len;have q2:=D.av.len;have q4:=sm.names;have q5:=sm.av;obtain⟨⟨zm,zn⟩,zo,zp⟩:=xC hH k Y hI;repeat'(first|refine Wz ?_|refine Wo f ((hc.row.all zw)) ?_)
   refine Wr (ox _) λb6 w2 zq zr c=>?_;have zG:=f.up zr;obtain⟨f,a,o,p⟩:=cG zq f a o p;obtain⟨qc,zd⟩:=bq (lh s s.ab[k])
   have cC:∀y,Ext w y->aS prog 182 [.agg (ar r).toArray,.agg (cr cs[k]).toArray] y λv _=>v= .bool qc:=λy J=>by
    have:=CY r s cs[k] s.ab[k] y (hr.ext J) (D.ext J) hs sm hH;rwa[zd]at this
   cases qc
   ·have hF:ef s=false:=mW λM=>by
     have:=qt (M.each k G).may;rw[zd]at this;cases this
    rw[hF];repeat'(first|refine Wz ?_|(refine CW.bQ Z ?_)|(refine Wc (cC _ f) λF d=>?_;obtain⟨f,a,c,o,p⟩:=dz d f a c o p))
    exact ah.aF Z Z ⟨_,Z,f,Z⟩
   have zs:=xt.1 zd;repeat'(first|refine Wz ?_|(refine CW.bo Z ?_)|(refine Wc (cC _ f) λF d=>?_;obtain⟨f,a,c,o,p⟩:=dz d f a c o p))
   obtain⟨A,O⟩:=bq (aR (s.ab.take k));rw[O]at o zm zn⊢;obtain⟨z,P⟩:=bq (aG (s.ab.take k));rw[P]at p zo zp⊢
   refine CW.loop (λj:Nat=>[(1,Pt S),(3,.slice U A.length K),(4,.slice V z.length c2),(5,Iv (k:Int)),(6,Pt b6),(7,Iv (j:Int))])
    (λj y=>j<=k∧Ext w y∧ay y S 37 (ar r)∧ay y b6 58 (cr cs[k])∧Own y w.heap.size 9 1 encStr U A.length K A∧Own y w.heap.size 3 1 aT V z.length c2 z∧∀(i:Nat)(h:i<k),i<j->(s.ab[i]'Y).ax≠s.ab[k].ax) (λj=>k-j) 0
    ⟨Z,Z,Z,Z,Z,Z,trivial⟩ ⟨by omega,f,a,c,o,p,λi h h'=>by omega⟩ ?_
   rintro j y ⟨hj,f,a,c,o,p,hZ⟩;by_cases zy:j<k
   ·have gZ:=hc.row.dp (show j<r.ab.n by omega) (j:=1) (u:=Iv (cs[j]'Y).ax) Z;have e1:=(hc.each.get j Y Y).size;have e2:=D.size;by_cases J:(s.ab[j]'Y).ax=s.ab[k].ax
    ·rw[mW λM=>(M.each k G).size j zy J];repeat'(first|refine Wz ?_|refine fq ?_|refine Wn f gZ ?_|(refine SW.br λF d=>?_;obtain⟨f,a,c,o,p⟩:=dz d f a c o p))
     all_goals try omega
     exact ah.aF Z Z ⟨_,Z,f,Z⟩
    repeat'(first|refine Wz ?_|refine fq ?_|refine Wn f gZ ?_|(refine SW.br λF d=>?_;obtain⟨f,a,c,o,p⟩:=dz d f a c o p))
    all_goals try omega
    exact ah.again (j+1) ⟨Z,Z,Z,Z,Z,Z,trivial⟩ Y ⟨by omega,f,a,c,o,p,λi h h'=>by
     by_cases ei:i=j
     ·subst ei;exact J
     exact hZ i h Y⟩
   have zz:∀(i:Nat)(h:i<k),(s.ab[i]'Y).ax≠s.ab[k].ax:=λi h=>hZ i h Y;refine Wz ?_
   refine CW.loop (λu:Nat×Option Addr×Nat=>[(1,Pt S),(3,.slice u.2.1 (A++s.ab[k].Names.take u.1).length u.2.2),(4,.slice V z.length c2),(5,Iv (k:Int)),(6,Pt b6),(8,Iv (u.1:Int))])
    (λu y=>u.1<=cs[k].Names.n∧Ext w y∧ay y S 37 (ar r)∧ay y b6 58 (cr cs[k])∧Own y w.heap.size 9 1 encStr u.2.1 (A++s.ab[k].Names.take u.1).length u.2.2 (A++s.ab[k].Names.take u.1)∧Own y w.heap.size 3 1 aT V z.length c2 z∧
      ∀(i:Nat)(h:i<s.ab[k].Names.length),i<u.1->dW s.ab[k].Names[i]=true∧s.ab[k].Names[i]∉A++s.ab[k].Names.take i∧(0<i->cu (s.ab[k].Names[i-1]'Y) s.ab[k].Names[i]=true)) (λu=>cs[k].Names.n-u.1) (0,U,K)
    ⟨Z,by simp;rfl,Z,Z,Z,Z,trivial⟩ ⟨by simp only;omega,f,a,c,by simpa using o,p,λi h h'=>by simp only at h';omega⟩ ?_
   rintro⟨j,U,K⟩ y ⟨hj,f,a,c,o,p,W⟩;simp only at hj o W⊢;have zA:=D.names.base;by_cases ze:j<cs[k].Names.n
   ·have R:j<s.ab[k].Names.length:=Y;obtain⟨E,X⟩:=bq (s.ab[k].Names[j]);have gN:=D.names.one ze (u:= .string E) (by rw[<-X];rfl);have zB:E.size<=140737488351232:=by rw[<-X];exact fN _ (Pf R)
    obtain⟨qn,zf⟩:=bq (dW E)
    have zg:∀y,aS prog 100 [.string E] y λv _=>v= .bool qn:=λy=>by
     have:=u7 E y zB;rwa[zf]at this
    have Q:=vd (ll (l:=s.ab[k].Names) zm j (λi h h'=>(W i h h').2.1)) (λn hn=>by
     rcases Px.1 hn with hn|hn
     ·exact zn n hn
     obtain⟨i,hi,rfl⟩:=PG.1 hn;exact(W i Y Y).1)
    have B:A++s.ab[k].Names.take (j+1)=(A++s.ab[k].Names.take j)++[E]:=by rw[Pk R,X];simp
    have H:(qn=false∨E∈A++s.ab[k].Names.take j∨∃N:0<j,cu (s.ab[k].Names[j-1]'Y) E=false)->ef s=false:=λh=>mW λM=>by
     have T:=(M.each k G).names.each j R;rw[X,O]at T;rcases h with h|h|⟨N,h⟩
     ·rw[zf,h]at T;exact absurd T.1 fy
     ·exact T.2.1 h
     rw[T.2.2 N]at h;cases h
    have go:dW E=true->(0<j->cu (s.ab[k].Names[j-1]'Y) E=true)->E∉A++s.ab[k].Names.take j->∀(i:Nat)(h:i<s.ab[k].Names.length),i<j+1->dW s.ab[k].Names[i]=true∧s.ab[k].Names[i]∉A++s.ab[k].Names.take i∧(0<i->cu (s.ab[k].Names[i-1]'Y) s.ab[k].Names[i]=true):=λT h2 h3 i h h'=>by
     by_cases ei:i=j
     ·subst ei;rw[X];exact⟨T,h3,h2⟩
     exact W i h Y
    obtain⟨C,zh⟩:=bq (A++s.ab[k].Names.take j);rw[zh]at o Q B H go⊢;cases qn
    ·rw[H (.inl Z)];repeat'(first|refine Wz ?_|refine fq ?_|refine SW.skip Z Z Z Z ?_|refine Wn f gN ?_|refine SW.ba Z Z (λF d=>(zg _)) ?_|(refine SW.br λF d=>?_;obtain⟨f,a,c,o,p⟩:=dz d f a c o p))
     exact ah.aF Z Z ⟨_,Z,f,Z⟩
    by_cases I:0<j->cu (s.ab[k].Names[j-1]'Y) E=true
    ·rcases Ps j with N|N
     all_goals
      first
      | (have gP:=D.names.one (show j-1<cs[k].Names.n by omega) (u:= .string (s.ab[k].Names[j-1]'Y)) Z
         have zi:(!cu (s.ab[k].Names[j-1]'Y) E)=false:=by rw[I N];rfl)
      | skip
     all_goals
      refine Wz ?_;(apply CW.dF mixed;(·kernel_rfl);rotate_left;intro F d;obtain⟨f,a,c,o,p⟩:=dz d f a c o p;rotate_right);repeat'(first|refine Wz ?_|refine SW.want Z Z ?_|refine SW.st (aU (j-1) Z Z ig Y Y) Z ?_|refine Wn f gN ?_|refine Wn f gP ?_|refine SW.ba Z Z (λF d=>(zg _)) ?_|(refine SW.st ((DN Z Z).eq (congrArg Value.bool zi)) Z ?_)|exact SW.br Z)
      all_goals try omega
      refine CW.loop (λi:Nat=>[(1,Pt S),(3,.slice U C.length K),(4,.slice V z.length c2),(5,Iv (k:Int)),(6,Pt b6),(8,Iv (j:Int)),(9,Iv (i:Int))])
       (λi y=>i<=C.length∧Ext w y∧ay y S 37 (ar r)∧ay y b6 58 (cr cs[k])∧Own y w.heap.size 9 1 encStr U C.length K C∧Own y w.heap.size 3 1 aT V z.length c2 z∧∀(m:Nat)(h:m<C.length),m<i->C[m]≠E) (λi=>C.length-i) 0
       ⟨Z,Z,Z,Z,Z,Z,Z,trivial⟩ ⟨by omega,f,a,c,o,p,λm h h'=>by omega⟩ ?_
      rintro i y ⟨hi,f,a,c,o,p,hM⟩;have zC:=o.sl.base;by_cases za:i<C.length
      ·have gM:=o.sl.one za (u:= .string C[i]) Z;by_cases J:C[i]=E
       ·have zj:=decide_eq_true J;rw[H (.inr (.inl (J▸Pf za)))];repeat'(first|refine Wz ?_|refine fq ?_|refine Wn f gN ?_|refine Wl gM ?_|(refine SW.st ((jt Z Z).eq (congrArg Value.bool zj)) Z ?_)|(refine SW.br λF d=>?_;obtain⟨f,a,c,o,p⟩:=dz d f a c o p))
        exact ah.aF Z Z ⟨_,Z,f,Z⟩
       have zj:=decide_eq_false J;repeat'(first|refine Wz ?_|refine fq ?_|refine Wn f gN ?_|refine Wl gM ?_|(refine SW.st ((jt Z Z).eq (congrArg Value.bool zj)) Z ?_)|(refine SW.br λF d=>?_;obtain⟨f,a,c,o,p⟩:=dz d f a c o p))
       exact ah.again (i+1) ⟨Z,Z,Z,Z,Z,Z,Z,trivial⟩ Y ⟨by omega,f,a,c,o,p,λm h h'=>by
        by_cases em:m=i
        ·subst em;exact J
        exact hM m h Y⟩
      have zb:E∉C:=λM=>by
       obtain⟨m,zk,zl⟩:=Pg M;exact hM m zk Y zl
      repeat'(first|refine Wz ?_|refine Wn f gN ?_)
      refine SW.bz Z Z Z Z Z λb F d hb hB=>?_;obtain⟨f,a,c,o,p⟩:=dz d f a c o p;refine SW.append o (ay.la (enc:=encStr) hB) f.size Z Z Z Y Y λA3 c3 w2 zD hg=>?_;have f:=au f hg (Ph _) o.az;have a:=a.grown hg (λe=>o.cB a Z e.symm);have c:=c.grown hg (λe=>o.cB c Z e.symm);have p:=p.grown hg (p.CL o Z);refine Wz ?_;exact ah.again (j+1,A3,c3) ⟨Z,by simp only[B,List.length_append];rfl,Z,Z,Z,Z,trivial⟩ dD ⟨by simp only;omega,f,a,c,by simp only[B,List.length_append];exact zD,p,go zf I zb⟩
    have N:0<j:=by
     rcases Ps j with h|h
     ·exact absurd (λh'=>by omega) I
     exact h
    have zt:cu (s.ab[k].Names[j-1]'Y) E=false:=by
     cases e:cu (s.ab[k].Names[j-1]'Y) E
     ·rfl
     exact absurd (λ_=>e) I
    have gP:=D.names.one (show j-1<cs[k].Names.n by omega) (u:= .string (s.ab[k].Names[j-1]'Y)) Z;have zi:(!cu (s.ab[k].Names[j-1]'Y) E)=true:=by rw[zt];rfl
    rw[H (.inr (.inr ⟨N,zt⟩))];repeat'(first|refine Wz ?_|refine fq ?_|refine SW.want Z Z ?_|refine SW.st (aU (j-1) Z Z ig Y Y) Z ?_|refine Wn f gN ?_|refine Wn f gP ?_|refine SW.ba Z Z (λF d=>(zg _)) ?_|(refine SW.st ((DN Z Z).eq (congrArg Value.bool zi)) Z ?_)|(refine SW.br λF d=>?_;obtain⟨f,a,c,o,p⟩:=dz d f a c o p))
    all_goals try omega
    exact ah.aF Z Z ⟨_,Z,f,Z⟩
   have zu:pj (aR (s.ab.take k)) s.ab[k].Names:=⟨λi h=>by rw[O];exact W i h Y⟩;rw[Pl (show s.ab[k].Names.length<=j by omega)]at o⊢;rw[<-O,<-lW s.ab k G]at o⊢;refine Wz ?_;obtain⟨nl,zv⟩:=bq (aR (s.ab.take (k+1)));rw[zv]at o⊢
   refine CW.loop (λu:Nat×Option Addr×Nat=>[(1,Pt S),(3,.slice U nl.length K),(4,.slice u.2.1 (z++(s.ab[k].ae.take u.1).map λx=>x.At).length u.2.2),(5,Iv (k:Int)),(6,Pt b6),(10,Iv (u.1:Int))])
    (λu y=>u.1<=cs[k].ae.n∧Ext w y∧ay y S 37 (ar r)∧ay y b6 58 (cr cs[k])∧Own y w.heap.size 9 1 encStr U nl.length K nl∧Own y w.heap.size 3 1 aT u.2.1 (z++(s.ab[k].ae.take u.1).map λx=>x.At).length u.2.2 (z++(s.ab[k].ae.take u.1).map λx=>x.At)∧
      ∀(i:Nat)(h:i<s.ab[k].ae.length),i<u.1->s.ab[k].ae[i].At∉z++(s.ab[k].ae.take i).map λx=>x.At) (λu=>cs[k].ae.n-u.1) (0,V,c2)
    ⟨Z,Z,by simp;rfl,Z,Z,Z,trivial⟩ ⟨by simp only;omega,f,a,c,o,by simpa using p,λi h h'=>by simp only at h';omega⟩ ?_
   rintro⟨j,V,c2⟩ y ⟨hj,f,a,c,o,p,W⟩;simp only at hj p W⊢;have zA:=D.av.base;by_cases ze:j<cs[k].ae.n
   ·have R:j<s.ab[k].ae.length:=Y;obtain⟨t,ht⟩:=bq (s.ab[k].ae[j].At);have gT:=D.av.dp ze (j:=0) (u:=Iv t) (by rw[<-ht];rfl)
    have Q:=Ie (ll (l:=s.ab[k].ae.map λx=>x.At) zo j (λi h h'=>by
     have:=W i (by simpa using h) h';simpa[List.map_take]using this)) (λn hn=>by
     rcases Px.1 hn with hn|hn
     ·exact zp n hn
     obtain⟨x,J,rfl⟩:=Pw.1 (P5 hn);exact zs.mX hH x J)
    rw[<-List.map_take]at Q
    have B:(z++(s.ab[k].ae.take (j+1)).map λx=>x.At)=(z++(s.ab[k].ae.take j).map λx=>x.At)++[t]:=by
     rw[Pk R,<-ht,PO,Po]
     rfl
    have zc:t∈(z++(s.ab[k].ae.take j).map λx=>x.At)->ef s=false:=λh=>mW λM=>by
     have T:=(M.each k G).av j R;rw[ht,P]at T;exact T h
    have go:t∉(z++(s.ab[k].ae.take j).map λx=>x.At)->∀(i:Nat)(h:i<s.ab[k].ae.length),i<j+1->s.ab[k].ae[i].At∉z++(s.ab[k].ae.take i).map λx=>x.At:=λT i h h'=>by
     by_cases ei:i=j
     ·subst ei;rw[ht];exact T
     exact W i h Y
    obtain⟨C,zh⟩:=bq ((z++(s.ab[k].ae.take j).map λx=>x.At));rw[zh]at p Q B zc go⊢;refine Wz ?_
    refine CW.loop (λi:Nat=>[(1,Pt S),(3,.slice U nl.length K),(4,.slice V C.length c2),(5,Iv (k:Int)),(6,Pt b6),(10,Iv (j:Int)),(11,Iv (i:Int))])
     (λi y=>i<=C.length∧Ext w y∧ay y S 37 (ar r)∧ay y b6 58 (cr cs[k])∧Own y w.heap.size 9 1 encStr U nl.length K nl∧Own y w.heap.size 3 1 aT V C.length c2 C∧∀(m:Nat)(h:m<C.length),m<i->C[m]≠t) (λi=>C.length-i) 0
     ⟨Z,Z,Z,Z,Z,Z,Z,trivial⟩ ⟨by omega,f,a,c,o,p,λm h h'=>by omega⟩ ?_
    rintro i y ⟨hi,f,a,c,o,p,hM⟩;have zC:=p.sl.base;by_cases za:i<C.length
    ·have gM:=p.sl.one za (u:=Iv C[i]) Z;by_cases J:C[i]=t
     ·rw[zc (J▸Pf za)];repeat'(first|refine Wz ?_|refine fq ?_|refine Wn f gT ?_|refine Wl gM ?_|(refine SW.br λF d=>?_;obtain⟨f,a,c,o,p⟩:=dz d f a c o p))
      all_goals try omega
      exact ah.aF Z Z ⟨_,Z,f,Z⟩
     repeat'(first|refine Wz ?_|refine fq ?_|refine Wn f gT ?_|refine Wl gM ?_|(refine SW.br λF d=>?_;obtain⟨f,a,c,o,p⟩:=dz d f a c o p))
     all_goals try omega
     exact ah.again (i+1) ⟨Z,Z,Z,Z,Z,Z,Z,trivial⟩ Y ⟨by omega,f,a,c,o,p,λm h h'=>by
      by_cases em:m=i
      ·subst em;exact J
      exact hM m h Y⟩
    have zb:t∉C:=λM=>by
     obtain⟨m,zk,zl⟩:=Pg M;exact hM m zk Y zl
    repeat'(first|refine Wz ?_|refine Wn f gT ?_)
    refine SW.bz Z Z Z Z Z λb F d hb hB=>?_;obtain⟨f,a,c,o,p⟩:=dz d f a c o p;refine SW.append p (ay.la (enc:=aT) hB) f.size Z Z Z Y Y λA3 c3 w2 zE hg=>?_;have f:=au f hg (Ph _) p.az;have a:=a.grown hg (λe=>p.cB a Z e.symm);have c:=c.grown hg (λe=>p.cB c Z e.symm);have o:=o.grown hg (o.CL p Z);refine Wz ?_;exact ah.again (j+1,A3,c3) ⟨Z,Z,by simp only[B,List.length_append];rfl,Z,Z,Z,trivial⟩ dD ⟨by simp only;omega,f,a,c,o,by simp only[B,List.length_append];exact zE,go zb⟩
   rw[Pl (show s.ab[k].ae.length<=j by omega),<-P,<-lX s.ab k G]at p⊢;rw[<-zv]at o⊢;refine Wz ?_
   exact ah.again (k+1,U,K,V,c2) ⟨Z,Z,Z,Z,trivial⟩ dD ⟨by simp only;omega,f,a,o,p,λi h h'=>by
    simp only at h';by_cases ei:i=k
    ·subst ei;exact⟨zs,zz,zu,λi h=>by rw[P];exact W i h Y⟩
    exact hI i h Y⟩
  rw[lV ⟨g1,hH,g3,λi h=>hI i h Y⟩];refine Wz ?_;exact ah.aF Z Z ⟨_,Z,f,Z⟩
 have hF:ef s=false:=mW λM=>L ⟨M.words,by rw[<-hq];exact sY M.heap,M.most⟩;rw[hF];cases q;all_goals simp only[true_and,Bool.false_eq_true,false_and,and_false,not_false_eq_true]at L
 ·rcases(show s.Words.length≠4096∨s.Words.length=4096 by omega)with g|g
  all_goals
   repeat'(first|refine Wz ?_|refine SW.skip Z Z Z Z ?_|refine Wm ((e7 a)) ?_|(refine Wc (K _ f) λF d=>?_;obtain⟨f,a⟩:=bk d f a))
   all_goals try omega
   exact ah.aF Z Z ⟨_,Z,f,Z⟩
 rcases(show s.Words.length≠4096∨(s.Words.length=4096∧20<s.ab.length)by omega)with g|g
 all_goals
  repeat'(first|refine Wz ?_|refine SW.want Z Z ?_|refine Wm ((e7 a)) ?_|(refine Wc (K _ f) λF d=>?_;obtain⟨f,a⟩:=bk d f a))
  all_goals try omega
  exact ah.aF Z Z ⟨_,Z,f,Z⟩
variable {a per size:Int} {s:aj} {ws:List Int} {i i' k lo:Nat} {w:World}
def kB(s:aj)(a:Int)(i k:Nat):Bool:=if h:i<s.ab.length then(if h':k<s.ab[i].ae.length then fG s.ab[i].ax s.ab[i].bd (s.ab[i].ae[k]).At a else false)else false
theorem nc(h:i<s.ab.length)(h':k<s.ab[i].ae.length):kB s a i k=fG s.ab[i].ax s.ab[i].bd (s.ab[i].ae[k]).At a:=by grind[kB]
theorem BO(h:i<s.ab.length)(h':¬k<s.ab[i].ae.length):kB s a i k=false:=by grind[kB]
structure kh(s:aj)(a:Int)(i k:Nat):Prop where
 hi:i<s.ab.length
 hk:k<s.ab[i].ae.length
 obj:kB s a i k=true
 ahead:∀i' k',(i'<i∨(i'=i∧k'<k))->kB s a i' k'=false
inductive gx(s:aj)(a:Int):Int×Int×Int->Prop where
 | bad (h:ef s=false):gx s a (0,0,8)
 | none (h:ef s=true) (hn:∀i k,kB s a i k=false):gx s a (0,0,4)
 | free {i k:Nat} {out:List Int} (h:ef s=true) (hF:kh s a i k) (hC:bK s.Words (s.ab[i]'hF.hi).ax (s.ab[i]'hF.hi).bd ((s.ab[i]'hF.hi).ae[k]'hF.hk) out) (hm:a∈out):gx s a (0,0,4)
 | hit {i k:Nat} {out:List Int} (h:ef s=true) (hF:kh s a i k) (hC:bK s.Words (s.ab[i]'hF.hi).ax (s.ab[i]'hF.hi).bd ((s.ab[i]'hF.hi).ae[k]'hF.hk) out) (hm:a∉out):gx s a (i,k,0)
theorem kh.M0{b:Nat}(h:kh s a i k)(h':kh s a i' b):i=i'∧k=b:=by
 rcases(show i<i'∨(i=i'∧k<b)∨i'<i∨(i'=i∧b<k)∨(i=i'∧k=b)by omega)with g|g|g|g|g
 ·have:=h'.ahead i k (.inl g);rw[h.obj]at this;grind
 ·have:=h'.ahead i k (.inr g);rw[h.obj]at this;grind
 ·have:=h.ahead i' b (.inl g);rw[h'.obj]at this;grind
 ·have:=h.ahead i' b (.inr g);rw[h'.obj]at this;grind
 omega
theorem gx.c7{u v:Int×Int×Int}(h:gx s a u)(k:gx s a v):u=v:=by
 cases h with
 | bad h=>cases k<;>grind
 | none h i=>cases k with
   | bad h'=>grind
   | none=>rfl
   | free=>rfl
   | hit h' c=>exact absurd c.obj (by grind)
 | free h c e f=>cases k with
   | bad h'=>grind
   | none=>rfl
   | free=>rfl
   | hit h' b d g=>
     obtain⟨rfl,rfl⟩:=c.M0 b;rw[e.c7 d]at f;grind
 | hit h c e f=>cases k with
   | bad h'=>grind
   | none h' i=>exact absurd c.obj (by grind)
   | free h' b d g=>
     obtain⟨rfl,rfl⟩:=c.M0 b;rw[e.c7 d]at f;grind
   | hit h' b=>
     obtain⟨rfl,rfl⟩:=c.M0 b
     rfl
theorem lP.hit{x:Slab}{v:Value}{a:List Int}(h:lP lo ws size per x v w)(g:bK ws size per x a):
 ∃A c,v= .tuple #[.slice A a.length c,.bool true]∧Own w lo 3 1 aT A a.length c a∧a.length<=17592186044416:=by
 rcases h with⟨i,j,k,b,rfl,d,e⟩|⟨f,_⟩
 ·obtain rfl:=g.c7 b;exact⟨_,_,Z,d,e⟩
 exact absurd g (f a)
def qG(u:Int×Int×Int):Value:= .tuple #[Iv u.1,Iv u.2.1,Iv u.2.2]
theorem tB(r:cc)(s:aj)(a:Int)(w:World)(M:mB w r s)(hf:s.bU)(ha: -9223372036854775808<=a∧a<=9223372036854775807):
 aS prog 85 [.agg (ar r).toArray,Iv a] w λv _=>∃u,gx s a u∧v=qG u:=by
 refine Wj func85 ntmps85 ?_;refine Ww λN G c zi b=>?_;obtain⟨q,H⟩:=bq (ef s)
 have O:∀g,Ext w g->aS prog 61 [.agg (ar r).toArray] g λv _=>v=Iv (if q then 0 else 8):=λg B=>by
  have:=lj r s g (M.ext B) hf;rwa[H]at this
 cases q;all_goals simp only[if_true,Bool.false_eq_true,if_false]at O
 ·repeat'(first|refine Wz ?_|(refine Wc (O _ c) λG d=>?_;obtain⟨c,b⟩:=bk d c b))
  exact ah.sN Z Z Z Z ⟨_,Z,c,(0,0,8),.bad H,Z⟩
 have hM:=dg.1 H;have S:=hf.small;obtain⟨cs,P⟩:=M.aV;obtain⟨z1,z2⟩:=P.len;have wl:=M.words.len;have m1:=S.words;have m3:=S.aV;repeat'(first|refine Wz ?_|(refine Wc (O _ c) λG d=>?_;obtain⟨c,b⟩:=bk d c b))
 refine CW.loop (λk:Nat=>[(1,Iv a),(2,Pt N),(20,.slice r.ab.A r.ab.n r.ab.c),(21,Iv (r.ab.n:Int)),(22,Iv (k:Int))])
  (λk g=>k<=r.ab.n∧Ext w g∧ay g N 37 (ar r)∧∀p j,p<k->kB s a p j=false) (λk=>r.ab.n-k) 0
  ⟨Z,Z,Z,Z,Z,trivial⟩ ⟨by omega,c,b,λp j h=>by omega⟩ ?_
 rintro i g ⟨hk,c,b,T⟩;have hA:=P.row.base;by_cases U:i<r.ab.n
 ·have V:i<cs.length:=Y;have n:i<s.ab.length:=Y;have t:=P.each.get i V n;have sm:=S.each _ (Pf n);have F:=(hM.each i n).may;obtain⟨l1,l2,l3⟩:=bM F.lay;have eS:=t.size;have eP:=t.per;have n2:=t.av.len;have m2:=sm.av;have hS:1<=cs[i].ax∧cs[i].ax<=64:=Y;have hP:1<=cs[i].bd∧cs[i].bd<=64:=Y;repeat'(first|refine Wz ?_|refine Wo c ((P.row.all U)) ?_)
  refine SW.alloc Z λb9 G d D f=>?_;refine Wz ?_;refine Wg f (ox _) λw2 E I=>?_;have y:=d.own D I;have zj:=c.up D;obtain⟨c,b⟩:=bk y c b;have f:=E;refine Wz ?_
  refine CW.loop (λk:Nat=>[(1,Iv a),(2,Pt N),(8,Iv (i:Int)),(9,Pt b9),(20,.slice r.ab.A r.ab.n r.ab.c),(21,Iv (r.ab.n:Int)),(22,Iv (i:Int)),(28,.slice cs[i].ae.A cs[i].ae.n cs[i].ae.c),(29,Iv (cs[i].ae.n:Int)),(30,Iv (k:Int))])
   (λk g=>k<=cs[i].ae.n∧Ext w g∧ay g N 37 (ar r)∧ay g b9 58 (cr cs[i])∧∀j,j<k->kB s a i j=false) (λk=>cs[i].ae.n-k) 0
   ⟨Z,Z,Z,Z,Z,Z,Z,Z,Z,Z,trivial⟩ ⟨by omega,c,b,f,λj h=>by omega⟩ ?_
  rintro k g ⟨hk,c,b,f,W⟩;have zk:=t.av.base;by_cases X:k<cs[i].ae.n
  ·have C:k<s.ab[i].ae.length:=Y;obtain⟨x,B⟩:=bq (s.ab[i].ae[k]);have gS:=t.av.all X;rw[B]at gS;have ht:=(F.mX (hM.heap)) x (by rw[<-B];exact Pf C);obtain⟨l,J⟩:=(F.av k C).chain;rw[B]at J;have Q:=nc (a:=a) n C;rw[B,<-eS,<-eP]at Q;obtain⟨o,ho⟩:=bq (fG cs[i].ax cs[i].bd x.At a);rw[ho]at Q
   have cO:∀g,aS prog 170 [.agg (cr cs[i]).toArray,Iv x.At,Iv a] g λv _=>v= .bool o:=λg=>by
    have:=xu cs[i] x.At a g hS hP ht ha;rwa[ho]at this
   repeat'(first|refine Wz ?_|refine Wo c gS ?_)
   refine SW.alloc Z λzl G d z m=>?_;refine Wz ?_;refine Wg m (gG.one (enc:=bG) _) λw2 A I=>?_;have y:=d.own z I;have za:=c.up z;obtain⟨c,b,f⟩:=aY y c b f;have m:=A;cases o
   ·repeat'(first|refine Wz ?_|(refine CW.bQ Z ?_)|(refine Wc (cO _) λG d=>?_;obtain⟨c,b,f⟩:=aY d c b f))
    exact ah.again (k+1) ⟨Z,Z,Z,Z,Z,Z,Z,Z,Z,Z,trivial⟩ Y ⟨by omega,c,b,f,λj h=>by
     by_cases e:j=k
     ·subst e;exact Q
     exact W j Y⟩
   have K:kh s a i k:=⟨n,C,Q,λp j h=>by
    rcases h with h|⟨rfl,h⟩
    ·exact T p j h
    exact W j h⟩
   repeat'(first|refine Wz ?_|(refine CW.bo Z ?_)|(refine Wc (cO _) λG d=>?_;obtain⟨c,b,f,m⟩:=cG d c b f m))
   refine Wk (Bz r cs[i] x s.Words _ (M.words.ext c) Y hS hP ht) λv w5 zb L=>?_;rw[eS,eP]at L;rcases L with⟨zm,A5,c5,zc,rfl,zd,zn⟩|⟨ze,rfl⟩
   ·have c:=c.trans zb;obtain rfl:=J.c7 zc;have cN:∀g,Ext w5 g->aS prog 172 [.slice A5 l.length c5,Iv a] g λv _=>v= .bool (decide (a∈l)):=λg B=>hU _ _ _ _ _ _ (zd.sl.ext B) Y;have zf:=Ext.refl w5;refine Wz ?_;refine Wc (cN _ zf) λw6 zg=>?_;have c:=c.trans zg;by_cases R:a∈l
    ·rw[decide_eq_true R];refine Wz ?_;exact ah.sN Z Z Z Z ⟨_,Z,c,(0,0,4),.free H K (by rw[B];exact J) R,Z⟩
    rw[decide_eq_false R];refine Wz ?_;exact ah.sN Z Z Z Z ⟨_,Z,c,(i,k,0),.hit H K (by rw[B];exact J) R,Z⟩
   exact absurd J (ze l)
  refine Wz ?_
  exact ah.again (i+1) ⟨Z,Z,Z,Z,Z,trivial⟩ Y ⟨by omega,c,b,λp j h=>by
   by_cases e:p=i
   ·subst e;by_cases zh:j<s.ab[p].ae.length
    ·exact W j Y
    exact BO n zh
   exact T p j Y⟩
 refine Wz ?_
 exact ah.sN Z Z Z Z ⟨_,Z,c,(0,0,4),.none H (λp j=>by
  by_cases h:p<s.ab.length
  ·exact T p j Y
  simp[kB,h]),Z⟩
theorem qH(r:cc)(s:aj)(a:Int)(w:World)(O:mB w r s)(hf:s.bU):
 aS prog 120 [.agg (ar r).toArray,Iv a] w λv _=>∃u,gx s a u∧v=qG u:=by
 refine Wj func120 ntmps120 ?_;refine Ww λP E c zf b=>?_;obtain⟨q,H⟩:=bq (ef s)
 have S:∀g,Ext w g->aS prog 99 [.agg (ar r).toArray] g λv _=>v= .bool q:=λg D=>by
  have:=oC r s g (O.ext D) hf;rwa[H]at this
 cases q
 ·repeat'(first|refine Wz ?_|(refine CW.bQ Z ?_)|(refine Wc (S _ c) λE d=>?_;obtain⟨c,b⟩:=bk d c b))
  exact ah.sN Z Z Z Z ⟨_,Z,c,(0,0,8),.bad H,Z⟩
 have hM:=dg.1 H;have T:=hf.small;obtain⟨cs,F⟩:=O.aV;obtain⟨z1,z2⟩:=F.len;have wl:=O.words.len;have m1:=T.words;have m3:=T.aV;repeat'(first|refine Wz ?_|(refine CW.bo Z ?_)|(refine Wc (S _ c) λE d=>?_;obtain⟨c,b⟩:=bk d c b))
 refine CW.loop (λk:Nat=>[(1,Iv a),(2,Pt P),(7,Iv (k:Int))])
  (λk g=>k<=r.ab.n∧Ext w g∧ay g P 37 (ar r)∧∀y l,y<k->kB s a y l=false) (λk=>r.ab.n-k) 0
  ⟨Z,Z,Z,trivial⟩ ⟨by omega,c,b,λy l h=>by omega⟩ ?_
 rintro i g ⟨hk,c,b,U⟩;have hA:=F.row.base;by_cases B:i<r.ab.n
 ·have V:i<cs.length:=Y;have n:i<s.ab.length:=Y;have z:=F.each.get i V n;have sm:=T.each _ (Pf n);have G:=(hM.each i n).may;obtain⟨l1,l2,l3⟩:=bM G.lay;have eS:=z.size;have eP:=z.per;have n2:=z.av.len;have m2:=sm.av;have hS:1<=cs[i].ax∧cs[i].ax<=64:=Y;have hP:1<=cs[i].bd∧cs[i].bd<=64:=Y;have g4:=F.row.dp B (j:=4) (u:= .slice cs[i].ae.A cs[i].ae.n cs[i].ae.c) Z;refine Wz ?_
  refine CW.loop (λk:Nat=>[(1,Iv a),(2,Pt P),(7,Iv (i:Int)),(8,Iv (k:Int))])
   (λk g=>k<=cs[i].ae.n∧Ext w g∧ay g P 37 (ar r)∧∀l,l<k->kB s a i l=false) (λk=>cs[i].ae.n-k) 0
   ⟨Z,Z,Z,Z,trivial⟩ ⟨by omega,c,b,λl h=>by omega⟩ ?_
  rintro k g ⟨hk,c,b,W⟩;have zh:=z.av.base;by_cases X:k<cs[i].ae.n
  ·have C:k<s.ab[i].ae.length:=Y;obtain⟨x,D⟩:=bq (s.ab[i].ae[k]);have gS:=z.av.all X;rw[D]at gS;have ht:=(G.mX (hM.heap)) x (by rw[<-D];exact Pf C);obtain⟨f,Q⟩:=(G.av k C).chain;rw[D]at Q;have R:=nc (a:=a) n C;rw[D,<-eS,<-eP]at R;obtain⟨o,ho⟩:=bq (fG cs[i].ax cs[i].bd x.At a);rw[ho]at R
   have cO:∀g,aS prog 190 [.agg (cr cs[i]).toArray,Iv x.At,Iv a] g λv _=>v= .bool o:=λg=>by
    have:=tj cs[i] x.At a g hS hP ht;rwa[ho]at this
   repeat'(first|refine Wz ?_|refine Wn c g4 ?_|refine Wo c gS ?_)
   refine Wr (gG.one (enc:=bG) _) λb9 w2 A I p=>?_;have zg:=c.up I;obtain⟨c,b⟩:=bk A c b;cases o
   ·repeat'(first|refine Wz ?_|(first|refine CW.bQ Z ?_|(apply CW.dF mixed;(·kernel_rfl);rotate_left;intro E d;obtain⟨c,b,p⟩:=aY d c b p;rotate_right))|refine Wo c ((F.row.all B)) ?_|refine SW.ba Z Z (λE d=>(cO _)) ?_|exact SW.br Z)
    exact ah.again (k+1) ⟨Z,Z,Z,Z,trivial⟩ Y ⟨by omega,c,b,λl h=>by
     by_cases e:l=k
     ·subst e;exact R
     exact W l Y⟩
   have J:kh s a i k:=⟨n,C,R,λy l h=>by
    rcases h with h|⟨rfl,h⟩
    ·exact U y l h
    exact W l h⟩
   refine Wz ?_;refine fq ?_;repeat'(first|refine Wz ?_|(refine CW.bo Z ?_)|refine Wo c ((F.row.all B)) ?_|refine SW.ba Z Z (λE d=>(cO _)) ?_|(refine SW.br λE d=>?_;obtain⟨c,b,p⟩:=aY d c b p))
   refine CW.any 12 mixed (cy bm) Z λE d za=>?_;obtain⟨c,b,p⟩:=aY d c b p;refine Wa ?_;refine Wu 5 za Z (g7 c Z Z ((F.row.all B))) ?_;refine Wa ?_;refine SA.bD 7 ?_;refine Wk (xv r cs[i] x s.Words _ (O.words.ext c) Y hS hP ht) λv w5 A K=>?_;have c:=c.trans A;rw[eS,eP]at K;have zb:=lP.hit K Q;obtain⟨A5,c5,rfl,t,zi⟩:=zb;refine SW.nil (ah.sa A ?_);refine Wa ?_;refine SA.fH ?_;refine Wz ?_
   refine CW.loop (λj:Nat=>[(1,Iv a),(7,Iv (i:Int)),(8,Iv (k:Int)),(10,.slice A5 f.length c5),(12,Iv (j:Int))])
    (λj g=>j<=f.length∧Ext w g∧(∃lo,Own g lo 3 1 aT A5 f.length c5 f)∧∀(m:Nat)(h:m<f.length),m<j->f[m]≠a) (λj=>f.length-j) 0
    ⟨Z,Z,Z,Z,Z,trivial⟩ ⟨by omega,c,⟨_,t⟩,λm h h'=>by omega⟩ ?_
   rintro j g ⟨hj,c,⟨lo,t⟩,L⟩;have zj:=t.sl.base;by_cases M:j<f.length
   ·have gM:=t.sl.one M (u:=Iv f[j]) Z;by_cases N:f[j]=a
    ·repeat'(first|refine Wz ?_|refine Wl gM ?_)
     all_goals try omega
     exact ah.sN Z Z Z Z ⟨_,Z,c,(0,0,4),.free H J (by rw[D];exact Q) (N▸Pf M),Z⟩
    repeat'(first|refine Wz ?_|refine Wl gM ?_)
    all_goals try omega
    exact ah.again (j+1) ⟨Z,Z,Z,Z,Z,trivial⟩ Y ⟨by omega,c,⟨lo,t⟩,λm h h'=>by
     by_cases em:m=j
     ·subst em;exact N
     exact L m h Y⟩
   refine Wz ?_
   exact ah.sN Z Z Z Z ⟨_,Z,c,(i,k,0),.hit H J (by rw[D];exact Q) (λhm=>by
    obtain⟨m,zc,zd⟩:=Pg hm;exact L m zc Y zd),Z⟩
  repeat'(first|refine Wz ?_|refine Wn c g4 ?_)
  exact ah.again (i+1) ⟨Z,Z,Z,trivial⟩ Y ⟨by omega,c,b,λy l h=>by
   by_cases e:y=i
   ·subst e;by_cases ze:l<s.ab[y].ae.length
    ·exact W l Y
    exact BO n ze
   exact U y l Y⟩
 refine Wz ?_
 exact ah.sN Z Z Z Z ⟨_,Z,c,(0,0,4),.none H (λy l=>by
  by_cases h:y<s.ab.length
  ·exact U y l Y
  simp[kB,h]),Z⟩
theorem Is(r:cM)(z:ap)(f s:Int)(w:World)(F:vD w r z)(hf:(r.ai.n+1)*24<=140737488355328)(ht:r.Types.n*8<=140737488355328)(h1: -9223372036854775808<=r.aE∧r.aE<=9223372036854775807)(h2: -9223372036854775808<=r.To∧r.To<=9223372036854775807):
 aS prog 60 [.agg (bu r).toArray,Iv f,Iv s] w (oY w.heap.size (oo z f s)):=by
 refine Wj func60 ntmps60 ?_;refine Ww λO P c H a=>?_;refine SW.alloc Z λQ w2 R I b=>?_;have zf:=c.up I;have A:O≠Q:=by have:=a.lt;omega
 obtain⟨c,a⟩:=bk R c a;have eF:=F.from_;have eT:=F.kW;have zh:=F.free.len;have zi:=F.types.len;obtain⟨q,J⟩:=bq (dZ z)
 have G:∀B,Ext w B->aS prog 127 [.agg (bu r).toArray] B λv _=>v=Iv (if q then 0 else 8):=λB h=>by
  have:=km r z B (F.ext h) Y Y h1 h2;rwa[J]at this
 cases q
 ·simp only[Bool.false_eq_true,if_false]at G;rw[GW J];repeat'(first|refine Wz ?_|(refine Wc (G _ c) λP j=>?_;obtain⟨c,a,b⟩:=aY j c a b))
  refine Wh b (ck .zero) λK g l=>?_;have c:=jc g c;refine Wz ?_;exact ah.a9 Z Z Z l Z ⟨_,Z,c,.zero,Z,fv.zero _ _⟩
 simp only[if_true]at G;have hz:=dj.1 J;obtain⟨o1,o2,o3,o4,o5⟩:=hz.ok;have zj:=js hz;by_cases i:kH z f s
 ·obtain⟨a1,a2,a3,a4⟩:=id i;obtain⟨n,rfl⟩:=Pm a1;rw[GY J i];repeat'(first|refine Wz ?_|(refine Wc (G _ c) λP j=>?_;obtain⟨c,a,b⟩:=aY j c a b))
  all_goals try omega
  refine Wk (ra r z _ (F.ext c) Y ht) λv w4 S N=>?_;obtain⟨u,rfl,e,_,_⟩:=N;have e:=e.low c.size;obtain⟨c,a,b⟩:=aY S c a b;skip;refine Wg a (ck u) λK y L=>?_;have hG:=a.gr L;have c:=c.own H L;have e:=e.dm a L Z Z;have b:=b.grown L (by simpa using A.symm);have a:=y;refine Wz ?_
  refine CW.loop (λt:Nat×ap×cM=>[(1,Iv f),(2,Iv (n:Int)),(3,Pt O),(6,Pt Q),(9,Iv (f+(t.1:Int)))])
   (λt B=>t.1<=n∧Ext w B∧ay B O 98 (bu t.2.2)∧ay B Q 98 (bu .zero)∧fv B w.heap.size t.2.2 t.2.1∧sX n z f=sX (n-t.1) t.2.1 (f+(t.1:Int))∧t.2.1.ai.length<=257∧t.2.1.Types.length<=32∧t.2.1.aE=z.aE∧t.2.1.To=z.To) (λt=>n-t.1) (0,z,u)
   ⟨Z,Z,Z,Z,congrArg (λx=>some (Iv x)) fy,trivial⟩ ⟨by omega,c,a,b,e,by simp,by simp only;omega,by simp only;omega,Z,Z⟩ ?_
  rintro⟨k,T,u⟩ B ⟨hk,c,a,b,e,d,U,V,W,X⟩;simp only at hk a e d U V W X⊢;by_cases zk:k<n
  ·have e1:=e.free.sl.len;have e2:=e.types.sl.len;have e3:=e.from_;have e4:=e.kW;have C:=ld T (f+(k:Int)) 0;refine Wz ?_;refine Wk (oq u T (f+(k:Int)) 0 _ e.rd (Pj (PC 24 (show u.ai.n+1<=258 by omega)) ir) Y ⟨by omega,by omega⟩ ⟨by omega,by omega⟩) λv K za N=>?_;obtain⟨o,ho⟩:=bq (eX T (f+(k:Int)) 0);rw[ho]at N C;obtain⟨u',rfl,p⟩:=N;have p:=p.low c.size;obtain⟨c,a,b,e⟩:=cG za c a b e;refine Wz ?_;refine Wr (ck _) λzl w2 M E zg=>?_;have zb:=c.up E;obtain⟨c,a,b,e,p⟩:=dz M c a b e p;have zd:=a.lt;obtain⟨m,hm⟩:∃m,n-k=m+1:=⟨n-k-1,by omega⟩;rw[hm]at d;simp only[sX,ho]at d;by_cases D:o.1=0
   ·rw[if_pos D]at d;rw[D];refine Wz ?_;refine Wh a (ck u') λw6 g y=>?_;have c:=jc g c;have p:=p.dm a g.g Z Z;have b:=b.grown g.g (by simpa using A.symm);refine Wz ?_;obtain⟨q1,q2,q3⟩:=C.2.2 D;have e9:f+(k:Int)+1=f+((k+1:Nat):Int):=Y;have ze:m=n-(k+1):=Y;exact ah.again (k+1,o.2,u') ⟨Z,Z,Z,Z,congrArg (λx=>some (Iv x)) e9,trivial⟩ dD ⟨by simp only;omega,c,y,b,p,by simp only;rw[<-e9,<-ze];exact d,C.1,C.2.1,by simp only;omega,by simp only;omega⟩
   rw[if_neg D]at d;rw[d];refine Wz ?_;refine Wh b (ck .zero) λK g l=>?_;have c:=jc g c;refine Wz ?_;exact ah.a9 Z Z Z l Z ⟨_,Z,c,.zero,Z,fv.zero _ _⟩
  have e0:n-k=0:=Y;rw[e0]at d;simp only[sX]at d;rw[d];refine Wz ?_;refine Wh b (ck u) λK g l=>?_;have c:=jc g c;have e:=e.dm b g.g Z Z;refine Wz ?_;exact ah.a9 Z Z Z l Z ⟨_,Z,c,u,Z,e⟩
 rw[GX J i];unfold kH at i;repeat'(first|refine Wz ?_|refine SW.dP Z Z Z (λh=>?_) (λh=>?_)|(refine Wc (G _ c) λP j=>?_;obtain⟨c,a,b⟩:=aY j c a b))
 all_goals
  first
   | (exfalso;omega)
   | (refine Wh b (ck .zero) λK g l=>?_;have c:=jc g c;refine Wz ?_;exact ah.a9 Z Z Z l Z ⟨_,Z,c,.zero,Z,fv.zero _ _⟩)
variable {w':World} {z:ap}
theorem fv.small{r:cM}(h:fv w lo r z)(a:pp z):(r.ai.n+1)*24<=140737488355328∧r.Types.n*8<=140737488355328∧(-9223372036854775808<=r.aE∧r.aE<=9223372036854775807)∧(-9223372036854775808<=r.To∧r.To<=9223372036854775807):=by
 have b:=h.free.sl.len;have c:=h.types.sl.len;have d:=h.from_;have e:=h.kW;obtain⟨f,g,i,j⟩:=a<;>grind
theorem Kj{r:cM}(f s:Int)(h:fv w' lo r z)(a:pp z):aS prog 60 [.agg (bu r).toArray,Iv f,Iv s] w' (oY w'.heap.size (oo z f s)):=by
 obtain⟨b,c,d,e⟩:=h.small a;exact Is r z f s w' h.rd b c d e
theorem Kk(A:Option Addr)(n c:Nat)(l:List Region)(split least cpus:Int)(w:World)(hl:Sl w 2 eV A n l)(hn:n<=9223372036854775807)(ze: -9223372036854775808<=split∧split<=9223372036854775807):
 aS prog 16 [.slice A n c,Iv split,Iv least,Iv cpus] w (fc w.heap.size (fe l split least cpus)):=by
 refine Wj func16 ntmps16 ?_;refine CW.seq (CW.region (SW.alloc rfl λb8 w1 p zf b=>?_));have J:=zf;obtain⟨q,hq⟩:=bq (dv l)
 have c1:∀L,Ext w L->aS prog 56 [.agg (ia A n c none 0 0).toArray] L λv _=>v=Iv (if q then 0 else 8):=λL h=>by
  have:=BG A n c none 0 0 l [] L (hl.ext h) (Sl.cq _ _ _ _) hn Y
  have e:nJ l []=q:=by
   have:dv []=true:=oU ⟨by simp,λi h=>by simp at h⟩;simp[nJ,this,hq]
  rwa[e]at this
 cases q
 ·simp only[Bool.false_eq_true,if_false]at c1;rw[m7 hq];repeat'(first|refine Wy ?_|(refine Wk (c1 _ p) ?_;intro v w1 C H;subst H;obtain⟨p,b⟩:=bk C p b))
  refine Wg b (bw .zero) λw5 I y=>?_;have p:=p.own J y;repeat'(first|refine Wy ?_|fail);exact ah.a9 Z Z Z I Z ⟨_,Z,p,fc.zero 8 _ _⟩
 simp only[if_true]at c1;have za:=oV.1 hq;repeat'(first|refine Wy ?_|(refine Wk (c1 _ p) ?_;intro v w1 C H;subst H;obtain⟨p,b⟩:=bk C p b))
 refine Wk (wC 0 split _ Y ze) λv w4 F H=>?_;obtain⟨o1,V⟩:=bq (gn 0 split);rw[V]at H;obtain⟨u1,rfl,d⟩:=H;have d:=d.low p.size;obtain⟨p,b⟩:=bk F p b;have zt:=b.lt;repeat'(first|refine Wy ?_|fail);refine SW.alloc Z λN w1 C O a=>?_;skip;refine Wg a (ck u1) λw2 B y=>?_;have G:=C.own O y;have P:=p.up O;obtain⟨p,b,d⟩:=aY G p b d;have a:=B;have K:b8≠N:=Y;repeat'(first|refine Wy ?_|fail);refine Wk (wC split 256 _ ze Y) λv w4 F H=>?_;obtain⟨o2,zb⟩:=bq (gn split 256);rw[zb]at H;obtain⟨u2,rfl,m⟩:=H;have m:=m.low p.size;obtain⟨p,b,a,d⟩:=cG F p b a d;repeat'(first|refine Wy ?_|fail);have zn:=a.lt;have zu:=b.lt;refine SW.alloc Z λQ w1 C R j=>?_;skip;refine Wg j (ck u2) λw2 D y=>?_;have G:=C.own R y;have zc:=p.up R;obtain⟨p,b,a,d,m⟩:=dz G p b a d m;have j:=D;have E:N≠Q:=Y;have W:b8≠Q:=Y;by_cases hz:eu 0 split
 ·have g1:o1.1=0:=by rw[<-V,jd hz]
  have g2:o2.1=0:=by rw[<-zb,jd (Es.2 hz)]
  rw[g1,g2];by_cases ha:lC split least cpus
  ·obtain⟨_,⟨a1,a2⟩,a3,a4⟩:=id ha;obtain⟨z1,z2,z3,z4,z5⟩:=id hz;rw[m8 hq ha];have hA:=hl.base;have zw:=hl.len;repeat'(first|refine Wy ?_|fail);have i1:o1.2=(lZ l split 0).1:=by rw[<-V];rfl
   have i2:o2.2=(lZ l split 0).2:=by rw[<-zb];rfl
   rw[i1]at d;rw[i2]at m
   refine CW.loop (λt:Nat×cM×cM=>[(1,Iv split),(2,Iv least),(3,Iv cpus),(8,Pt b8),(10,Pt N),(12,Pt Q),(55,.slice A n c),(56,Iv (n:Int)),(57,Iv (t.1:Int))])
    (λt L=>t.1<=n∧Ext w L∧ay L b8 34 (bg .zero)∧ay L N 98 (bu t.2.1)∧ay L Q 98 (bu t.2.2)∧fv L w.heap.size t.2.1 (lZ l split t.1).1∧fv L w.heap.size t.2.2 (lZ l split t.1).2) (λt=>n-t.1) (0,u1,u2)
    ⟨Z,Z,Z,Z,Z,Z,Z,Z,Z,trivial⟩ ⟨by omega,p,b,a,j,d,m⟩ ?_
   rintro⟨k,u1,u2⟩ L ⟨hk,p,b,a,j,d,m⟩;simp only at hk a j d m⊢;have hm:=m6 (l:=l) hz (dy l k).toNat;by_cases zg:k<n
   ·have zh:=hl.lt zg;have zi:=(za.2 k zh).1;unfold Region.ok at zi;have S:=FT za (split:=split) zh;obtain⟨M,zj⟩:=bq (kg l[k] split);have zd:max 0 (min (l[k].aE+l[k].ax) split-l[k].aE)=M:=zj;have zx:0<=M∧M<=l[k].ax:=Y;rw[zj]at S;repeat'(first|refine Wy ?_|refine Wo p ((hl.all zg)) ?_)
    have zy:=a.lt;have zz:=j.lt;refine SW.alloc Z λzk w1 C T x=>?_;skip;refine Wg x (gG.one (enc:=eV) _) λw2 U y=>?_;have G:=C.own T y;have zo:=p.up T;obtain⟨p,b,a,j,d,m⟩:=fi G p b a j d m;have x:=U;have zl:N≠zk:=Y;have zA:Q≠zk:=Y;by_cases h2:M<l[k].ax
    ·by_cases h1:0<M
     case' pos=>
      repeat'(first|refine Wy ?_|refine Wl (x.cell Z) ?_|refine Wm ((λ_ _=>a.cell)) ?_|(refine SW.st (Cy Z Z) Z ?_)|(refine SW.st (Cx Z Z) Z ?_))
      rw[zd];refine Wk (Kj l[k].aE M d hm.1) λv w4 F H=>?_;obtain⟨u3,rfl,r⟩:=H;have r:=r.low p.size;obtain⟨p,b,a,j,x,d,m⟩:=iX F p b a j x d m;repeat'(first|refine Wy ?_|fail);refine Wg a (ck u3) λw5 B y=>?_;have p:=p.own P y;have m:=m.dm a y Z Z;have r:=r.dm a y Z Z;have b:=b.grown y (by simpa using K);have j:=j.grown y (by simpa using Ne.symm E);have x:=x.grown y (by simpa using Ne.symm zl);have a:=B;have d:=r;rw[xN h1]at d;repeat'(first|refine Wy ?_|fail)
     case' neg=>
      repeat'(first|refine Wy ?_|refine Wl (x.cell Z) ?_|(refine SW.st (Cy Z Z) Z ?_)|(refine SW.st (Cx Z Z) Z ?_))
      rw[zd];have r:=d;obtain⟨u3,zp⟩:=Ni u1;rw[<-zp]at r a;have d:=r;rw[Er (z:=(lZ l split k).1) (f:=l[k].aE) h1]at d
     all_goals
      repeat'(first|refine Wy ?_|refine Wl (x.cell Z) ?_|refine Wm ((λ_ _=>j.cell)) ?_)
      refine Wk (Kj (l[k].aE+M) (l[k].ax-M) m hm.2) λv w4 F H=>?_;obtain⟨u4,rfl,r⟩:=H;have r:=r.low p.size;obtain⟨p,b,a,j,x,d,m⟩:=iX F p b a j x d m;repeat'(first|refine Wy ?_|fail);refine Wg j (ck u4) λw5 D y=>?_;have p:=p.own zc y;have d:=d.dm j y Z Z;have r:=r.dm j y Z Z;have b:=b.grown y (by simpa using W);have a:=a.grown y (by simpa using E);have j:=D;have m:=r;rw[xN Y]at m;repeat'(first|refine Wy ?_|fail)
     all_goals
      refine ah.again (k+1,u3,u4) ⟨Z,Z,Z,Z,Z,Z,Z,Z,Z,trivial⟩ dD ⟨by simp only;omega,p,b,a,j,?_,?_⟩
      ·simp only;rw[S];exact d
      simp only;rw[S];exact m
    have h1:0<M:=Y;repeat'(first|refine Wy ?_|refine Wl (x.cell Z) ?_|refine Wm ((λ_ _=>a.cell)) ?_|(refine SW.st (Cy Z Z) Z ?_)|(refine SW.st (Cx Z Z) Z ?_))
    rw[zd];refine Wk (Kj l[k].aE M d hm.1) λv w4 F H=>?_;obtain⟨u3,rfl,r⟩:=H;have r:=r.low p.size;obtain⟨p,b,a,j,x,d,m⟩:=iX F p b a j x d m;repeat'(first|refine Wy ?_|fail);refine Wg a (ck u3) λw5 B y=>?_;have p:=p.own P y;have m:=m.dm a y Z Z;have r:=r.dm a y Z Z;have b:=b.grown y (by simpa using K);have j:=j.grown y (by simpa using Ne.symm E);have x:=x.grown y (by simpa using Ne.symm zl);have a:=B;have d:=r;rw[xN h1]at d;repeat'(first|refine Wy ?_|fail);repeat'(first|refine Wy ?_|refine Wl (x.cell Z) ?_)
    have r:=m;obtain⟨u4,zq⟩:=Ni u2;rw[<-zq]at r j;have m:=r;rw[Er (z:=(lZ l split k).2) (f:=l[k].aE+M) (s:=l[k].ax-M) Y]at m;refine ah.again (k+1,u3,u4) ⟨Z,Z,Z,Z,Z,Z,Z,Z,Z,trivial⟩ dD ⟨by simp only;omega,p,b,a,j,?_,?_⟩
    ·simp only;rw[S];exact d
    simp only;rw[S];exact m
   have ek:k=l.length:=Y;have zm:=Iw za split;rw[<-ek]at zm;rw[zm]at d m;repeat'(first|refine Wy ?_|refine Wm ((λ_ _=>a.cell)) ?_|refine Wm ((λ_ _=>j.cell)) ?_)
   refine SW.qA (enc:=bu) u1 u2 Z Z Z Z Z Z λg w2 zr zB X=>?_;have X:=X.low p.size;obtain⟨p,b,d,m⟩:=cG zr p b d m;repeat'(first|refine Wy ?_|fail);refine SW.qA (enc:=aT) least least Z Z Z Z Z Z λg' w3 zs zv hM=>?_;have hM:=hM.low p.size;obtain⟨p,b,d,m,X⟩:=dz zs p b d m X;repeat'(first|refine Wy ?_|fail);refine Wg b (bw ⟨⟨some ⟨g,0,none⟩,2,2⟩,⟨some ⟨g',0,none⟩,2,2⟩,cpus,.nil,.nil⟩) λw5 I y=>?_;have p:=p.own J y;have d:=d.dm b y Z Z;have m:=m.dm b y Z Z;have X:=X.grown y (.inr (X.cB b Z));have hM:=hM.grown y (.inr (hM.cB b Z));repeat'(first|refine Wy ?_|fail);exact ah.a9 Z Z Z I Z ⟨_,Z,p,⟨⟨some ⟨g,0,none⟩,2,2⟩,⟨some ⟨g',0,none⟩,2,2⟩,cpus,.nil,.nil⟩,Z,⟨Z,hM,Own.cq _ _ _ _ _ _,⟨[u1,u2],⟨X,dR.two d m⟩⟩,⟨[],.nil _ _⟩⟩⟩
  rw[ko hq ha];have zC:¬((0<=least∧least<=256)∧1<=cpus∧cpus<=4):=λh=>ha ⟨hz,h⟩;repeat'(first|refine Wy ?_|refine SW.dP Z Z Z (λh=>?_) (λh=>?_))
  all_goals try omega
  all_goals
   refine Wg b (bw .zero) λw5 I y=>?_;have p:=p.own J y;repeat'(first|refine Wy ?_|fail);exact ah.a9 Z Z Z I Z ⟨_,Z,p,fc.zero 1 _ _⟩
 have g1:o1.1=1:=by rw[<-V,lc hz]
 rw[g1,ko hq (λh=>hz h.1)];repeat'(first|refine Wy ?_|fail);refine Wg b (bw .zero) λw5 I y=>?_;have p:=p.own J y;repeat'(first|refine Wy ?_|fail);exact ah.a9 Z Z Z I Z ⟨_,Z,p,fc.zero 1 _ _⟩
theorem Mr{r:cM}(f s:Int)(h:fv w' lo r z)(a:pp z):aS prog 98 [.agg (bu r).toArray,Iv f,Iv s] w' (oY w'.heap.size (eX z f s)):=by
 obtain⟨b,c,d,e⟩:=h.small a;exact sc r z f s w' h.rd b c d e
theorem Et(A:Option Addr)(n c:Nat)(l:List Region)(split least cpus:Int)(w:World)(hl:Sl w 2 eV A n l)(hn:n<=9223372036854775807)(za: -9223372036854775808<=split∧split<=9223372036854775807):
 aS prog 34 [.slice A n c,Iv split,Iv least,Iv cpus] w (fc w.heap.size (fe l split least cpus)):=by
 refine Wj func34 ntmps34 ?_;refine CW.seq (CW.region (SW.alloc rfl λb8 J j zb a=>?_));have F:=zb;obtain⟨q,W⟩:=bq (dv l)
 have c1:∀B,Ext w B->aS prog 96 [.slice A n c] B λv _=>v= .bool q:=λB h=>by
  have:=mL A n c l B (hl.ext h) hn;rwa[W]at this
 cases q
 ·rw[m7 W];repeat'(first|refine Wz ?_|(refine CW.bQ Z ?_)|(refine Wk (c1 _ j) ?_;intro v J p u;subst u;obtain⟨j,a⟩:=bk p j a))
  refine Wg a (bw .zero) λw5 D s=>?_;have j:=j.own F s;refine Wz ?_;exact ah.a9 Z Z Z D Z ⟨_,Z,j,fc.zero 8 _ _⟩
 have ze:=oV.1 W;repeat'(first|refine Wz ?_|(refine CW.bo Z ?_)|(refine Wk (c1 _ j) ?_;intro v J p u;subst u;obtain⟨j,a⟩:=bk p j a))
 refine Wk (pX 0 split _ Y za) λv w4 E u=>?_;obtain⟨o1,K⟩:=bq (gn 0 split);rw[K]at u;obtain⟨S,rfl,d⟩:=u;have d:=d.low j.size;obtain⟨j,a⟩:=bk E j a;have zi:=a.lt;refine Wz ?_;refine SW.alloc Z λL J p G b=>?_;skip;refine Wg b (ck S) λw2 y s=>?_;have H:=p.own G s;have T:=j.up G;obtain⟨j,a,d⟩:=aY H j a d;have b:=y;have M:b8≠L:=Y;by_cases X:eu 0 split
 ·have g1:o1.1=0:=by rw[<-K,jd X]
  rw[g1];by_cases ha:lC split least cpus
  ·obtain⟨_,⟨a1,a2⟩,a3,a4⟩:=id ha;obtain⟨z1,z2,z3,z4,z5⟩:=id X;rw[m8 W ha];repeat'(first|refine Wz ?_|(refine Wk (bE _ _ _ _) ?_;intro v J p u;subst u;obtain⟨j,a,b,d⟩:=cG p j a b d))
   all_goals try omega
   refine Wk (pX split 256 _ za Y) λv w4 E u=>?_;obtain⟨o2,zc⟩:=bq (gn split 256);rw[zc]at u;obtain⟨U,rfl,m⟩:=u;have m:=m.low j.size;obtain⟨j,a,b,d⟩:=cG E j a b d;refine Wz ?_;have zf:=b.lt;have zj:=a.lt;refine SW.alloc Z λO J p I f=>?_;skip;refine Wg f (ck U) λw2 z s=>?_;have H:=p.own I s;have V:=j.up I;obtain⟨j,a,b,d,m⟩:=dz H j a b d m;have f:=z;have C:L≠O:=Y;have P:b8≠O:=Y;refine Wz ?_;have i1:o1.2=(fa l split 0).1:=by rw[<-K];rfl
   have i2:o2.2=(fa l split 0).2:=by rw[<-zc];rfl
   rw[i1]at d;rw[i2]at m;obtain⟨N,hN⟩:∃N:Nat,N=256:=⟨_,Z⟩
   refine CW.loop (λt:Nat×cM×cM=>[(0,.slice A n c),(1,Iv split),(2,Iv least),(3,Iv cpus),(8,Pt b8),(10,Pt L),(12,Pt O),(14,Iv (t.1:Int))])
    (λt B=>t.1<=N∧Ext w B∧ay B b8 34 (bg .zero)∧ay B L 98 (bu t.2.1)∧ay B O 98 (bu t.2.2)∧fv B w.heap.size t.2.1 (fa l split t.1).1∧fv B w.heap.size t.2.2 (fa l split t.1).2) (λt=>N-t.1) (0,S,U)
    ⟨Z,Z,Z,Z,Z,Z,Z,Z,trivial⟩ ⟨by omega,j,a,b,f,d,m⟩ ?_
   rintro⟨k,S,U⟩ B ⟨hk,j,a,b,f,d,m⟩;simp only at hk b f d m⊢;have hm:=m6 (l:=l) X k;by_cases zl:k<N
   ·obtain⟨e,he⟩:=bq (dq l (k:Int))
    have cI:∀B,Ext w B->aS prog 95 [.slice A n c,Iv (k:Int)] B λv _=>v= .bool e:=λB h=>by
     have:=nV A n c l (k:Int) B (hl.ext h) (λr hr=>by obtain⟨i,hi,rfl⟩:=Pg hr;exact(ze.2 i hi).1) hn;rwa[he]at this
    cases e
    ·repeat'(first|refine Wz ?_|(refine CW.bQ Z ?_)|(refine Wk (cI _ j) ?_;intro v J p u;subst u;obtain⟨j,a,b,f,d,m⟩:=fi p j a b f d m))
     have Q:fa l split (k+1)=fa l split k:=by rw[fa,he,if_neg fy]
     exact ah.again (k+1,S,U) ⟨Z,Z,Z,Z,Z,Z,Z,Z,trivial⟩ dD ⟨by simp only;omega,j,a,b,f,by simp only;rw[Q];exact d,by simp only;rw[Q];exact m⟩
    by_cases zd:(k:Int)<split
    ·have Q:fa l split (k+1)=(k9 (fa l split k).1 k,(fa l split k).2):=by rw[fa,he,if_pos Z,if_pos zd]
     repeat'(first|refine Wz ?_|(refine CW.bo Z ?_)|(refine Wk (cI _ j) ?_;intro v J p u;subst u;obtain⟨j,a,b,f,d,m⟩:=fi p j a b f d m))
     refine Wk (Mr (k:Int) 0 d hm.1) λv w4 E u=>?_;obtain⟨u3,rfl,x⟩:=u;have x:=x.low j.size;obtain⟨j,a,b,f,d,m⟩:=fi E j a b f d m;refine Wz ?_;refine Wg b (ck u3) λw5 y s=>?_;have j:=j.own T s;have m:=m.dm b s Z Z;have x:=x.dm b s Z Z;have a:=a.grown s (by simpa using M);have f:=f.grown s (by simpa using Ne.symm C);refine Wz ?_;exact ah.again (k+1,u3,U) ⟨Z,Z,Z,Z,Z,Z,Z,Z,trivial⟩ dD ⟨by simp only;omega,j,a,y,f,by simp only;rw[Q];exact x,by simp only;rw[Q];exact m⟩
    have Q:fa l split (k+1)=((fa l split k).1,k9 (fa l split k).2 k):=by rw[fa,he,if_pos Z,if_neg zd]
    repeat'(first|refine Wz ?_|(refine CW.bo Z ?_)|(refine Wk (cI _ j) ?_;intro v J p u;subst u;obtain⟨j,a,b,f,d,m⟩:=fi p j a b f d m))
    refine Wk (Mr (k:Int) 0 m hm.2) λv w4 E u=>?_;obtain⟨u3,rfl,x⟩:=u;have x:=x.low j.size;obtain⟨j,a,b,f,d,m⟩:=fi E j a b f d m;refine Wz ?_;refine Wg f (ck u3) λw5 z s=>?_;have j:=j.own V s;have d:=d.dm f s Z Z;have x:=x.dm f s Z Z;have a:=a.grown s (by simpa using P);have b:=b.grown s (by simpa using C);refine Wz ?_;exact ah.again (k+1,S,u3) ⟨Z,Z,Z,Z,Z,Z,Z,Z,trivial⟩ dD ⟨by simp only;omega,j,a,b,z,by simp only;rw[Q];exact d,by simp only;rw[Q];exact x⟩
   have ek:k=256:=Y;subst ek;refine Wz ?_;refine SW.qA (enc:=bu) S U Z Z Z Z Z Z λg w2 zg zm R=>?_;have R:=R.low j.size;obtain⟨j,a,d,m⟩:=cG zg j a d m;refine Wz ?_;refine SW.qA (enc:=aT) least least Z Z Z Z Z Z λg' w3 zh zk hM=>?_;have hM:=hM.low j.size;obtain⟨j,a,d,m,R⟩:=dz zh j a d m R;refine Wz ?_;refine Wg a (bw ⟨⟨some ⟨g,0,none⟩,2,2⟩,⟨some ⟨g',0,none⟩,2,2⟩,cpus,.nil,.nil⟩) λw5 D s=>?_;have j:=j.own F s;have d:=d.dm a s Z Z;have m:=m.dm a s Z Z;have R:=R.grown s (.inr (R.cB a Z));have hM:=hM.grown s (.inr (hM.cB a Z));refine Wz ?_;exact ah.a9 Z Z Z D Z ⟨_,Z,j,⟨⟨some ⟨g,0,none⟩,2,2⟩,⟨some ⟨g',0,none⟩,2,2⟩,cpus,.nil,.nil⟩,Z,⟨Z,hM,Own.cq _ _ _ _ _ _,⟨[S,U],⟨R,dR.two d m⟩⟩,⟨[],.nil _ _⟩⟩⟩
  rw[ko W ha];have zn:¬((0<=least∧least<=256)∧1<=cpus∧cpus<=4):=λh=>ha ⟨X,h⟩;repeat'(first|refine Wz ?_|refine SW.nR Z Z Z (λh=>?_) (λh=>?_)|(refine Wk (bE _ _ _ _) ?_;intro v J p u;subst u;obtain⟨j,a⟩:=bk p j a))
  all_goals try omega
  all_goals
   refine Wg a (bw .zero) λw5 D s=>?_;have j:=j.own F s;refine Wz ?_;exact ah.a9 Z Z Z D Z ⟨_,Z,j,fc.zero 1 _ _⟩
 have g1:o1.1=1:=by rw[<-K,lc X]
 rw[g1,ko W (λh=>X h.1)];refine Wz ?_;refine Wg a (bw .zero) λw5 D s=>?_;have j:=j.own F s;refine Wz ?_;exact ah.a9 Z Z Z D Z ⟨_,Z,j,fc.zero 1 _ _⟩
theorem xP(l:List Region)(split least cpus:Int):(fe l split least cpus).2.small:=by
 cases a:dv l
 ·rw[m7 a];constructor<;>simp
 by_cases b:lC split least cpus
 ·rw[m8 a b];obtain⟨c,d⟩:=m6 (l:=l) b.1 256;constructor<;>simp[sv]
  exact⟨⟨by have:=c.free;omega,by have:=c.types;omega⟩,by have:=d.free;omega,by have:=d.types;omega⟩
 rw[ko a b];constructor<;>simp
end Go.Proofs.YtdlfabkacdgneaaGreatDoor
