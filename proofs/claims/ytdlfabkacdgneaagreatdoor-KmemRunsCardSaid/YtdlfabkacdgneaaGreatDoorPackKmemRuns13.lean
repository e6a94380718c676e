/- Part 13 of what kmemRuns_holds leans on. -/
import Derived.Test.YtdlfabkacdgneaaGreatDoorPackKmemRuns10
import Derived.Test.YtdlfabkacdgneaaGreatDoorPackKmemRuns9
import Derived.Test.YtdlfabkacdgneaaGreatDoorPackKmemRuns11
set_option maxHeartbeats 16000000
set_option linter.unusedVariables false
set_option linter.unusedSimpArgs false
set_option linter.defProp false
open Go.Proofs.Tryz
namespace Go.Proofs.YtdlfabkacdgneaaGreatDoor
open Go.RowKit
variable {α β:Type} {A:Option Addr} {w:World} {p:α -> Bool}
theorem vL(A:Option Addr)(n c:Nat)(l:List ByteArray)(x:ByteArray)(w:World)(f:Sl w 1 encStr A n l)(q:n<=9223372036854775807):
 aS prog 201 [.slice A n c,.string x] w λv _=>∃i:Int,v=Iv i∧decide (0<=i)=vK l x:=by
 refine Wj func201 ntmps201 ?_;have a:=Ext.refl w;have r:=f.base;have p:=f.len;refine Wz ?_
 refine CW.loop (λk:Nat=>[(0,.slice A n c),(1,.string x),(7,Iv (n:Int)),(8,Iv (k:Int))]) (λk m=>k<=n∧Ext w m∧∀(i:Nat)(h:i<l.length),i<k->l[i]≠x)
  (λk=>n-k) 0 ⟨rfl,rfl,rfl,rfl,trivial⟩ ⟨by omega,a,λi h g=>by omega⟩ ?_
 rintro k m ⟨s,a,o⟩;by_cases b:k<n
 ·by_cases d:x=l[k]
  ·repeat'(first|refine Wz ?_|refine Wn a (f.one b rfl) ?_|(refine SW.st ((jt rfl rfl).eq (congrArg Value.bool (decide_eq_true d))) rfl ?_))
   refine ah.aF rfl rfl ⟨_,rfl,a,_,rfl,?_⟩;rw[dx.2 (d▸Pf (f.lt b))];simp
  repeat'(first|refine Wz ?_|refine Wn a (f.one b rfl) ?_|(refine SW.st ((jt rfl rfl).eq (congrArg Value.bool (decide_eq_false d))) rfl ?_))
  refine ah.again (k+1) ⟨rfl,rfl,rfl,rfl,trivial⟩ Y ⟨by omega,a,λi h' g=>?_⟩;by_cases j:i=k
  ·subst j;exact λe=>d e.symm
  exact o i h' Y
 refine Wz ?_;refine ah.aF Z Z ⟨_,Z,a,_,Z,?_⟩
 have d:vK l x=false:=by
  cases e:vK l x
  ·rfl
  obtain⟨i,g,e⟩:=Pg (dx.1 e);exact absurd e (o i g Y)
 rw[d];simp
theorem mZ(A:Option Addr)(n c:Nat)(l:List ByteArray)(x:ByteArray)(w:World)(d:Sl w 1 encStr A n l)(e:n<=9223372036854775807):
 aS prog 135 [.slice A n c,.string x] w λv _=>v= .bool (vK l x):=by
 refine Wj func135 ntmps135 ?_;have a:=Ext.refl w;refine Wz ?_;refine Wk (vL _ _ _ _ _ _ (d.ext a) e) λv h b f=>?_;obtain⟨i,rfl,g⟩:=f;have a:=a.trans b;refine Wz ?_;exact ah.aF Z Z ⟨_,Z,a,by rw[g]⟩
theorem qz{q:β->Bool}{l:List α}{m:List β}(c:l.length=m.length)(h:∀(k:Nat)(a:k<l.length)(b:k<m.length),p l[k]=q m[k]):idxOf p l=idxOf q m∧l.any p=m.any q:=by
 have e:l.map p=m.map q:=PK (by grind) λk a b=>by grind
 have d:l.any p=m.any q:=by
  have f:(l.map p).any id=l.any p:=by rw[List.any_map];rfl
  simp_all
 have g:l.findIdx p=m.findIdx q:=by
  grind
 unfold idxOf<;>grind
theorem FM{n:Nat}{l c:List ByteArray}(h:Sl w 1 encStr A n l)(h':Sl w 1 encStr A n c):l=c:=by
 have d:=h.len;have e:=h'.len;refine PK Y λk f g=>?_;have a:=h.one (i:=k) Y (u:= .string l[k]) Z;have b:=h'.one (i:=k) Y (u:= .string c[k]) Z
 grind
theorem Ij(w:World)(n:ByteArray):∃p:da->Bool,∀x c,DO w x c->p x=c9 n c:=by
 classical
 refine⟨λx=>decide (∃c,DO w x c∧c9 n c=true),λx c h=>?_⟩;cases e:c9 n c
 ·refine decide_eq_false ?_;rintro⟨c',h',a⟩;unfold c9 at e a;rw[FM h'.names h.names,e]at a;grind
 grind
theorem FN(x:da)(c:aO)(g:Nat)(n:ByteArray)(w:World)(f:ay w g 9 [.string n])(j:DO w x c)(k:x.Names.n<=9223372036854775807):
 aS prog 134 ([.agg (cr x).toArray]++[Pt g]) w λv _=>v= .bool (c9 n c):=by
 refine Wj func134 ntmps134 ?_;refine Ww λm l a h b=>?_;have f:=f.ext a;have d:=f.cell (i:=0) (v:= .string n) Z;rw[add_zero]at d;repeat'(first|refine Wz ?_|refine Wl d ?_|(refine Wc (mZ _ _ _ _ _ _ (j.names.ext a) k) λl e=>?_;obtain⟨a,b⟩:=bk e a b))
 exact ah.aF Z Z ⟨_,Z,a,Z⟩
theorem BE(r:cc)(s:aj)(n:ByteArray)(w:World)(C:mB w r s)(u:s.small):
 aS prog 63 [.agg (ar r).toArray,.string n] w λv _=>v= .tuple #[Iv (idxOf (c9 n) s.ab),.bool (s.ab.any (c9 n))]:=by
 refine Wj func63 ntmps63 ?_;obtain⟨cs,g⟩:=C.aV;obtain⟨H,I⟩:=g.len;have J:=u.aV;obtain⟨p,y⟩:=Ij w n;have a:=qz (p:=p) (q:=c9 n) (l:=cs) (m:=s.ab) Y λk D E=>y _ _ (g.each.get k D E);refine Ww λK z b A d=>?_;refine SW.JJ Z Z Z λh L i B j=>?_;obtain⟨b,d⟩:=bk i b d;repeat'(first|refine Wz ?_|(refine SW.st (gH (vs:=[Pt h]) Z) Z ?_))
 refine Wc (kI _ _ _ _ _ (g.row.ext b) _ [Pt h] p (λx=> .agg (cr x).toArray) (λx=>Z) (λx F z e=>by
  obtain⟨k,G,rfl⟩:=Pg F;have f:k<s.ab.length:=Y;have c:=g.each.get k G f;have M:=(u.each _ (Pf f)).names;have N:=c.names.len;rw[y _ _ c];exact FN _ _ h n z (j.ext e) (c.ext (b.trans e)) Y) Y) λO o=>?_;rw[a.1];have b:=b.trans o;have t:=iN (c9 n) s.ab;refine Wz ?_;all_goals exact ah.cf Z Z Z ⟨_,Z,b,by rw[t]⟩
theorem FO(x:ByteArray)(w:World):aS prog 202 [.string x] w λv _=>v= .bool false:=by
 refine Wj func202 ntmps202 ?_;have a:=Ext.refl w;repeat'(first|refine Wz ?_|(refine SW.st ((mA rfl rfl).eq (congrArg Value.bool (decide_eq_false (λh=>h rfl)))) rfl ?_))
 exact ah.aF rfl rfl ⟨_,rfl,a,rfl⟩
theorem FP(x:ByteArray)(w:World):aS prog 137 [.string x] w λv _=>v= .bool false:=by
 refine Wj func137 ntmps137 ?_;have a:=Ext.refl w;repeat'(first|refine Wz ?_|(refine SW.st ((mA rfl rfl).eq (congrArg Value.bool (decide_eq_false (λh=>h rfl)))) rfl ?_))
 exact ah.aF rfl rfl ⟨_,rfl,a,rfl⟩
theorem Ef(x y:ByteArray)(w:World):aS prog 136 [.string x,.string y] w λv _=>v= .bool (cu x y):=by
 refine Wj func136 ntmps136 ?_;have b:=Ext.refl w;repeat'(first|refine Wz ?_|(refine Wc (FO _ _) λc a=>?_;have b:=b.trans a)|(refine SW.st (wN rfl rfl) rfl ?_))
 exact ah.aF rfl rfl ⟨_,rfl,b,rfl⟩
theorem xG(A:Option Addr)(n c:Nat)(l:List ByteArray)(x:ByteArray)(w:World)(f:Sl w 1 encStr A n l)(C:CX l)(K:n<=1000000000000000000):
 aS prog 66 [.slice A n c,.string x] w λv _=>∃b,v= .tuple #[Iv (jv l x:Int),.bool b]:=by
 refine Wj func66 ntmps66 ?_;have a:=Ext.refl w;have L:=f.base;have G:=f.len;refine Wz ?_
 refine CW.loop (λs:Nat×Nat=>[(0,.slice A n c),(1,.string x),(6,Iv (n:Int)),(7,Iv (s.1:Int)),(8,Iv (s.2:Int))])
  (λs m=>s.1<=s.2∧s.2<=n∧Ext w m∧(∀(k:Nat)(h:k<l.length),k<s.1->cu l[k] x=true)∧(∀(k:Nat)(h:k<l.length),s.2<=k->cu l[k] x=false)) (λs=>s.2-s.1) (0,n)
  ⟨rfl,rfl,rfl,rfl,rfl,trivial⟩ ⟨by omega,by omega,a,λk h h'=>by omega,λk h h'=>by omega⟩ ?_
 rintro⟨i,j⟩ m ⟨t,o,a,u,y⟩;simp only at t o u y⊢;by_cases H:i<j
 ·have B:(i+j) / 2<n:=Y;have p:=f.lt B;obtain⟨q,r⟩:=bq (cu (l[(i+j) / 2]) x)
  have D:∀m,aS prog 136 [.string (l[(i+j) / 2]),.string x] m λv _=>v= .bool q:=λm=>by
   have:=Ef (l[(i+j) / 2]) x m;rwa[r]at this
  cases q
  ·repeat'(first|refine Wz ?_|refine Wn a (f.one B Z) ?_|(refine Wc (D _) λE d=>?_;have a:=a.trans d)|(refine SW.st ((lJ Tryz.underlying3 lI Z).eq (congrArg (Value.int .u64) (wrap_u64 Y Y))) Z ?_)|(refine SW.st ((lJ lI Tryz.underlying3 Z).eq (congrArg (Value.int .i64) (jF Y Y))) Z ?_)|(refine SW.st (vW Z Z) Z ?_))
   refine ah.again (i,(i+j) / 2) ⟨Z,Z,Z,Z,congrArg (λz=>some (Iv z)) Y,trivial⟩ dD ⟨by simp only;omega,by simp only;omega,a,u,λk h h'=>?_⟩;simp only at h';by_cases e:k=(i+j) / 2
   ·subst e;exact r
   cases c:cu l[k] x
   ·rfl
   have:=lM (C ((i+j) / 2) k p h Y) c;rw[r]at this;cases this
  repeat'(first|refine Wz ?_|refine Wn a (f.one B Z) ?_|(refine Wc (D _) λE d=>?_;have a:=a.trans d)|(refine SW.st ((lJ Tryz.underlying3 lI Z).eq (congrArg (Value.int .u64) (wrap_u64 Y Y))) Z ?_)|(refine SW.st ((lJ lI Tryz.underlying3 Z).eq (congrArg (Value.int .i64) (jF Y Y))) Z ?_)|(refine SW.st (vW Z Z) Z ?_))
  refine ah.again ((i+j) / 2+1,j) ⟨Z,Z,Z,congrArg (λz=>some (Iv z)) Y,Z,trivial⟩ dD ⟨by simp only;omega,o,a,λk h h'=>?_,y⟩;simp only at h';by_cases e:k=(i+j) / 2
  ·subst e;exact r
  exact lM (C k ((i+j) / 2) h p Y) r
 obtain rfl:i=j:=Y;have I:jv l x=i:=BC Y (λj J h=>u j J h) (λh=>y i h Y);rw[I];by_cases g:i<n
 ·by_cases F:l[i]'(f.lt g)=x
  ·repeat'(first|refine Wz ?_|refine Wn a (f.one g Z) ?_|(refine SW.st ((jt Z Z).eq (congrArg Value.bool (decide_eq_true F))) Z ?_))
   exact ah.cf Z Z Z ⟨_,Z,a,_,Z⟩
  repeat'(first|refine Wz ?_|refine Wn a (f.one g Z) ?_|(refine Wc (FP _ _) λE d=>?_;have a:=a.trans d)|(refine SW.st ((jt Z Z).eq (congrArg Value.bool (decide_eq_false F))) Z ?_))
  exact ah.cf Z Z Z ⟨_,Z,a,_,Z⟩
 refine Wz ?_;exact ah.cf Z Z Z ⟨_,Z,a,_,Z⟩
theorem gg(r:cc)(s:aj)(n:ByteArray)(w:World)(E:mB w r s)(B:s.small):
 aS prog 101 [.agg (ar r).toArray,.string n] w λv _=>v=Iv (idxOf (c9 n) s.ab):=by
 refine Wj func101 ntmps101 ?_;refine Ww λm H b C a=>?_;obtain⟨cs,o⟩:=E.aV;obtain⟨I,J⟩:=o.len;have K:=B.aV;refine Wz ?_
 refine CW.loop (λk:Nat=>[(1,.string n),(2,Pt m),(5,Iv (k:Int))])
  (λk f=>k<=r.ab.n∧Ext w f∧ay f m 37 (ar r)∧∀(j:Nat)(c:j<s.ab.length),j<k->c9 n s.ab[j]=false) (λk=>r.ab.n-k) 0
  ⟨Z,Z,Z,trivial⟩ ⟨by omega,b,a,λj c h=>by omega⟩ ?_
 rintro i f ⟨F,b,a,q⟩;have L:=o.row.base;by_cases t:i<r.ab.n
 ·have x:i<cs.length:=Y;have g:i<s.ab.length:=Y;have d:=o.each.get i x g;have M:=(B.each _ (Pf g)).names;have N:=d.names.len;have y:=o.row.dp t (j:=0) (u:= .slice cs[i].Names.A cs[i].Names.n cs[i].Names.c) Z;refine Wz ?_
  refine CW.loop (λk:Nat=>[(1,.string n),(2,Pt m),(5,Iv (i:Int)),(6,Iv (k:Int))])
   (λk f=>k<=cs[i].Names.n∧Ext w f∧ay f m 37 (ar r)∧∀(j:Nat)(c:j<s.ab[i].Names.length),j<k->s.ab[i].Names[j]≠n) (λk=>cs[i].Names.n-k) 0
   ⟨Z,Z,Z,Z,trivial⟩ ⟨by omega,b,a,λj c h=>by omega⟩ ?_
  rintro k f ⟨F,b,a,D⟩;have G:=d.names.base;by_cases l:k<cs[i].Names.n
  ·have z:k<s.ab[i].Names.length:=Y;by_cases p:s.ab[i].Names[k]=n
   ·have A:c9 n s.ab[i]=true:=dx.2 (p▸Pf z);repeat'(first|refine Wz ?_|refine Wn b y ?_|refine Wn b (d.names.one l Z) ?_|(refine SW.st ((jt Z Z).eq (congrArg Value.bool (decide_eq_true p))) Z ?_))
    exact ah.aF Z Z ⟨_,Z,b,by rw[jA g A q]⟩
   repeat'(first|refine Wz ?_|refine Wn b y ?_|refine Wn b (d.names.one l Z) ?_|(refine SW.st ((jt Z Z).eq (congrArg Value.bool (decide_eq_false p))) Z ?_))
   exact ah.again (k+1) ⟨Z,Z,Z,Z,trivial⟩ Y ⟨by omega,b,a,λj c h=>by
    by_cases e:j=k
    ·subst e;exact p
    exact D j c Y⟩
  have A:c9 n s.ab[i]=false:=by
   cases e:c9 n s.ab[i]
   ·rfl
   obtain⟨j,c,e⟩:=Pg (dx.1 e);exact absurd e (D j c Y)
  repeat'(first|refine Wz ?_|refine Wn b y ?_)
  exact ah.again (i+1) ⟨Z,Z,Z,trivial⟩ Y ⟨by omega,b,a,λj c h=>by
   by_cases e:j=i
   ·subst e;exact A
   exact q j c Y⟩
 refine Wz ?_;exact ah.aF Z Z ⟨_,Z,b,by rw[(iv (λj c=>q j c Y)).1]⟩
theorem tF(r:cc)(s:aj)(n:ByteArray)(cpu:Int)(w:World)(y:mB w r s)(H:s.bU)(K:n.size<=140737488351232):
 aS prog 162 [.agg (ar r).toArray,.string n,Iv cpu] w (M1 w.heap.size s n cpu):=by
 refine tV func162 rfl ntmps162 rfl ?_;have I:=H.small;refine CW.seq (CW.region (SW.box rfl rfl λO z a J d=>?_));refine SW.alloc rfl λP Q A o b=>?_;have f:=a.up o;obtain⟨a,d⟩:=bk A a d;obtain⟨q,i⟩:=bq (ef s)
 have l:∀h,Ext w h->aS prog 61 [.agg (ar r).toArray] h λv _=>v=Iv (if q then 0 else 8):=λh B=>by
  have:=lj r s h (y.ext B) H;rwa[i]at this
 cases q
 ·simp only[Bool.false_eq_true,if_false]at l;repeat'(first|refine Wz ?_|(refine Wc (l _ a) λz c=>?_;obtain⟨a,d,b⟩:=aY c a d b))
  refine SW.dY b Z Z Z Z (aB .zero) λC e j=>?_;have a:=a.own f j;refine Wz ?_;exact ah.cb Z Z Z Z e Z ⟨_,Z,a,.inl ⟨by rw[F3 i];decide,by rw[F3 i];rfl⟩⟩
 simp only[if_true]at l;obtain⟨t,m⟩:=bq (s.ab.any (c9 n));obtain⟨D,p⟩:=bq (idxOf (c9 n) s.ab)
 have E:∀h,Ext w h->aS prog 63 [.agg (ar r).toArray,.string n] h λv _=>v= .tuple #[Iv D,.bool t]:=λh B=>by
  have:=BE r s n h (y.ext B) I;rwa[m,p]at this
 cases t
 ·repeat'(first|refine Wz ?_|(refine CW.bQ Z ?_)|((first|refine Wk (l _ a) ?_|refine Wk (E _ a) ?_);intro v z c k;subst k;obtain⟨a,d,b⟩:=aY c a d b))
  refine SW.dY b Z Z Z Z (aB .zero) λC e j=>?_;have a:=a.own f j;refine Wz ?_;exact ah.cb Z Z Z Z e Z ⟨_,Z,a,.inl ⟨by rw[F4 i m];decide,by rw[F4 i m];rfl⟩⟩
 have L:=y.heap.cpus;by_cases F:0<=cpu∧cpu<s.Heap.bl
 ·repeat'(first|refine Wz ?_|(refine CW.bo Z ?_)|((first|refine Wk (l _ a) ?_|refine Wk (E _ a) ?_);intro v z c k;subst k;obtain⟨a,d,b⟩:=aY c a d b))
  all_goals try omega
  refine Wk (lm r s _ (y.ext a) I) λv R G k=>?_;obtain⟨q,M,rfl,u,x⟩:=k;have u:=u.low a.size;have x:=x.low a.size;obtain⟨a,b⟩:=bk G a b;refine Wz ?_;refine SW.dY b Z Z Z Z (aB q) λC e j=>?_;have N:=b.gr j;have a:=a.own f j;obtain⟨u,x⟩:=bk N u x;refine Wz ?_;exact ah.cb Z Z Z Z e Z ⟨_,Z,a,.inr ⟨F6 i m F,q,M,by rw[p];rfl,u,x⟩⟩
 rcases(show cpu<0∨(0<=cpu∧s.Heap.bl<=cpu)by omega)with g|g
 all_goals
  repeat'(first|refine Wz ?_|(refine CW.bo Z ?_)|((first|refine Wk (l _ a) ?_|refine Wk (E _ a) ?_);intro v z c k;subst k;obtain⟨a,d,b⟩:=aY c a d b))
  all_goals try omega
  refine SW.dY b Z Z Z Z (aB .zero) λC e j=>?_;have a:=a.own f j;refine Wz ?_;exact ah.cb Z Z Z Z e Z ⟨_,Z,a,.inl ⟨by rw[F5 i m F];decide,by rw[F5 i m F];rfl⟩⟩
theorem kR(r:cc)(s:aj)(n:ByteArray)(cpu:Int)(w:World)(o:mB w r s)(u:s.bU):
 aS prog 117 [.agg (ar r).toArray,.string n,Iv cpu] w λv _=>v=Iv (ga s n cpu):=by
 refine Wj func117 ntmps117 ?_;have z:=u.small;refine Ww λA j b x c=>?_;obtain⟨q,g⟩:=bq (ef s)
 have k:∀d,Ext w d->aS prog 99 [.agg (ar r).toArray] d λv _=>v= .bool q:=λd p=>by
  have:=oC r s d (o.ext p) u;rwa[g]at this
 cases q
 ·repeat'(first|refine Wz ?_|(refine CW.bQ Z ?_)|(refine Wc (k _ b) λj a=>?_;obtain⟨b,c⟩:=bk a b c))
  exact ah.aF Z Z ⟨_,Z,b,by rw[F3 g]⟩
 have B:=(dg.1 g).heap.cpus;obtain⟨l,h⟩:=bq (idxOf (c9 n) s.ab);have f:=iN (c9 n) s.ab;rw[h]at f
 have t:∀d,Ext w d->aS prog 101 [.agg (ar r).toArray,.string n] d λv _=>v=Iv l:=λd p=>by
  have:=gg r s n d (o.ext p) z;rwa[h]at this
 have C:=o.heap.cpus;by_cases e:0<=l
 ·have m:s.ab.any (c9 n)=true:=by rw[<-f];exact decide_eq_true e
  by_cases y:0<=cpu∧cpu<s.Heap.bl
  ·repeat'(first|refine Wz ?_|(refine CW.bo Z ?_)|((first|refine Wk (k _ b) ?_|refine Wk (t _ b) ?_|refine Wk (bE _ _ _ _) ?_);intro v j a i;subst i;obtain⟨b,c⟩:=bk a b c))
   all_goals try omega
   exact ah.aF Z Z ⟨_,Z,b,by rw[F6 g m y]⟩
  repeat'(first|refine Wz ?_|(refine CW.bo Z ?_)|((first|refine Wk (k _ b) ?_|refine Wk (t _ b) ?_|refine Wk (bE _ _ _ _) ?_);intro v j a i;subst i;obtain⟨b,c⟩:=bk a b c))
  all_goals try omega
  exact ah.aF Z Z ⟨_,Z,b,by rw[F5 g m y]⟩
 have m:s.ab.any (c9 n)=false:=by rw[<-f];exact decide_eq_false e
 repeat'(first|refine Wz ?_|(refine CW.bo Z ?_)|((first|refine Wk (k _ b) ?_|refine Wk (t _ b) ?_);intro v j a i;subst i;obtain⟨b,c⟩:=bk a b c))
 all_goals try omega
 exact ah.aF Z Z ⟨_,Z,b,by rw[F4 g m]⟩
variable {n:ByteArray} {s:aj} {i k:Nat}
structure Sh(wb w w':World)(b:Nat)(r:cc)(H:fB)(s:aj)(i:Nat)(p:Heap×aO)(cs:List da):Prop where
 ext:Ext wb w'
 dm:ay w' b 37 (ar ⟨r.Words,H,r.ab⟩)
 sx:SX w' wb.heap.size ⟨r.Words,H,r.ab⟩ (aZ s i p) cs
 kp:∀j x,j≠b->ay w j 37 x->ay w' j 37 x
theorem vt(y d:World)(b:Nat)(r:cc)(s:aj)(cs:List da)(i k:Nat)(p:Heap×aO)(cpu:Int)
 (f:Ext y d) (hb:ay d b 37 (ar r)) (L:y.heap.size<=b) (a:SX d y.heap.size r (aZ s i p) cs) (M:i<s.ab.length) (hn:s.ab.length<=1000000) (hk:k<p.2.ae.length) (W:Ha p.1) (X:C2 p.2):
 jX prog 169 [Pt b,Iv (i:Int),Iv (k:Int),Iv cpu] d λv w'=>v= .tuple #[]∧∃H cs',Sh y d w' b r H s i ((ee p.1 cpu p.2.ae[k].At).2,dA p.2 k) cs':=by
 refine c8 func169 rfl ntmps169 rfl ?_;obtain⟨e1,e2⟩:=a.rows;have m:i<cs.length:=Y;have n:i<r.ab.n:=Y;have za:=a.row.sl.base;have l:=a.get m M;have q1:=l.av.len;have q2:=X.small.av;have z:k<cs[i].ae.n:=Y;have zb:=l.av.sl.base;have A:=X.at_ _ (Pf hk);obtain⟨x,B⟩:=bq (p.2.ae[k]);have gA:=l.av.sl.dp z (j:=0) (show(bG (p.2.ae[k]'Y))[0]?=some (Iv x.At)by rw[B];rfl);rw[B]at A⊢;have e:=Ext.refl d;have N:∀j x,j≠b->ay d j 37 x->ay d j 37 x:=λ_ _ _ h=>h;refine Wz ?_;refine CW.iF 20 20 (λ_=>True) mixed bm λw1 C g=>?_;obtain⟨e,hb,a⟩:=aY C e hb a;refine Wf ?_;refine Wt 4 [] [] g Z (cv Z Z ((e7 hb))) ?_;refine Wf ?_;refine Wt 9 [] [] g Z (aJ Z (a.row.sl.dp n (j:=4) (u:= .slice cs[i].ae.A cs[i].ae.n cs[i].ae.c) Z)) ?_;refine Wf ?_;refine Wt 13 [] [] g Z (bX e Z gA) ?_;refine SF.bD 14 ?_;refine Wk (xQ r.Heap p.1 cpu x.At _ a.heap.rd W.small W.tz A) λv w4 D O=>?_;obtain⟨H,rfl,P⟩:=O;have P:=P.low (Pj f.size e.size);obtain⟨e,hb,a⟩:=aY D e hb a;refine SW.nil (ah.sf D ?_);refine Wf ?_;refine SF.gm 17 g Z bm bm Z (λ_=>aH Z) Z ?_;refine Wf ?_;refine SF.dQ ?_;refine SW.ib 1 hb Z Z Z (PE Z) (bw H) (ar ⟨r.Words,H,r.ab⟩) Z λQ R S=>?_;have hG:=hb.gr S;have f:=(f.trans e).own L S;have E:∀j x,j≠b->ay d j 37 x->ay Q j 37 x:=λj x F h=>(h.ext e).grown S (by simpa using F);have o:SX Q y.heap.size ⟨r.Words,H,r.ab⟩ (aZ s i ((ee p.1 cpu x.At).2,p.2)) cs:=(a.aQ hG Z).KB (P.aQ hG Z);have e:=Ext.refl Q;have l:=o.get m M;repeat'(first|refine Wz ?_|refine Wl (o.row.sl.dp n (j:=4) (u:= .slice cs[i].ae.A cs[i].ae.n cs[i].ae.c) Z) ?_)
 refine SW.cm Z Z (oZ dS _ _ _ y.heap.size _ _ l.av k z Y f.size) λv w6 O=>?_;obtain⟨rfl,T,q⟩:=O;have G:=l.av.gr q;have I:=o.C5 m M T q;have U:=R.aQ G Z;have f:=au f q (Ph _) l.av.az;have J:∀j x,j≠b->ay d j 37 x->ay w6 j 37 x:=λj x F h=>(E j x F h).aQ G Z;have c:=I.row;refine Wz ?_;refine SW.eY i 4 ⟨cs[i].Names,cs[i].ax,cs[i].bd,cs[i].Order,⟨cs[i].ae.A,cs[i].ae.n-1,cs[i].ae.c⟩,cs[i].ao⟩ c Z Z Z n ir Z Z λw7 t w=>?_;have K:=c.gr w;have V:=I.sw t w;have f:=au f w (Ph _) c.az;refine Wz ?_;exact ah.vG Z ⟨_,Z,Z,H,_,f,U.aQ K Z,V,λj x F h=>(J j x F h).aQ K Z⟩
theorem Cc{l:List Int}(a:k<l.length):(List.replicate k (-1)++l.drop k).set k (-1)=List.replicate (k+1) (-1)++l.drop (k+1):=by
 rw[Qu a,QH _ _ fy,QK,Qy,List.set_cons_zero,QQ];simp
theorem zZ(o A:World)(b:Nat)(r:cc)(s:aj)(cs:List da)(i:Nat)(hf:s.bU)
 (g:Ext o A) (hb:ay A b 37 (ar r)) (U:o.heap.size<=b) (a:SX A o.heap.size r s cs) (J:SI A o.heap.size r s cs) (E:i<s.ab.length) (hn:s.ab.length<=1000000):
 jX prog 165 [Pt b,Iv (i:Int)] A λv f=>v= .tuple #[]∧∃H cs',Sh o A f b r H s i (di s.ab[i].ae.length (s.Heap,gR s.ab[i])) cs':=by
 refine c8 func165 rfl ntmps165 rfl ?_;have G:=hf.Lu;have p:=hf.ID E;have e0:=jk E;obtain⟨c,hc⟩:=bq (s.ab[i]);rw[hc]at p e0⊢;rw[<-e0]at a J;obtain⟨e1,e2⟩:=a.rows;have B:i<cs.length:=Y;have l:i<r.ab.n:=Y;have M:=a.row.sl.base;have d:=a.get B E;have V:=d.aD.len;have q2:=p.small.aD;have q3:=d.av.len;have q4:=p.small.av;have C:=d.aD.sl.base;obtain⟨u,L⟩:=bq (cs[i]);rw[L]at d V q3 C;have m:=Ext.refl A;simp only at d V q3;have S:=a.row.sl.dp l (j:=5) (show(cr cs[i])[5]?=some (Value.slice u.ao.A u.ao.n u.ao.c)by rw[L];rfl);repeat'(first|refine Wz ?_|refine Wl S ?_)
 obtain⟨K,hK⟩:∃K:Env->World->Prop,K=λL' f=>eA L' [(0,Pt b),(1,Iv (i:Int)),(4,.pointer (some ((r.ab.A.getD default).add (i*6))))]∧Ext o f∧ay f b 37 (ar r)∧SX f o.heap.size r (aZ s i (s.Heap,gR c)) cs∧(∀j x,ay A j 37 x->ay f j 37 x):=⟨_,Z⟩;refine CW.vE K ?_ ?_
 ·refine CW.loop (λk:Nat=>[(0,Pt b),(1,Iv (i:Int)),(4,.pointer (some ((r.ab.A.getD default).add (i*6)))),(17,Iv (u.ao.n:Int)),(18,Iv (k:Int))])
   (λk f=>k<=u.ao.n∧Ext o f∧ay f b 37 (ar r)∧SX f o.heap.size r (aZ s i (s.Heap,⟨c.Names,c.ax,c.bd,c.Order,c.ae,List.replicate k (-1)++c.ao.drop k⟩)) cs∧SI f o.heap.size r (aZ s i (s.Heap,⟨c.Names,c.ax,c.bd,c.Order,c.ae,List.replicate k (-1)++c.ao.drop k⟩)) cs∧(∀j x,ay A j 37 x->ay f j 37 x)) (λk=>u.ao.n-k) 0
   ⟨Z,Z,Z,Z,Z,trivial⟩ ⟨by omega,g,hb,by simpa using a,by simpa using J,λ_ _ h=>h⟩ ?_
  rintro k N ⟨hk,g,hb,a,J,e⟩;have m:=Ext.refl N;have d:=a.get B E;rw[L]at d;have C:=d.aD.sl.base;by_cases I:k<u.ao.n
  ·have S:=a.row.sl.dp l (j:=5) (show(cr cs[i])[5]?=some (Value.slice u.ao.A u.ao.n u.ao.c)by rw[L];rfl);repeat'(first|refine Wz ?_|refine Wl S ?_)
   refine SW.j3 k d.aD Z Z I λw2 W X=>?_;have hG:=d.aD.gr X;simp only at W;rw[Cc Y]at W;have O:=a.EC J B E (by rw[L];exact W) (by rw[L];exact X);have g:=au g X (Ph _) d.aD.az;have hb:=hb.aQ hG Z;refine Wz ?_;exact ah.again (k+1) ⟨Z,Z,Z,Z,Z,trivial⟩ Y ⟨by omega,g,hb,O.1,O.2,λj x h=>(e j x h).aQ hG Z⟩
  obtain rfl:k=u.ao.n:=Y;refine Wz ?_;refine ah.fW ?_;rw[hK];refine⟨⟨Z,Z,Z,trivial⟩,g,hb,?_,e⟩
  have e3:List.replicate u.ao.n (-1)++c.ao.drop u.ao.n=List.replicate c.ao.length (-1):=by
   rw[V,List.drop_of_length_le Y,QM]
  rw[e3]at a;exact a
 subst hK;rintro L' N ⟨F,g,hb,a,e⟩;refine ah.sub F ?_;have d:=a.get B E;have m:=Ext.refl N;have q5:=d.av.len;have q6:(gR c).ae=c.ae:=Z;rw[q6]at q5;repeat'(first|refine Wz ?_|refine Wl (a.row.sl.dp l (j:=4) (u:= .slice cs[i].ae.A cs[i].ae.n cs[i].ae.c) Z) ?_)
 have h3:=p.idle
 refine CW.loop (λt:Nat×fB×List da×Heap×aO=>[(0,Pt b),(1,Iv (i:Int)),(4,.pointer (some ((r.ab.A.getD default).add (i*6)))),(6,Iv ((t.1:Int)-1))])
  (λt f=>t.1<=t.2.2.2.2.ae.length∧Ext o f∧ay f b 37 (ar ⟨r.Words,t.2.1,r.ab⟩)∧SX f o.heap.size ⟨r.Words,t.2.1,r.ab⟩ (aZ s i t.2.2.2) t.2.2.1∧Ha t.2.2.2.1∧C2 t.2.2.2.2∧di c.ae.length (s.Heap,gR c)=di t.1 t.2.2.2∧(∀j x,j≠b->ay A j 37 x->ay f j 37 x)) (λt=>t.1) (c.ae.length,r.Heap,cs,s.Heap,gR c)
  ?_ ⟨Ph _,g,hb,a,G,h3,Z,λj x _ h=>e j x h⟩ ?_
 ·exact⟨Z,Z,Z,congrArg (λz=>some (Iv z)) (show((cs[i].ae.n:Nat):Int)-1=((c.ae.length:Nat):Int)-1 by omega),trivial⟩
 rintro⟨k,H,cs',h,c'⟩ w2 ⟨hk,g,hb,a,G,p,n,e⟩;simp only at hk hb a G p n⊢;have m:=Ext.refl w2;obtain⟨e3,e4⟩:=a.rows;have P:i<cs'.length:=Y;have d:=a.get P E;have q7:=d.av.len;have q8:=p.small.av;have q9:=d.per;have zb:=d.av.sl.base;have M:=a.row.sl.base;simp only at d q7 q8 q9 M;cases k with
 | zero=>
   refine Wz ?_;exact ah.vG Z ⟨_,Z,Z,H,cs',g,hb,by rw[n];exact a,e⟩
 | succ k=>
   have ek:((k+1:Nat):Int)-1=(k:Int):=Y;rw[ek];have D:k<c'.ae.length:=Y;have I:k<cs'[i].ae.n:=Y;obtain⟨y,Q⟩:=bq (c'.ae[k]);have gF:=d.av.sl.dp I (j:=1) (show(bG (c'.ae[k]'Y))[1]?=some (Iv y.ai)by rw[Q];rfl);by_cases q:y.ai=c'.bd
   ·repeat'(first|refine Wz ?_|refine fq ?_|refine Wl (a.row.sl.dp l (j:=4) (u:= .slice cs'[i].ae.A cs'[i].ae.n cs'[i].ae.c) Z) ?_|refine Wl (a.row.sl.dp l (j:=2) (u:=Iv cs'[i].bd) Z) ?_|refine Wl gF ?_|(refine SW.br λN w=>?_;obtain⟨m,hb,a⟩:=aY w m hb a))
    all_goals try omega
    refine SW.cm Z Z (vt o _ b ⟨r.Words,H,r.ab⟩ s cs' i k (h,c') 0 (g.trans m) hb U a E hn D G p) λv w3 hv=>?_;obtain⟨rfl,H',za,R⟩:=hv;rw[Q]at R;refine Wz ?_;refine ah.again (k,H',za,(ee h 0 y.At).2,dA c' k) ⟨Z,Z,Z,Z,trivial⟩ dD ⟨?_,R.ext,R.dm,R.sx,G.free _ _,p.cut _,?_,λj x T hB=>R.kp j x T ((e j x T hB).ext m)⟩
    ·simp only[dA];rw[P9 D];omega
    rw[n,nK D (by rw[Q];exact q),Q]
   repeat'(first|refine Wz ?_|refine fq ?_|refine Wl (a.row.sl.dp l (j:=4) (u:= .slice cs'[i].ae.A cs'[i].ae.n cs'[i].ae.c) Z) ?_|refine Wl (a.row.sl.dp l (j:=2) (u:=Iv cs'[i].bd) Z) ?_|refine Wl gF ?_|(refine SW.br λN w=>?_;obtain⟨m,hb,a⟩:=aY w m hb a))
   all_goals try omega
   refine ah.again (k,H,cs',h,c') ⟨Z,Z,Z,congrArg (λz=>some (Iv z)) Y,trivial⟩ dD ⟨by simp only;omega,g.trans m,hb,a,G,p,?_,λj x T hB=>(e j x T hB).ext m⟩;rw[n,mm D (by rw[Q];exact q)]
noncomputable def jI(s:aj)(n:ByteArray):aj×Int:=if ga s n 0=0 then(if h:(idxOf (c9 n) s.ab).toNat<s.ab.length then(aZ s (idxOf (c9 n) s.ab).toNat (di s.ab[(idxOf (c9 n) s.ab).toNat].ae.length (s.Heap,gR s.ab[(idxOf (c9 n) s.ab).toNat])),0)else(.zero,0))else(.zero,ga s n 0)
theorem pA(h:ga s n 0=0)(a:i<s.ab.length)(e:idxOf (c9 n) s.ab=(i:Int)):jI s n=(aZ s i (di s.ab[i].ae.length (s.Heap,gR s.ab[i])),0):=by
 simp_all[idxOf,c9,jI]
theorem sC(h:ga s n 0≠0):jI s n=(.zero,ga s n 0):=by unfold jI<;>grind
theorem Gg(r:cc)(s:aj)(n:ByteArray)(w:World)(J:mB w r s)(C:s.bU)(x:n.size<=140737488351232):
 aS prog 82 [.agg (ar r).toArray,.string n] w λv K=>cK w.heap.size (jI s n) v K:=by
 refine Wj func82 ntmps82 ?_;refine Ww λD Q b h c=>?_;refine SW.alloc Z λL R y j a=>?_;have E:=b.up j;have z:L≠D:=by have:=c.lt;omega
 obtain⟨b,c⟩:=bk y b c;refine Wz ?_;refine Wk (tF r s n 0 _ (J.ext b) C x) λv S A B=>?_;have k:=b.size;obtain⟨b,c,a⟩:=aY A b c a;rcases B with⟨l,rfl⟩|⟨l,q,cs,rfl,m,o⟩
 ·obtain⟨e,F⟩:=bq (ga s n 0);have t:=sC l;rw[F]at l t;rw[F];refine Wz ?_;refine Wh c (aB .zero) λM g G=>?_;obtain⟨a,b⟩:=bk g a b;refine Wz ?_;all_goals try omega
  refine Wh a (aB .zero) λN g d=>?_;have b:=jc g b;refine Wz ?_;exact ah.a9 Z Z Z d Z ⟨_,Z,b,by rw[t];exact cK.zero e _ _⟩
 have m:=m.low k;have o:=o.low k;obtain⟨O,P,_⟩:=jj l;obtain⟨i,I,_,_,p⟩:=eK P;have t:=pA l I p;have T:=(dg.1 O).most;rw[p];refine Wz ?_;refine Wh c (aB q) λM g c=>?_;obtain⟨a,b,m,o⟩:=cG g a b m o;refine Wz ?_;refine SW.cm Z Z (zZ w _ D q s cs i C b c h m o I Y) λv N B=>?_;obtain⟨rfl,H,cs',u⟩:=B;have b:=u.ext;have a:=u.kp _ _ z a;have hb:=u.dm;have f:=u.sx;refine Wz ?_;refine Wh a (aB ⟨q.Words,H,q.ab⟩) λU g d=>?_;obtain⟨b,f⟩:=bk g b f;refine Wz ?_;exact ah.a9 Z Z Z d Z ⟨_,Z,b,by rw[t];exact⟨_,Z,f.nb⟩⟩
variable {j:Nat}
theorem oc{l:List α}(a:j<l.length)(h:j≠k):(l.take (j+1)).eraseIdx k=(l.take j).eraseIdx k++[l[j]]:=by
 rw[Pk a];grind[List.take_succ_eq_append_getElem,Nat.lt_or_gt_of_ne,List.eraseIdx_of_length_le,List.eraseIdx_append_of_lt_length]
theorem od{l:List α}(a:k<l.length):(l.take (k+1)).eraseIdx k=(l.take k).eraseIdx k:=by
 have e:(l.take k).length=k:=by grind
 have b:(l.take k).eraseIdx k=l.take k:=List.eraseIdx_of_length_le Y;rw[b,Pk a,List.eraseIdx_append_of_length_le Y,e,Qy];simp
theorem tR(wb P:World)(r:cc)(s:aj)(cs:List da)(i k:Nat)(p:Heap×aO)(cpu:Int)
 (hx:Ext wb P) (f:SX P wb.heap.size r (aZ s i p) cs) (hi:i<s.ab.length) (hn:s.ab.length<=1000000) (hk:k<p.2.ae.length) (h1:Ha p.1) (h2:C2 p.2):
 jX prog 122 [.agg (ar r).toArray,Iv (i:Int),Iv (k:Int),Iv cpu] P λv N=>∃H cs',v= .agg (ar ⟨r.Words,H,r.ab⟩).toArray∧Ext wb N∧SX N wb.heap.size ⟨r.Words,H,r.ab⟩ (aZ s i ((ee p.1 cpu p.2.ae[k].At).2,dA p.2 k)) cs'∧P.grownBy N (aN r.ab.A r.ab.c):=by
 refine c8 func122 rfl ntmps122 rfl ?_;refine Ww λb4 w1 a Q d=>?_;refine SW.alloc Z λb8 w3 zf R h=>?_;have F:=a.up R;have I:b4≠b8:=by have:=d.lt;omega
 obtain⟨a,d⟩:=bk zf a d;obtain⟨e1,e2⟩:=f.rows;have S:i<cs.length:=Y;have T:i<r.ab.n:=Y;have zp:=f.row.sl.base;have O:=f.get S hi;have q1:=O.av.len;have q2:=h2.small.av;have U:k<cs[i].ae.n:=Y;have zg:=O.av.sl.base;have J:=h2.at_ _ (Pf hk);obtain⟨x,V⟩:=bq (p.2.ae[k]);have gA:=O.av.sl.dp U (j:=0) (show(bG (p.2.ae[k]'Y))[0]?=some (Iv x.At)by rw[V];rfl);rw[V]at J⊢;obtain⟨u,hu⟩:=bq (cs[i]);have gS:=f.row.sl.dp T (j:=4) (show(cr cs[i])[4]?=some (Value.slice u.ae.A u.ae.n u.ae.c)by rw[hu];rfl);rw[hu]at O q1 U zg gA;try simp only at O q1
 have zh:=O.av.sl;have zq:=f;have f:=f.ext a;refine Wz ?_
 focus
  refine CW.iF 18 19 (λ_=>True) mixed bm λw1 W y=>?_;obtain⟨a,d,h,f⟩:=cG W a d h f;refine Wf ?_;refine Wt 1 [] [] y Z (cv Z Z ((e7 d))) ?_;refine Wf ?_;refine Wt 8 [] [] y Z (bX a Z gS) ?_;refine Wf ?_;refine Wt 12 [] [] y Z (bX a Z gA) ?_;refine SF.two 13 17 Z Z bm Z Z ?_ ?_
  focus
   refine Wk (ml r.Heap p.1 cpu x.At _ f.heap.rd h1.small h1.tz J) λv w4 l hv=>?_;obtain⟨H,rfl,q⟩:=hv;have q:=q.low a.size;obtain⟨a,d,h,f⟩:=cG l a d h f;try have n:=n.ext l
   refine SW.nil (ah.sf l ?_);refine Wf ?_;refine Wi 16 [] y Z (aH Z) (λw2 f=>aH Z) ?_;refine SF.bD 17 ?_;refine SW.alloc Z λb9 w4 l z n=>?_;have X:=a.up z;try have q:=q.ext l
   obtain⟨a,d,h,f⟩:=cG l a d h f;refine SW.nil (ah.sf l ?_);refine SF.eW ?_;refine Wh n (bw H) λw5 g n=>?_;obtain⟨a,d,h,q,f⟩:=dz g a d h q f;have K:=f;have f:True:=trivial;refine SW.nil (ah.sg f ?_)
  rotate_left
  focus
   refine SW.alloc Z λb9 w4 l z n=>?_;have X:=a.up z;try have q:=q.ext l
   obtain⟨a,d,h,f⟩:=cG l a d h f;refine SW.nil (ah.sf l ?_);refine SF.bD 13 ?_;refine Wk (ml r.Heap p.1 cpu x.At _ f.heap.rd h1.small h1.tz J) λv w4 l hv=>?_;obtain⟨H,rfl,q⟩:=hv;have q:=q.low a.size;obtain⟨a,d,h,f⟩:=cG l a d h f;try have n:=n.ext l
   refine SW.nil (ah.sf l ?_);refine Wf ?_;refine Wi 16 [] y Z (aH Z) (λw2 f=>aH Z) ?_;refine SF.eW ?_;refine Wh n (bw H) λw5 g n=>?_;obtain⟨a,d,h,q,f⟩:=dz g a d h q f;have K:=f;have f:True:=trivial;refine SW.nil (ah.sg f ?_)
  rotate_left
  all_goals
   refine SG.dQ ?_;have f:=K;refine Wz ?_;refine SW.ib 1 d Z Z Z (PE Z) (bw H) (ar ⟨r.Words,H,r.ab⟩) Z λw6 o D=>?_;have hG:=d.gr D;have h:=h.grown D (by simpa using I.symm);have a:=a.own Q D;obtain⟨q,f⟩:=bk hG q f;have d:=o;refine Wz ?_;have B:Ext P w6:=a
   refine CW.loop (λt:Nat×Nat×Option Addr×Nat=>[(1,Iv (i:Int)),(2,Iv (k:Int)),(4,Pt b4),(8,Pt b8),(11,.slice t.2.2.1 t.2.1 t.2.2.2),(12,Iv (t.1:Int))])
    (λt N=>t.1<=u.ae.n∧t.2.1<=t.1∧Ext w6 N∧Own N w6.heap.size 60 3 bG t.2.2.1 t.2.1 t.2.2.2 ((p.2.ae.take t.1).eraseIdx k)) (λt=>u.ae.n-t.1) (0,0,none,0) ⟨Z,Z,Z,Z,Z,Z,trivial⟩ ⟨PL _,PL _,Ext.refl _,by simpa using Own.cq _ _ _ _ _ _⟩ ?_
   rintro⟨j,m,A,c⟩ w7 ⟨hj,hm,a,G⟩;simp only at hj hm G⊢;have gC:=d.cell (i:=6) (v:= .slice r.ab.A r.ab.n r.ab.c) Z;have L:=B.cell gS;have za:=zh.ext B;by_cases zi:j<u.ae.n
   ·have zb:j<p.2.ae.length:=Y;by_cases zc:j=k
    ·subst zc;repeat'(first|refine Wz ?_|refine Wn a gC ?_|refine Wn a L ?_)
     refine ah.again (j+1,m,A,c) ⟨Z,Z,Z,Z,Z,Z,trivial⟩ dD ⟨by simp only;omega,by simp only;omega,a,?_⟩;simp only;rw[od zb];exact G
    repeat'(first|refine Wz ?_|refine Wn a gC ?_|refine Wn a L ?_|refine Wo a ((za.all zi)) ?_)
    refine SW.bz Z Z Z Z Z λb w8 l hb zj=>?_;obtain⟨a,G⟩:=bk l a G;refine SW.append G (ay.la (enc:=bG) zj) a.size Z Z Z Y Y λA2 c2 w9 zk D=>?_;have a:=au a D (Ph _) G.az;refine Wz ?_;refine ah.again (j+1,m+1,A2,c2) ⟨Z,Z,Z,Z,Z,Z,trivial⟩ dD ⟨by simp only;omega,by simp only;omega,a,?_⟩;simp only;rw[oc zb zc];exact zk
   obtain rfl:j=u.ae.n:=Y;rw[Pl Y]at G;repeat'(first|refine Wz ?_|refine Wn a gC ?_|refine Wn a L ?_)
   have zd:=(f.KB (q.low hx.size)).sy (Pj hx.size B.size) S hi a G;have C:=zd.row;have o:=d.ext a;have w:=h.ext a;refine SW.eY i 4 ⟨cs[i].Names,cs[i].ax,cs[i].bd,cs[i].Order,⟨A,m,c⟩,cs[i].ao⟩ C Z Z Z T ir Z Z λzr M E=>?_;have zl:=C.gr E;have zm:=zd.sw M E;have zn:=(B.trans a).gr (aN r.ab.A r.ab.c);have ze:=cU zn E (.inl Z);obtain⟨o,w⟩:=bk zl o w;refine Wz ?_;refine Wg w (aB ⟨r.Words,H,r.ab⟩) λzs zo D=>?_;have hG:=w.gr D;refine Wz ?_;refine ah.nu Z Z zo Z ⟨_,Z,H,_,Z,?_,zm.aQ hG Z,?_⟩
   ·exact(au (hx.trans (B.trans a)) E (Ph _) C.az).own (Pj hx.size F) D
   exact cU ze D (.inr λi e=>by cases e;exact F)
theorem AE(o B:World)(r:cc)(s:aj)(cs:List da)(i:Nat)(hf:s.bU)
 (l:Ext o B) (d:SX B o.heap.size r s cs) (G:SI B o.heap.size r s cs) (I:i<s.ab.length) (hn:s.ab.length<=1000000):
 jX prog 118 [.agg (ar r).toArray,Iv (i:Int)] B λv f=>∃H cs',v= .agg (ar ⟨r.Words,H,r.ab⟩).toArray∧Ext o f∧SX f o.heap.size ⟨r.Words,H,r.ab⟩ (aZ s i (di s.ab[i].ae.length (s.Heap,gR s.ab[i]))) cs'∧(∀j x,ay B j 37 x->ay f j 37 x):=by
 refine c8 func118 rfl ntmps118 rfl ?_;refine Ww λJ R m S a=>?_;refine SW.alloc Z λL w3 ze T b=>?_;have U:=m.up T;have zk:L≠J:=by have:=a.lt;omega
 obtain⟨m,a⟩:=bk ze m a;have N:=hf.Lu;have q:=hf.ID I;have e0:=jk I;obtain⟨c,hc⟩:=bq (s.ab[i]);rw[hc]at q e0⊢;rw[<-e0]at d G;obtain⟨e1,e2⟩:=d.rows;have C:i<cs.length:=Y;have D:i<r.ab.n:=Y;have V:=d.row.sl.base;have n:=d.get C I;have q1:=n.aD.len;have q2:=q.small.aD;have q3:=n.av.len;have q4:=q.small.av;obtain⟨u,W⟩:=bq (cs[i]);rw[W]at n q1 q3;simp only at q1 q3;obtain⟨d,G⟩:=bk m d G;have zi:o.heap.size<=J:=Pj l.size S;have zj:o.heap.size<=L:=Pj l.size U;have l:=l.trans m;have e:∀j x,ay B j 37 x->ay w3 j 37 x:=λj x h=>h.ext m;refine Wz ?_;obtain⟨K,hK⟩:∃K:Env->World->Prop,K=λL' f=>eA L' [(1,Iv (i:Int)),(2,Pt J),(4,Pt L)]∧Ext o f∧ay f J 37 (ar r)∧ay f L 37 (ar .zero)∧SX f o.heap.size r (aZ s i (s.Heap,gR c)) cs∧(∀j x,ay B j 37 x->ay f j 37 x):=⟨_,Z⟩;refine CW.vE K ?_ ?_
 ·refine CW.loop (λk:Nat=>[(1,Iv (i:Int)),(2,Pt J),(4,Pt L),(5,Iv (k:Int))])
   (λk f=>k<=u.ao.n∧Ext o f∧ay f J 37 (ar r)∧ay f L 37 (ar .zero)∧SX f o.heap.size r (aZ s i (s.Heap,⟨c.Names,c.ax,c.bd,c.Order,c.ae,List.replicate k (-1)++c.ao.drop k⟩)) cs∧SI f o.heap.size r (aZ s i (s.Heap,⟨c.Names,c.ax,c.bd,c.Order,c.ae,List.replicate k (-1)++c.ao.drop k⟩)) cs∧(∀j x,ay B j 37 x->ay f j 37 x)) (λk=>u.ao.n-k) 0
   ⟨Z,Z,Z,Z,trivial⟩ ⟨by omega,l,a,b,by simpa using d,by simpa using G,e⟩ ?_
  rintro k R ⟨hk,l,a,b,d,G,e⟩;have m:=Ext.refl R;have n:=d.get C I;rw[W]at n;have zl:=n.aD.sl.base;have X:=a.cell (i:=6) (v:= .slice r.ab.A r.ab.n r.ab.c) Z;have gS:=d.row.sl.dp D (j:=5) (show(cr cs[i])[5]?=some (Value.slice u.ao.A u.ao.n u.ao.c)by rw[W];rfl);by_cases O:k<u.ao.n
  ·repeat'(first|refine Wz ?_|refine Wl X ?_|refine Wl gS ?_)
   refine SW.j3 k n.aD Z Z O λw2 hO hg=>?_;have hG:=n.aD.gr hg;simp only at hO;rw[Cc Y]at hO;have za:=d.EC G C I (by rw[W];exact hO) (by rw[W];exact hg);have l:=au l hg (Ph _) n.aD.az;obtain⟨a,b⟩:=bk hG a b;refine Wz ?_;exact ah.again (k+1) ⟨Z,Z,Z,Z,trivial⟩ Y ⟨by omega,l,a,b,za.1,za.2,λj x h=>(e j x h).aQ hG Z⟩
  obtain rfl:k=u.ao.n:=Y;repeat'(first|refine Wz ?_|refine Wl X ?_|refine Wl gS ?_)
  refine ah.fW ?_;rw[hK];refine⟨⟨Z,Z,Z,trivial⟩,l,a,b,?_,e⟩
  have e3:List.replicate u.ao.n (-1)++c.ao.drop u.ao.n=List.replicate c.ao.length (-1):=by
   rw[q1,List.drop_of_length_le Y,QM]
  rw[e3]at d;exact d
 subst hK;rintro L' R ⟨M,l,a,b,d,e⟩;refine ah.sub M ?_;have n:=d.get C I;have m:=Ext.refl R;have q5:=n.av.len;have q6:(gR c).ae=c.ae:=Z;rw[q6]at q5;repeat'(first|refine Wz ?_|refine Wl (d.row.sl.dp D (j:=4) (u:= .slice cs[i].ae.A cs[i].ae.n cs[i].ae.c) Z) ?_)
 have h3:=q.idle
 refine CW.loop (λt:Nat×fB×List da×Heap×aO=>[(1,Iv (i:Int)),(2,Pt J),(4,Pt L),(6,Iv ((t.1:Int)-1))])
  (λt f=>t.1<=t.2.2.2.2.ae.length∧Ext o f∧ay f J 37 (ar ⟨r.Words,t.2.1,r.ab⟩)∧ay f L 37 (ar .zero)∧SX f o.heap.size ⟨r.Words,t.2.1,r.ab⟩ (aZ s i t.2.2.2) t.2.2.1∧Ha t.2.2.2.1∧C2 t.2.2.2.2∧di c.ae.length (s.Heap,gR c)=di t.1 t.2.2.2∧(∀j x,ay B j 37 x->ay f j 37 x)) (λt=>t.1) (c.ae.length,r.Heap,cs,s.Heap,gR c)
  ?_ ⟨Ph _,l,a,b,d,N,h3,Z,e⟩ ?_
 ·exact⟨Z,Z,Z,congrArg (λz=>some (Iv z)) (show((cs[i].ae.n:Nat):Int)-1=((c.ae.length:Nat):Int)-1 by omega),trivial⟩
 rintro⟨k,H,cs',h,c'⟩ w2 ⟨hk,l,a,b,d,N,q,p,e⟩;simp only at hk a d N q p⊢;have m:=Ext.refl w2;obtain⟨e3,e4⟩:=d.rows;have zb:i<cs'.length:=Y;have n:=d.get zb I;have q7:=n.av.len;have q8:=q.small.av;have q9:=n.per;have zm:=n.av.sl.base;have V:=d.row.sl.base;simp only at n q7 q8 q9 V;have X:=a.cell (i:=6) (v:= .slice r.ab.A r.ab.n r.ab.c) Z;cases k with
 | zero=>
   refine Wz ?_;refine Wh b (aB ⟨r.Words,H,r.ab⟩) λw7 g zf=>?_;obtain⟨l,d⟩:=bk g l d;refine Wz ?_;exact ah.nu Z Z zf Z ⟨_,Z,H,cs',Z,l,by rw[p];exact d,λj x P=>(e j x P).grown g.g (by have:=P.lt;simp;omega)⟩
 | succ k=>
   have ek:((k+1:Nat):Int)-1=(k:Int):=Y;rw[ek];have E:k<c'.ae.length:=Y;have O:k<cs'[i].ae.n:=Y;obtain⟨y,hy⟩:=bq (c'.ae[k]);have gF:=n.av.sl.dp O (j:=1) (show(bG (c'.ae[k]'Y))[1]?=some (Iv y.ai)by rw[hy];rfl);have gS:=d.row.sl.dp D (j:=4) (u:= .slice cs'[i].ae.A cs'[i].ae.n cs'[i].ae.c) Z;have gP:=d.row.sl.dp D (j:=2) (u:=Iv cs'[i].bd) Z;by_cases w:y.ai=c'.bd
   ·repeat'(first|refine Wz ?_|refine fq ?_|refine Wl X ?_|refine Wl gS ?_|refine Wl gP ?_|refine Wl gF ?_|(refine SW.br λR A=>?_;obtain⟨m,a,b,d⟩:=cG A m a b d))
    all_goals try omega
    refine SW.cm Z Z (tR o _ ⟨r.Words,H,r.ab⟩ s cs' i k (h,c') 0 (l.trans m) d I hn E N q) λv w3 hv=>?_;obtain⟨H',zg,rfl,Q,F,zh⟩:=hv;have zc:=d.row.gr zh;rw[hy]at F;obtain⟨a,b⟩:=bk zc a b;skip;refine Wh a (aB ⟨r.Words,H',r.ab⟩) λw4 g zd=>?_;obtain⟨b,Q,F⟩:=aY g b Q F;refine Wz ?_;refine ah.again (k,H',zg,(ee h 0 y.At).2,dA c' k) ⟨Z,Z,Z,Z,trivial⟩ dD ⟨?_,Q,zd,b,F,N.free _ _,q.cut _,?_,λj x P=>(((e j x P).ext m).aQ zc Z).grown g.g (by have:=P.lt;simp;omega)⟩
    ·simp only[dA];rw[P9 E];omega
    rw[p,nK E (by rw[hy];exact w),hy]
   repeat'(first|refine Wz ?_|refine fq ?_|refine Wl X ?_|refine Wl gS ?_|refine Wl gP ?_|refine Wl gF ?_|(refine SW.br λR A=>?_;obtain⟨m,a,b,d⟩:=cG A m a b d))
   all_goals try omega
   refine ah.again (k,H,cs',h,c') ⟨Z,Z,Z,congrArg (λz=>some (Iv z)) Y,trivial⟩ dD ⟨by simp only;omega,l.trans m,a,b,d,N,q,?_,λj x P=>(e j x P).ext m⟩;rw[p,mm E (by rw[hy];exact w)]
theorem Dn(r:cc)(s:aj)(n:ByteArray)(w:World)(A:mB w r s)(B:s.bU):
 aS prog 46 [.agg (ar r).toArray,.string n] w λv l=>cK w.heap.size (jI s n) v l:=by
 refine Wj func46 ntmps46 ?_;refine Ww λM C c E b=>?_;refine SW.alloc Z λN U D o a=>?_;have F:=c.up o;have O:N≠M:=by have:=b.lt;omega
 have G:=B.small;obtain⟨c,b⟩:=bk D c b;obtain⟨e,p⟩:=bq (ga s n 0)
 have I:∀l,Ext w l->aS prog 117 [.agg (ar r).toArray,.string n,Iv 0] l λv _=>v=Iv e:=λl P=>by
  have:=kR r s n 0 l (A.ext P) B;rwa[p]at this
 by_cases J:e=0
 ·subst J;obtain⟨Q,R,_⟩:=jj p;obtain⟨i,K,_,_,t⟩:=eK R;have z:=pA p K t;have V:=(dg.1 Q).most;repeat'(first|refine Wz ?_|(refine Wc (I _ c) λC d=>?_;obtain⟨c,b,a⟩:=aY d c b a))
  all_goals try omega
  refine CW.iF 5 7 (λ_=>True) mixed bm λC d S=>?_;obtain⟨c,b,a⟩:=aY d c b a;refine Wf ?_;refine SF.bD 1 ?_;refine Wk (cX r s _ (A.ext c) G) λv T f m=>?_;obtain⟨q,cs,rfl,u,x⟩:=m;have u:=u.low c.size;have x:=x.low c.size;obtain⟨c,b,a⟩:=aY f c b a;refine SW.nil (ah.sf f ?_);refine SF.bD 4 ?_;refine Wk (gg r s n _ (A.ext c) G) λv W f m=>?_;rw[t]at m;subst m;obtain⟨c,b,a,u,x⟩:=dz f c b a u x;refine SW.nil (ah.sf f ?_);refine SF.eW ?_;refine SW.cm Z Z (AE w _ q s cs i B c u x K Y) λv X m=>?_;obtain⟨H,cs',rfl,h,j,y⟩:=m;have a:=y _ _ a;have L:True:=trivial;refine SW.nil (ah.sg L ?_);refine SG.bD 6 ?_;refine Wh a (aB ⟨q.Words,H,q.ab⟩) λw9 g k=>?_;obtain⟨h,j⟩:=bk g h j;refine SW.nil (ah.sg L ?_);refine SG.dQ ?_;refine Wz ?_;exact ah.a9 Z Z Z k Z ⟨_,Z,h,by rw[z];exact⟨_,Z,j.nb⟩⟩
 have z:=sC (s:=s) (n:=n) (by rw[p];exact J);rw[p]at z;repeat'(first|refine Wz ?_|(refine Wc (I _ c) λC d=>?_;obtain⟨c,b,a⟩:=aY d c b a))
 all_goals try omega
 refine Wh a (aB .zero) λT g k=>?_;have c:=jc g c;refine Wz ?_;exact ah.a9 Z Z Z k Z ⟨_,Z,c,by rw[z];exact cK.zero e _ _⟩
variable {w':World}
def kL:List Int:=[1,2,4,8,16,32]
def Il(k:Int):ByteArray:=if k=1 then⟨#[49]⟩else if k=2 then⟨#[50]⟩else if k=4 then⟨#[52]⟩else if k=8 then⟨#[56]⟩else if k=16 then⟨#[49,54]⟩else⟨#[51,50]⟩
def fm(k:Int):ByteArray:=if k=1 then⟨#[107,49]⟩else if k=2 then⟨#[107,50]⟩else if k=4 then⟨#[107,52]⟩else if k=8 then⟨#[107,56]⟩else if k=16 then⟨#[107,49,54]⟩else⟨#[107,51,50]⟩
theorem oD{k:Int}(h:k∈kL):k=1∨k=2∨k=4∨k=8∨k=16∨k=32:=by simp_all[kL]
theorem Im(k:Int)(a:k∈kL)(w:World):aS prog 229 [Iv k] w λv _=>v= .string (Il k):=by
 refine Wj func229 ntmps229 ?_;have b:=Ext.refl w;rcases oD a with rfl|rfl|rfl|rfl|rfl|rfl
 all_goals
  refine Wz ?_;refine SW.st (Eg rfl rfl rfl ir ir (of_decide_eq_true bm) rfl) rfl ?_;refine Wz ?_;exact ah.aF rfl rfl ⟨_,rfl,b,congrArg Value.string bm⟩
theorem AX(k:Int)(c:k∈kL)(w:World):aS prog 204 [Iv k,Iv 10] w λv _=>v= .string (Il k):=by
 refine Wj func204 ntmps204 ?_;have b:=Ext.refl w;have d:1<=k∧k<=32:=by rcases oD c with h|h|h|h|h|h<;>omega
 repeat'(first|refine Wz ?_|(refine Wc (Im k c _) λe a=>?_;have b:=b.trans a))
 exact ah.aF rfl rfl ⟨_,rfl,b,rfl⟩
theorem Io(k:Int)(c:k∈kL)(w:World):aS prog 140 [Iv k] w λv _=>v= .string (Il k):=by
 refine Wj func140 ntmps140 ?_;have b:=Ext.refl w;repeat'(first|refine Wz ?_|(refine Wc (AX k c _) λd a=>?_;have b:=b.trans a))
 exact ah.aF rfl rfl ⟨_,rfl,b,rfl⟩
theorem Kf(k:Int)(c:k∈kL)(w:World):aS prog 69 [Iv k] w λv _=>v= .string (Il k):=by
 refine Wj func69 ntmps69 ?_;have b:=Ext.refl w;repeat'(first|refine Wz ?_|(refine Wc (Io k c _) λd a=>?_;have b:=b.trans a))
 exact ah.aF rfl rfl ⟨_,rfl,b,rfl⟩
theorem uE(k:Int)(b:k∈kL)(w:World):aS prog 19 [Iv k] w λv _=>v= .string (fm k):=by
 refine Wj func19 ntmps19 ?_;have c:=Ext.refl w;have e:(⟨#[107]⟩:ByteArray)++Il k=fm k:=by rcases oD b with rfl|rfl|rfl|rfl|rfl|rfl<;>kernel_rfl
 have d:(⟨#[107]⟩:ByteArray).size+(Il k).size<=9223372036854775807:=by rcases oD b with rfl|rfl|rfl|rfl|rfl|rfl<;>decide
 repeat'(first|refine Wz ?_|(refine Wc (Kf k b _) λf a=>?_;have c:=c.trans a)|(refine SW.st ((Ik rfl rfl d).eq (congrArg Value.string e)) rfl ?_))
 exact ah.aF rfl rfl ⟨_,rfl,c,rfl⟩
def oE(c:aO):Bool:=kL.any λk=>c9 (fm k) c
structure jD(w:World):Prop where
 sl:Sl w 1 aT (some ⟨0,0,none⟩) 6 kL
theorem jD.ext(h:jD w)(a:Ext w w'):jD w':=⟨h.sl.ext a⟩
theorem Ip(k:Int)(f:k∈kL)(x:da)(c:aO)(d:Nat)(w:World)(i:ay w d 58 (cr x))(g:DO w x c)(h:x.Names.n<=9223372036854775807):
 aS prog 173 ([Iv k]++[Pt d]) w λv _=>v= .bool (c9 (fm k) c):=by
 refine Wj func173 ntmps173 ?_;have b:=Ext.refl w;repeat'(first|refine Wz ?_|((apply CW.dF mixed;(·kernel_rfl);rotate_left;intro e a;have b:=b.trans a;rotate_right))|refine SW.ba rfl rfl (λe a=>(uE k f _)) ?_|refine SW.ba rfl rfl (λe a=>(mZ _ _ _ _ _ _ (g.names.ext (b.trans a)) h)) ?_|exact SW.br rfl)
 exact ah.aF rfl rfl ⟨_,rfl,b,rfl⟩
theorem xH(x:da)(c:aO)(w:World)(i:DO w x c)(j:x.Names.n<=9223372036854775807)(l:jD w):
 aS prog 86 [.agg (cr x).toArray] w λv _=>v= .bool (oE c):=by
 refine Wj func86 ntmps86 ?_;refine Ww λd g a h e=>?_;repeat'(first|refine Wz ?_|refine SW.st (Eh Z) Z ?_|(refine SW.st (gH (vs:=[Pt d]) Z) Z ?_))
 refine Wc (iJ _ _ _ kL _ (l.sl.ext a) _ [Pt d] (λk=>c9 (fm k) c) (λk=>Iv k) (λk=>Z) (λk m g b=>Ip k m x c d g (e.ext b) (i.ext (a.trans b)) j) Y) λn f=>?_;have a:=a.trans f;refine Wz ?_;exact ah.aF Z Z ⟨_,Z,a,Z⟩
def e8(n:Int):ByteArray:=if n<=1 then fm 1 else if n<=2 then fm 2 else if n<=4 then fm 4 else if n<=8 then fm 8 else if n<=16 then fm 16 else if n<=32 then fm 32 else⟨#[]⟩
def kN:List ByteArray:=[fm 1,fm 2,fm 4,fm 8,fm 16,fm 32]
theorem Ei{k:Int}(a:k∈kL):e8 k=fm k:=by rcases oD a with rfl|rfl|rfl|rfl|rfl|rfl<;>rfl
theorem nU(n:Int)(w:World):aS prog 37 [Iv n] w λv _=>v= .string (e8 n):=by
 refine Wj func37 ntmps37 ?_;have c:=Ext.refl w;refine Wz ?_;refine SW.Ke (enc:=aT) kL rfl rfl rfl rfl rfl rfl ⟨rfl,rfl,rfl,rfl,rfl,rfl⟩ rfl rfl rfl λr D o y d=>?_;have c:=c.trans o;have d:=d.sl;refine Wz ?_;refine SW.Ke (enc:=encStr) kN Z Z Z Z Z Z ⟨Z,Z,Z,Z,Z,Z⟩ Z Z Z λs E p z f=>?_;obtain⟨c,d⟩:=bk p c d;have f:=f.sl;refine Wz ?_;have A:=d.base;have B:=f.base
 refine CW.loop (λi:Nat=>[(0,Iv n),(3,.slice (some ⟨r,0,none⟩) 6 6),(4,.slice (some ⟨s,0,none⟩) 6 6),(5,Iv (i:Int))])
  (λi l=>i<=6∧Ext w l∧Sl l 1 aT (some ⟨r,0,none⟩) 6 kL∧Sl l 1 encStr (some ⟨s,0,none⟩) 6 kN∧∀(j:Nat)(m:j<6),j<i->(kL[j]'m)<n) (λi=>6-i) 0
  ⟨Z,Z,Z,Z,trivial⟩ ⟨by omega,c,d,f,λj m h=>by omega⟩ ?_
 rintro i l ⟨F,c,d,f,g⟩;by_cases b:i<6
 ·obtain⟨k,t⟩:=bq (kL[i]'b);have x:=d.one b (u:=Iv k) (by show aT (kL[i]'b)=_;rw[t];rfl);have q:=f.one b (u:= .string (kN[i]'b)) Z;by_cases a:n<=k
  ·repeat'(first|refine Wz ?_|refine Wl x ?_|refine Wl (q) ?_)
   refine ah.aF Z Z ⟨_,Z,c,congrArg Value.string ?_⟩;have C:0<i->1<n:=λh=>g 0 ir h;have G:1<i->2<n:=λh=>g 1 ir h;have H:2<i->4<n:=λh=>g 2 ir h;have I:3<i->8<n:=λh=>g 3 ir h;have J:4<i->16<n:=λh=>g 4 ir h;subst t;unfold e8;rcases(show i=0∨i=1∨i=2∨i=3∨i=4∨i=5 by omega)with rfl|rfl|rfl|rfl|rfl|rfl
   ·have a:n<=1:=a;rw[if_pos a];rfl
   ·have a:n<=2:=a;rw[if_neg Y,if_pos a];rfl
   ·have a:n<=4:=a;rw[if_neg Y,if_neg Y,if_pos a];rfl
   ·have a:n<=8:=a;rw[if_neg Y,if_neg Y,if_neg Y,if_pos a];rfl
   ·have a:n<=16:=a;rw[if_neg Y,if_neg Y,if_neg Y,if_neg Y,if_pos a];rfl
   have a:n<=32:=a;rw[if_neg Y,if_neg Y,if_neg Y,if_neg Y,if_neg Y,if_pos a];rfl
  repeat'(first|refine Wz ?_|refine Wl x ?_)
  refine ah.again (i+1) ⟨Z,Z,Z,Z,trivial⟩ Y ⟨by omega,c,d,f,λj m h=>?_⟩;by_cases e:j=i
  ·subst e;omega
  exact g j m Y
 obtain rfl:i=6:=Y;have C:32<n:=g 5 ir ir;refine Wz ?_;refine ah.aF Z Z ⟨_,Z,c,congrArg Value.string ?_⟩;unfold e8;rw[if_neg Y,if_neg Y,if_neg Y,if_neg Y,if_neg Y,if_neg Y]
variable {l':List Slab}
theorem IG{n:Nat}{l:List Slab}(h:Sl w 3 bG A n l)(h':Sl w 3 bG A n l'):l=l':=by
 have j:=h.len;have m:=h'.len;refine PK Y λk o p=>?_;obtain⟨x,c⟩:=bq (l[k]);obtain⟨y,d⟩:=bq (l'[k]);have a:=h.all (i:=k) Y;have b:=h'.all (i:=k) Y;rw[show l[k]'(h.lt Y)=x from c]at a;rw[show l'[k]'(h'.lt Y)=y from d]at b;have e:=(a 0 (Iv x.At) Z).symm.trans (b 0 (Iv y.At) Z);have f:=(a 1 (Iv x.ai) Z).symm.trans (b 1 (Iv y.ai) Z);have g:=(a 2 (Iv x.bR) Z).symm.trans (b 2 (Iv y.bR) Z);simp at e f g;rw[c,d];cases x<;>simp_all
theorem qI(A:Option Addr)(n c:Nat)(l:List Slab)(w:World)(i:Sl w 3 bG A n l)(f:FuncId)(cap:List Value)(p:Slab->Bool)(a:Slab->Value)(b:∀x,a x=(if 3=1 then(bG x)[0]?.getD undef else .agg (bG x).toArray))
 (j:∀x∈l,∀g,Ext w g->aS prog f ([a x]++cap) g λv _=>v= .bool (p x)) (k:n<=9223372036854775807) (q:Body prog f:=by exact j0):
 aS prog 153 [.slice A n c,.func (.func f) #[] cap.toArray] w λv _=>v= .bool (l.any p):=by
 refine Wj func153 ntmps153 ?_;have d:=Ext.refl w;repeat'(first|refine Wz ?_|(refine Wc (jG _ _ _ _ _ (i.ext d) f cap p a b (λx m h o=>j x m h (d.trans o)) k) λh e=>?_;have d:=d.trans e))
 exact ah.aF rfl rfl ⟨_,rfl,d,by rw[iN]⟩
def nN(t:Int)(c:aO):Bool:=c.ae.any (sq t)
def ji(s:aj)(t:Int):Bool:=s.ab.any (nN t)
def ct(s:aj)(a:Int):Bool:=decide (0<=a∧a % 16=0) && (!ji s (a / 16) && bx s.Heap.Live (a / 16))
theorem Kz(w:World)(t:Int):∃p:da->Bool,∀x c,DO w x c->p x=nN t c:=by
 classical
 refine⟨λx=>decide (∃c,DO w x c∧nN t c=true),λx c h=>?_⟩;cases e:nN t c
 ·refine decide_eq_false ?_;rintro⟨c',h',a⟩;unfold nN at e a;rw[IG h'.av h.av,e]at a;grind
 grind
theorem LY(t:Int)(c:Nat)(x:Slab)(w:World)(b:ay w c 3 [Iv t]):
 aS prog 154 ([.agg (bG x).toArray]++[Pt c]) w λv _=>v= .bool (sq t x):=by
 refine Wj func154 ntmps154 ?_;refine Ww λg h d e f=>?_;have b:=b.ext d;have a:=b.cell (i:=0) (v:=Iv t) Z;rw[add_zero]at a;repeat'(first|refine Wz ?_|refine Wl a ?_)
 exact ah.aF Z Z ⟨_,Z,d,Z⟩
theorem LZ(t:Int)(a:Nat)(x:da)(c:aO)(w:World)(d:ay w a 3 [Iv t])(g:DO w x c)(j:x.ae.n<=9223372036854775807):
 aS prog 152 ([.agg (cr x).toArray]++[Pt a]) w λv _=>v= .bool (nN t c):=by
 refine Wj func152 ntmps152 ?_;refine Ww λl h b i k=>?_;have d:=d.ext b;repeat'(first|refine Wz ?_|(refine SW.st (gH (vs:=[Pt a]) Z) Z ?_))
 refine Wc (qI _ _ _ c.ae _ (g.av.ext b) _ [Pt a] (sq t) (λx=> .agg (bG x).toArray) (λx=>Z) (λx g h e=>LY t a x h (d.ext e)) j) λm f=>?_;have b:=b.trans f;refine Wz ?_;exact ah.aF Z Z ⟨_,Z,b,Z⟩
theorem KA(x:Block)(a:Int)(w:World)(e: -4000000000000000000<=x.At∧x.At<=4000000000000000000)(f: -4000000000000000000<=a∧a<=4000000000000000000):aS prog 155 ([.agg (aL x).toArray,Iv a]++[]) w λv _=>v=Iv (x.At-a):=by
 refine Wj func155 ntmps155 ?_;refine Ww λg h c b d=>?_;refine Wz ?_;exact ah.aF Z Z ⟨_,Z,c,Z⟩
theorem ru(r:cc)(s:aj)(a:Int)(w:World)(B:mB w r s)(C:s.small)(N:aA s)(ha: -9223372036854775808<=a∧a<=9223372036854775807):
 aS prog 76 [.agg (ar r).toArray,Iv a] w λv _=>∃i:Int,v= .tuple #[Iv i,.bool (ct s a)]∧(ct s a=true->i=(bB s.Heap.Live (a / 16):Int)):=by
 refine Wj func76 ntmps76 ?_;refine Ww λb2 y d O c=>?_;obtain⟨cs,z⟩:=B.aV;obtain⟨z1,z2⟩:=z.len;have m3:=C.aV;have T:=B.heap.live.len;have m5:=C.heap.live;by_cases P:0<=a
 ·have U:a.tmod 16=a % 16:=Pv P;by_cases D:a % 16=0
  ·obtain⟨t,E⟩:=bq (a / 16);have V:0<=t∧t<=1000000000000000000:=Y;obtain⟨p,Q⟩:=Kz w t;have j:=qz (p:=p) (q:=nN t) (l:=cs) (m:=s.ab) Y λk D W=>Q _ _ (z.each.get k D W);have e:ct s a=(!ji s t && bx s.Heap.Live t):=by unfold ct;rw[decide_eq_true ⟨P,D⟩,E,QD]
   refine Wz ?_;refine SW.alloc Z λA w2 F G b=>?_;have H:=d.up G;obtain⟨d,c⟩:=bk F d c;skip;refine Wb (i:=0) b λX g I=>?_;have R:=b.gr I;have d:=d.own H I;(have c:=c.aQ R Z);have b:ay X A 3 [Iv t]:=by rw[<-E];exact g
   have f:=b.cell (i:=0) (v:=Iv t) Z;rw[add_zero]at f;repeat'(first|refine Wz ?_|(refine SW.st (gH (vs:=[Pt A]) Z) Z ?_))
   refine Wc (lN _ _ _ cs _ (z.row.ext d) _ [Pt A] p (λx=> .agg (cr x).toArray) (λx=>Z) (λx J y n=>by
    obtain⟨k,K,rfl⟩:=Pg J;have u:k<s.ab.length:=Y;have o:=z.each.get k K u;have q1:=(C.each _ (Pf u)).av;have q2:=o.av.len;rw[Q _ _ o];exact LZ t A _ _ y (b.ext n) (o.ext (d.trans n)) Y) Y) λw4 L=>?_;rw[j.2,show s.ab.any (nN t)=ji s t from Z];obtain⟨d,c,b⟩:=aY L d c b;have f:=b.cell (i:=0) (v:=Iv t) Z;rw[add_zero]at f;cases S:ji s t
   ·rw[S]at e;simp only[Bool.not_false,Bool.true_and]at e;repeat'(first|refine Wz ?_|refine Wl f ?_)
    refine Wc (jr _ _ _ s.Heap.Live t _ (B.heap.live.ext d) 155 (λx J y n=>by
     obtain⟨k,K,rfl⟩:=Pg J;obtain⟨l1,l2,l3,l4⟩:=N.heap.live.each k K;exact KA _ t y Y Y) (jh N.heap.live) Y) λw5 M=>?_;obtain⟨d,c,b⟩:=aY M d c b;refine Wz ?_;exact ah.cf Z Z Z ⟨_,Z,d,(bB s.Heap.Live t:Int),by rw[e];rfl,λ_=>by rw[E]⟩
   rw[S]at e;simp only[Bool.not_true,Bool.false_and]at e;refine Wz ?_;exact ah.cf Z Z Z ⟨_,Z,d,0,by rw[e],λh=>by rw[e]at h;cases h⟩
  have e:ct s a=false:=by unfold ct;rw[decide_eq_false Y];rfl
  refine Wz ?_;exact ah.cf Z Z Z ⟨_,Z,d,0,by rw[e],λh=>by rw[e]at h;cases h⟩
 have e:ct s a=false:=by unfold ct;rw[decide_eq_false Y];rfl
 refine Wz ?_;exact ah.cf Z Z Z ⟨_,Z,d,0,by rw[e],λh=>by rw[e]at h;cases h⟩
theorem F1(r:cc)(s:aj)(t:Int)(w:World)(E:mB w r s)(y:s.small):
 aS prog 110 [.agg (ar r).toArray,Iv t] w λv _=>v= .bool (ji s t):=by
 refine Wj func110 ntmps110 ?_;refine Ww λz A b B a=>?_;obtain⟨cs,n⟩:=E.aV;obtain⟨H,I⟩:=n.len;have J:=y.aV;refine Wz ?_
 refine CW.loop (λk:Nat=>[(1,Iv t),(2,Pt z),(5,Iv (k:Int))])
  (λk g=>k<=r.ab.n∧Ext w g∧ay g z 37 (ar r)∧∀(j:Nat)(o:j<s.ab.length),j<k->nN t s.ab[j]=false) (λk=>r.ab.n-k) 0
  ⟨Z,Z,Z,trivial⟩ ⟨by omega,b,a,λj o h=>by omega⟩ ?_
 rintro i g ⟨K,b,a,C⟩;have L:=n.row.base;by_cases p:i<r.ab.n
 ·have u:i<cs.length:=Y;have l:i<s.ab.length:=Y;have q:=n.each.get i u l;have M:=(y.each _ (Pf l)).av;have N:=q.av.len;have D:∀g,Ext w g->aS prog 188 [.agg (cr cs[i]).toArray,Iv t] g λv _=>v=Iv (idxOf (sq t) s.ab[i].ae):=λg F=>sr _ _ t g (q.av.ext F) Y;have d:=iN (sq t) s.ab[i].ae;cases m:nN t s.ab[i]
  ·unfold nN at m;rw[m]at d;have d:=of_decide_eq_false d;repeat'(first|refine Wz ?_|refine Wo b ((n.row.all p)) ?_|(refine Wc (D _ b) λA f=>?_;obtain⟨b,a⟩:=bk f b a))
   exact ah.again (i+1) ⟨Z,Z,Z,trivial⟩ Y ⟨by omega,b,a,λj o h=>by
    by_cases e:j=i
    ·subst e;exact m
    exact C j o Y⟩
  have x:ji s t=true:=Pn.2 ⟨_,Pf l,m⟩;unfold nN at m;rw[m]at d;have d:=of_decide_eq_true d;repeat'(first|refine Wz ?_|refine Wo b ((n.row.all p)) ?_|(refine Wc (D _ b) λA f=>?_;obtain⟨b,a⟩:=bk f b a))
  exact ah.aF Z Z ⟨_,Z,b,by rw[x]⟩
 have x:ji s t=false:=PA.2 λc G=>by
  obtain⟨j,o,rfl⟩:=Pg G;rw[C j o Y];simp
 refine Wz ?_;exact ah.aF Z Z ⟨_,Z,b,by rw[x]⟩
def iU(s:aj)(a:Int):Int:=if ct s a=true then lU s.Heap.Live (a / 16)else-1
theorem qJ(r:cc)(s:aj)(a:Int)(w:World)(i:mB w r s)(k:s.small)(p:aA s)(B: -9223372036854775808<=a∧a<=9223372036854775807):
 aS prog 41 [.agg (ar r).toArray,Iv a] w λv _=>v=Iv (iU s a):=by
 refine Wj func41 ntmps41 ?_;refine Ww λC l b m c=>?_;have q:=i.heap.live.len;have D:=k.heap.live;by_cases n:0<=a
 ·have u:a.tmod 16=a % 16:=Pv n;by_cases x:a % 16=0
  ·obtain⟨t,h⟩:=bq (a / 16);have y:0<=t∧t<=1000000000000000000:=Y;have e:ct s a=(!ji s t && bx s.Heap.Live t):=by unfold ct;rw[decide_eq_true ⟨n,x⟩,h,QD]
   obtain⟨bs,g⟩:=bq (ji s t)
   have o:∀f,Ext w f->aS prog 110 [.agg (ar r).toArray,Iv (a / 16)] f λv _=>v= .bool bs:=λf j=>by
    have:=F1 r s t f (i.ext j) k;rwa[g,<-h]at this
   have c2:∀f,Ext w f->aS prog 111 [.agg (bg r.Heap).toArray,Iv (a / 16)] f λv _=>v=Iv (lU s.Heap.Live t):=λf j=>by
    have:=rP r.Heap s.Heap.Live t f (i.heap.live.ext j) (jh p.heap.live) Y;rw[h];exact this
   cases bs
   ·rw[g]at e;simp only[Bool.not_false,Bool.true_and]at e;repeat'(first|refine Wz ?_|refine Wm ((e7 c)) ?_|((first|refine Wk (o _ b) ?_|refine Wk (c2 _ b) ?_);intro v l d z;subst z;obtain⟨b,c⟩:=bk d b c))
    refine ah.aF Z Z ⟨_,Z,b,congrArg (Value.int .i64) ?_⟩;unfold iU;rw[e,h];cases A:bx s.Heap.Live t
    ·rw[so A];rfl
    rfl
   rw[g]at e;simp only[Bool.not_true,Bool.false_and]at e;repeat'(first|refine Wz ?_|(refine Wc (o _ b) λl d=>?_;obtain⟨b,c⟩:=bk d b c))
   exact ah.aF Z Z ⟨_,Z,b,by unfold iU;rw[e];rfl⟩
  have e:ct s a=false:=by unfold ct;rw[decide_eq_false Y];rfl
  refine Wz ?_;exact ah.aF Z Z ⟨_,Z,b,by unfold iU;rw[e];rfl⟩
 have e:ct s a=false:=by unfold ct;rw[decide_eq_false Y];rfl
 refine Wz ?_;exact ah.aF Z Z ⟨_,Z,b,by unfold iU;rw[e];rfl⟩
theorem IH(c:aA s)(n:ByteArray)(b:i<s.ab.length):idxOf (c9 n) s.ab=(i:Int)↔c9 n s.ab[i]=true:=by
 constructor
 ·intro h;unfold idxOf at h;split at h
  ·rename_i g;have e:s.ab.findIdx (c9 n)=i:=Y
   grind
  omega
 intro h;refine jA b h λj l d=>?_;cases e:c9 n s.ab[j]
 ·rfl
 exfalso;unfold c9 at e h;obtain⟨k,f,a⟩:=Pg (dx.1 h);have:=((c.each i b).names.each k f).2.1;apply this;rw[a];refine PU _ (Py.2 ⟨s.ab[j],?_,dx.1 e⟩);exact PG.2 ⟨j,by omega,Z⟩
variable {a:Int}
inductive oF(s:aj)(a:Int):Option Nat->Prop where
 | no {u:Int×Int×Int} (hF:gx s a u) (hn:∀(i:Nat)(hi:i<s.ab.length),u.2.2=0->u.1=(i:Int)->oE s.ab[i]=false):oF s a none
 | yes {i:Nat} {k:Int} (hF:gx s a ((i:Int),k,0)) (hi:i<s.ab.length) (hm:oE s.ab[i]=true):oF s a (some i)
theorem oF.c7{u v:Option Nat}(h:oF s a u)(d:oF s a v):u=v:=by
 cases h with
 | no c f=>cases d with
   | no=>rfl
   | @yes i k b g j=>
     have e:=c.c7 b;grind
 | @yes i k c g j=>cases d with
   | no b f=>
     have e:=c.c7 b;grind
   | @yes n o b l m=>
     have e:=c.c7 b;grind
theorem gx.F2{u:Int×Int×Int}(h:gx s a u)(b:u.2.2=0):∃(i:Nat)(c:i<s.ab.length),u.1=(i:Int):=by
 cases h<;>grind
theorem gx.code{u:Int×Int×Int}(h:gx s a u)(b:ef s=true):u.2.2=0∨u.2.2=4:=by
 cases h<;>grind
theorem EA(r:cc)(s:aj)(a:Int)(w:World)(I:mB w r s)(J:s.bU)(K:aA s)(ha: -9223372036854775808<=a∧a<=9223372036854775807):
 aS prog 124 [.agg (ar r).toArray,Iv a] w λv _=>∃u,oF s a u∧v=Iv (match u with|some i=>(i:Int)|none=> -1):=by
 refine Wj func124 ntmps124 ?_;refine Ww λL o d M c=>?_;have Q:=J.small;have R:=dg.2 K;refine Wz ?_;refine Wk (qH r s a _ (I.ext d) J) λv w5 C S=>?_;obtain⟨u,q,rfl⟩:=S;obtain⟨d,c⟩:=bk C d c;by_cases p:u.2.2=0
 ·obtain⟨i,D,t⟩:=q.F2 p;obtain⟨T,k,e⟩:=u;simp only at p t;subst p t;simp only[qG];refine Wz ?_
  refine CW.loop (λj:Nat=>[(2,Pt L),(5,Iv (i:Int)),(8,Iv ((2:Int) ^ j))])
   (λj f=>j<=6∧Ext w f∧ay f L 37 (ar r)∧∀(m:Nat),m<j->c9 (fm ((2:Int) ^ m)) s.ab[i]=false) (λj=>6-j) 0
   ⟨Z,Z,congrArg (λz=>some (Iv z)) ir,trivial⟩ ⟨by omega,d,c,λm h=>by omega⟩ ?_
  rintro j f ⟨hj,d,c,N⟩;by_cases U:j<6
  ·obtain⟨z,x⟩:=bq ((2:Int) ^ j)
   have l:z∈kL∧z<=32∧1<=z∧(2:Int) ^ (j+1)=2*z:=by
    rw[<-x];rcases(show j=0∨j=1∨j=2∨j=3∨j=4∨j=5 by omega)with rfl|rfl|rfl|rfl|rfl|rfl<;>decide
   obtain⟨l,O,V,E⟩:=l
   have P:∀f,aS prog 37 [Iv z] f λv _=>v= .string (fm z):=λf=>by
    have:=nU z f;rwa[Ei l]at this
   obtain⟨B,y⟩:=bq (idxOf (c9 (fm z)) s.ab)
   have c2:∀f,Ext w f->aS prog 101 [.agg (ar r).toArray,.string (fm z)] f λv _=>v=Iv B:=λf W=>by
    have:=gg r s (fm z) f (I.ext W) Q;rwa[y]at this
   have g:=IH K (fm z) D;rw[y]at g;rw[x];by_cases n:c9 (fm z) s.ab[i]=true
   ·have A:=g.2 n;have F:oE s.ab[i]=true:=Pn.2 ⟨z,l,n⟩;repeat'(first|refine Wz ?_|refine fq ?_|refine SW.ba Z Z (λo b=>(P _)) ?_|refine SW.ba Z Z (λo b=>(c2 _ (d.trans b))) ?_|(refine SW.br λo b=>?_;obtain⟨d,c⟩:=bk b d c))
    exact ah.aF Z Z ⟨_,Z,d,_,.yes q D F,Z⟩
   have A:B≠(i:Int):=λh=>n (g.1 h);repeat'(first|refine Wz ?_|refine fq ?_|refine SW.ba Z Z (λo b=>(P _)) ?_|refine SW.ba Z Z (λo b=>(c2 _ (d.trans b))) ?_|(refine SW.br λo b=>?_;obtain⟨d,c⟩:=bk b d c))
   refine ah.again (j+1) ⟨Z,Z,congrArg (λz=>some (Iv z)) E.symm,trivial⟩ Y ⟨by omega,d,c,λm h=>?_⟩;by_cases e:m=j
   ·subst e;rw[x];simpa using n
   exact N m Y
  obtain rfl:j=6:=Y;have G:(2:Int) ^ 6=64:=by decide
  rw[G];refine Wz ?_;refine ah.aF Z Z ⟨_,Z,d,none,.no q λX za _ e=>?_,Z⟩;have e:i=X:=by simp only at e;omega
  subst e;cases F:oE s.ab[i]
  ·rfl
  exfalso;obtain⟨z,x,n⟩:=Pn.1 F
  have:∃m:Nat,m<6∧(2:Int) ^ m=z:=by
   rcases oD x with rfl|rfl|rfl|rfl|rfl|rfl
   ·exact⟨0,by decide,by decide⟩
   ·exact⟨1,by decide,by decide⟩
   ·exact⟨2,by decide,by decide⟩
   ·exact⟨3,by decide,by decide⟩
   ·exact⟨4,by decide,by decide⟩
   exact⟨5,by decide,by decide⟩
  obtain⟨m,H,rfl⟩:=this;rw[N m H]at n;cases n
 obtain⟨T,k,e⟩:=u;simp only at p;simp only[qG];obtain rfl:e=4:=(q.code R).resolve_left p;refine Wz ?_;exact ah.aF Z Z ⟨_,Z,d,none,.no q λi D h=>absurd h p,Z⟩
inductive iV(s:aj)(a:Int):Int×Int->Prop where
 | bad (h:ef s=false):iV s a (0,8)
 | obj {i:Nat} (h:ef s=true) (hi:i<s.ab.length) (ho:oF s a (some i)):iV s a (s.ab[i].ax,0)
 | whole (h:ef s=true) (ho:oF s a none) (hw:ct s a=true):iV s a (16*pw (iU s a),0)
 | no (h:ef s=true) (ho:oF s a none) (hw:ct s a=false):iV s a (0,4)
theorem iV.c7{u v:Int×Int}(h:iV s a u)(k:iV s a v):u=v:=by
 cases h with
 | bad h=>cases k<;>grind
 | obj h g c=>cases k with
   | bad h'=>grind
   | obj h' d b=>cases c.c7 b;rfl
   | whole _ b|no _ b=>cases c.c7 b
 | whole h c f=>cases k with
   | bad h'=>grind
   | obj h' d b=>cases c.c7 b
   | whole=>rfl
   | no _ _ e=>grind
 | no h c f=>cases k with
   | bad h'=>grind
   | obj h' d b=>cases c.c7 b
   | whole _ _ e=>grind
   | no=>rfl
theorem oG(d:aA s)(h:ct s a=true):∃b:bB s.Heap.Live (a / 16)<s.Heap.Live.length,iU s a=s.Heap.Live[bB s.Heap.Live (a / 16)].Order∧0<=iU s a∧iU s a<=4:=by
 have c:bx s.Heap.Live (a / 16)=true:=by
  unfold ct at h<;>grind
 obtain⟨b,_⟩:=fR c;have e:=ur c b;obtain⟨f,g,i,j⟩:=d.heap.live.each _ b;unfold iU<;>grind
theorem uL(h:ct s a=false):iU s a= -1:=by unfold iU<;>grind
theorem EB(r:cc)(s:aj)(a:Int)(w:World)(f:mB w r s)(L:s.bU)(M: -9223372036854775808<=a∧a<=9223372036854775807)(X:jD w):
 aS prog 25 [.agg (ar r).toArray,Iv a] w λv _=>∃u,iV s a u∧v= .tuple #[Iv u.1,Iv u.2]:=by
 refine Wj func25 ntmps25 ?_;refine Ww λb2 H b W c=>?_;have N:=L.small;obtain⟨q,g⟩:=bq (ef s)
 have C:∀l,Ext w l->aS prog 61 [.agg (ar r).toArray] l λv _=>v=Iv (if q then 0 else 8):=λl I=>by
  have:=lj r s l (f.ext I) L;rwa[g]at this
 cases q
 ·simp only[Bool.false_eq_true,if_false]at C;repeat'(first|refine Wz ?_|(refine Wc (C _ b) λH d=>?_;obtain⟨b,c⟩:=bk d b c))
  exact ah.cf Z Z Z ⟨_,Z,b,_,.bad g,Z⟩
 simp only[if_true]at C;have J:=dg.1 g;obtain⟨cs,A⟩:=f.aV;obtain⟨z1,z2⟩:=A.len;have hA:=A.row.base;repeat'(first|refine Wz ?_|(refine Wc (C _ b) λH d=>?_;obtain⟨b,c⟩:=bk d b c))
 refine Wk (tB r s a _ (f.ext b) L M) λv w5 O D=>?_;obtain⟨u,E,rfl⟩:=D;obtain⟨b,c⟩:=bk O b c;by_cases B:u.2.2=0
 ·obtain⟨i,F,G⟩:=E.F2 B;obtain⟨i',k,e⟩:=u;simp only at B G;subst B G;simp only[qG];have n:i<r.ab.n:=Y;have P:i<cs.length:=Y;have o:=A.each.get i P F;have q1:=o.names.len;have q2:=(N.each _ (Pf F)).names;have eS:=o.size;obtain⟨K,p⟩:=bq (oE s.ab[i])
  have c2:∀l,Ext w l->aS prog 86 [.agg (cr cs[i]).toArray] l λv _=>v= .bool K:=λl I=>by
   have:=xH cs[i] _ l (o.ext I) Y (X.ext I);rwa[p]at this
  cases K
  ·have t:oF s a none:= .no E λi2 za _ e=>by
    have e:i=i2:=by simp only at e;omega
    subst e;exact p
   repeat'(first|refine Wz ?_|refine Wo b ((A.row.all n)) ?_|(refine Wc (c2 _ b) λH d=>?_;obtain⟨b,c⟩:=bk d b c))
   refine Wk (ru r s a _ (f.ext b) N J M) λv w6 x D=>?_;obtain⟨ix,rfl,y⟩:=D;obtain⟨b,c⟩:=bk x b c;cases m:ct s a
   ·repeat'(first|refine Wz ?_|(refine CW.bo Z ?_))
    exact ah.cf Z Z Z ⟨_,Z,b,_,.no g t m,Z⟩
   obtain⟨hk,Q,R,S⟩:=oG J m;obtain rfl:=y m;have T:=f.heap.live.len;have U:=f.heap.live.base;have z:bB s.Heap.Live (a / 16)<r.Heap.Live.n:=Y;have V:=f.heap.live.dp z (j:=1) (u:=Iv (iU s a)) (by rw[Q];rfl);have hp:=bP R S;repeat'(first|refine Wz ?_|(refine CW.bQ Z ?_)|refine Wn b V ?_|(refine SW.st (fO (r:=16*pw (iU s a)) Z Z Y Y (by simp[pw]) Y Y) Z ?_))
   exact ah.cf Z Z Z ⟨_,Z,b,_,.whole g t m,Z⟩
  have t:oF s a (some i):= .yes E F p;repeat'(first|refine Wz ?_|refine Wo b ((A.row.all n)) ?_|refine Wn b (A.row.dp n (j:=1) (u:=Iv cs[i].ax) Z) ?_|(refine Wc (c2 _ b) λH d=>?_;obtain⟨b,c⟩:=bk d b c))
  exact ah.cf Z Z Z ⟨_,Z,b,_,.obj g F t,by rw[eS]⟩
 obtain⟨i',k,e⟩:=u;simp only at B;simp only[qG];have t:oF s a none:= .no E λi F h=>absurd h B;obtain rfl:e=4:=(E.code g).resolve_left B;refine Wz ?_;refine Wk (ru r s a _ (f.ext b) N J M) λv w6 x D=>?_;obtain⟨ix,rfl,y⟩:=D;obtain⟨b,c⟩:=bk x b c;cases m:ct s a
 ·refine Wz ?_;exact ah.cf Z Z Z ⟨_,Z,b,_,.no g t m,Z⟩
 obtain⟨hk,Q,R,S⟩:=oG J m;obtain rfl:=y m;have T:=f.heap.live.len;have U:=f.heap.live.base;have z:bB s.Heap.Live (a / 16)<r.Heap.Live.n:=Y;have V:=f.heap.live.dp z (j:=1) (u:=Iv (iU s a)) (by rw[Q];rfl);have hp:=bP R S;repeat'(first|refine Wz ?_|refine Wn b V ?_|(refine SW.st (fO (r:=16*pw (iU s a)) Z Z Y Y (by simp[pw]) Y Y) Z ?_))
 exact ah.cf Z Z Z ⟨_,Z,b,_,.whole g t m,Z⟩
theorem vm(r:cc)(s:aj)(a:Int)(w:World)(h:mB w r s)(t:s.bU)(E: -9223372036854775808<=a∧a<=9223372036854775807):
 aS prog 49 [.agg (ar r).toArray,Iv a] w λv _=>∃u,iV s a u∧v= .tuple #[Iv u.1,Iv u.2]:=by
 refine Wj func49 ntmps49 ?_;refine Ww λM k d F c=>?_;have J:=t.small;obtain⟨q,g⟩:=bq (ef s)
 have x:∀f,Ext w f->aS prog 99 [.agg (ar r).toArray] f λv _=>v= .bool q:=λf y=>by
  have:=oC r s f (h.ext y) t;rwa[g]at this
 cases q
 ·repeat'(first|refine Wz ?_|(refine CW.bQ Z ?_)|(refine Wc (x _ d) λk b=>?_;obtain⟨d,c⟩:=bk b d c))
  exact ah.cf Z Z Z ⟨_,Z,d,_,.bad g,Z⟩
 have z:=dg.1 g;obtain⟨cs,l⟩:=h.aV;obtain⟨N,O⟩:=l.len;have P:=l.row.base;repeat'(first|refine Wz ?_|(refine CW.bo Z ?_)|(refine Wc (x _ d) λk b=>?_;obtain⟨d,c⟩:=bk b d c))
 refine Wk (EA r s a _ (h.ext d) t z E) λv Q A B=>?_;obtain⟨u,m,rfl⟩:=B;obtain⟨d,c⟩:=bk A d c;cases u with
 | some i=>
   have G:i<s.ab.length:=by cases m;assumption
   have C:i<r.ab.n:=Y;have D:i<cs.length:=Y;have K:=(l.each.get i D G).size;simp only;repeat'(first|refine Wz ?_|refine Wn d (l.row.dp C (j:=1) (u:=Iv cs[i].ax) Z) ?_)
   exact ah.cf Z Z Z ⟨_,Z,d,_,.obj g G m,by rw[K]⟩
 | none=>
   simp only;obtain⟨o,n⟩:=bq (iU s a)
   have c2:∀f,Ext w f->aS prog 41 [.agg (ar r).toArray,Iv a] f λv _=>v=Iv o:=λf y=>by
    have:=qJ r s a f (h.ext y) J z E;rwa[n]at this
   cases p:ct s a
   ·have e:=uL p;rw[n]at e;repeat'(first|refine Wz ?_|(refine Wc (c2 _ d) λk b=>?_;obtain⟨d,c⟩:=bk b d c))
    exact ah.cf Z Z Z ⟨_,Z,d,_,.no g m p,Z⟩
   obtain⟨R,S,H,I⟩:=oG z p;rw[n]at H I;have T:=bP H I;have L:∀f,aS prog 123 [Iv o] f λv _=>v=Iv (pw o):=λf=>dk _ Y f;repeat'(first|refine Wz ?_|((first|refine Wk (c2 _ d) ?_|refine Wk (L _) ?_);intro v k b B;subst B;obtain⟨d,c⟩:=bk b d c))
   exact ah.cf Z Z Z ⟨_,Z,d,_,.whole g m p,by rw[n]⟩
variable {y:Operand} {t ty:TypeId}
section
variable {P:Program}{L:Env}{w:World}{d:Option Nat}{T:TypeId}{pos:String}{af:Array Edge}{g:Option (Nat×Bool)}
def MZ(a:Int):Int:=((a.toNat &&& (a-1).toNat:Nat):Int)
theorem v9{x:Operand}(b:cg L x=some (Iv a))(c:cg L y=some (Iv (a-1)))(h:1<=a∧a<=8):St P ⟨d,.binOp .and t x y ty,T,pos,af,g⟩ L w (Iv (MZ a)):=
 Hd a.toNat (a-1).toNat b c Y Y Y Y
end
theorem LU(h:1<=a∧a<=8):MZ a=0↔fL a:=by
 rcases(show a=1∨a=2∨a=3∨a=4∨a=5∨a=6∨a=7∨a=8 by omega)with rfl|rfl|rfl|rfl|rfl|rfl|rfl|rfl<;>unfold fL<;>decide
theorem Ew{l:List α}(h:l.any p=true):∃(i:Nat)(d:i<l.length),p l[i]=true∧(∀(j:Nat)(b:j<l.length),j<i->p l[j]=false)∧idxOf p l=(i:Int):=by
 have a:l.findIdx p<l.length:=List.findIdx_lt_length_of_exists (by grind);exact⟨l.findIdx p,a,List.findIdx_getElem (w:=a),λj b c=>by grind,by unfold idxOf<;>grind⟩
theorem Ku{a b:jC}(h:apart a b∨apart b a):aN b.A b.c=none∨aN b.A b.c≠aN a.A a.c:=by
 cases e:aN b.A b.c with
 | none=>grind
 | some g=>
   right;intro c;rcases h with h|h
   ·exact h g c.symm e
   exact h g e c.symm
theorem uK.ne{x:jC}{cs:List da}(h:uK x cs)(b:i<cs.length)(c:j<cs.length)(a:j≠i):kr cs[i] cs[j]∨kr cs[j] cs[i]:=by
 have d:=Pq.1 h.pair;grind
theorem IF(x:da)(c:Nat)(z:Int)(w:World)(b:ay w c 3 [Iv z]):
 aS prog 65 ([.agg (cr x).toArray]++[Pt c]) w λv _=>v= .bool (decide (x.ax=z)):=by
 refine Wj func65 ntmps65 ?_;refine Ww λg h d e f=>?_;have b:=b.ext d;have a:=b.cell (i:=0) (v:=Iv z) Z;rw[add_zero]at a;repeat'(first|refine Wz ?_|refine Wl a ?_)
 exact ah.aF Z Z ⟨_,Z,d,Z⟩
theorem xS(r:cc)(s:aj)(n:ByteArray)(size align:Int)(w:World)(hr:mB w r s)(hf:s.bU)(zK:n.size<=140737488351232):
 aS prog 18 [.agg (ar r).toArray,.string n,Iv size,Iv align] w λv K=>∃u,mj s n size align u∧cK w.heap.size u v K:=by
 refine Wj func18 ntmps18 ?_;have hs:=hf.small;refine Ww λb4 w1 d zu f=>?_;have zi:=zu;refine SW.JJ Z Z Z λb6 w2 zL zv B=>?_;have zw:=d.up zv;obtain⟨d,f⟩:=bk zL d f;refine SW.alloc Z λb8 w3 zM zx a=>?_;have N:=d.up zx;have zc:b4≠b8:=by have:=f.lt;omega
 obtain⟨d,f,B⟩:=aY zM d f B
 have zd:∀(K:World)(z:Int),ay K b6 3 [Iv z]->K.cell? ⟨b6,0,none⟩=some (Iv z):=λK z h=>by
  have:=h.cell (i:=0) (v:=Iv z) Z;rwa[add_zero]at this
 obtain⟨q,hq⟩:=bq (ef s)
 have c1:∀K,Ext w K->aS prog 61 [.agg (ar r).toArray] K λv _=>v=Iv (if q then 0 else 8):=λK hx=>by
  have:=lj r s K (hr.ext hx) hf;rwa[hq]at this
 cases q
 ·simp only[Bool.false_eq_true,if_false]at c1;repeat'(first|refine Wz ?_|(refine Wk (c1 _ d) ?_;intro v w1 G P;subst P;obtain⟨d,f,a⟩:=aY G d f a))
  refine Wg a (aB .zero) λw5 L D=>?_;have d:=d.own N D;refine Wz ?_;exact ah.a9 Z Z Z L Z ⟨_,Z,d,_,.bad hq,cK.zero 8 _ _⟩
 simp only[if_true]at c1;have hM:=dg.1 hq;obtain⟨p,hp⟩:=bq (dW n)
 have c2:∀K,aS prog 62 [.string n] K λv _=>v= .bool p:=λK=>by
  have:=DP n K zK;rwa[hp]at this
 obtain⟨gv,ze⟩:=bq (MZ align);have zy:1<=align∧align<=8->(gv=0↔fL align):=λh=>by rw[<-ze];exact LU h
 by_cases T:p=true∧fL align
 ·obtain⟨rfl,T⟩:=T;have zz:=T;unfold fL at zz;have z7:gv=0:=(zy Y).2 T;have V:dW n=true∧fL align:=⟨hp,T⟩;by_cases zb:1<=size∧size<=64
  ·obtain⟨t,ht⟩:=bq (s.ab.any (c9 n));obtain⟨ix,zk⟩:=bq (idxOf (c9 n) s.ab)
   have c3:∀K,Ext w K->aS prog 63 [.agg (ar r).toArray,.string n] K λv _=>v= .tuple #[Iv ix,.bool t]:=λK hx=>by
    have:=BE r s n K (hr.ext hx) hs;rwa[ht,zk]at this
   have hu:=v8 T zb;have zl:lY size align=(size+align-1) / align*align:=Z;rw[zl]at hu;cases t
   ·repeat'(first|refine Wz ?_|(refine CW.bo Z ?_)|refine SW.want Z Z ?_|refine Wl (zd _ _ B) ?_|((first|refine Wk (c1 _ d) ?_|refine Wk (c2 _) ?_|refine Wk (c3 _ d) ?_);intro v w1 G P;subst P;obtain⟨d,f,B,a⟩:=cG G d f B a)|(refine SW.st ((v9 Z Z Y).eq (congrArg (Value.int .i64) ze)) Z ?_))
    all_goals try omega
    refine Wb (i:=0) B λw5 zj D=>?_;have J:=B.gr D;have d:=d.own zw D;obtain⟨f,a⟩:=bk J f a;obtain⟨z,hz⟩:=bq (lY size align);have B:ay w5 b6 3 [Iv z]:=by rw[<-hz,zl];exact zj
    have z8:1<=z∧z<=64:=by rw[<-hz,zl];omega
    refine Wz ?_;refine Wk (FY r s _ (hr.ext d) hs) λv w6 M P=>?_;obtain⟨q,O,rfl,hO⟩:=P;have hO:=hO.low d.size;obtain⟨d,f,B,a⟩:=cG M d f B a;obtain⟨I,H,F,zN⟩:=hO;skip;refine Wg f (aB q) λw7 zf D=>?_;have J:=f.gr D;have d:=d.own zi D;have a:=a.grown D (by simpa using λe=>zc e.symm);obtain⟨B,I,H,F⟩:=cG J B I H F;have f:=zf;obtain⟨z1,z2⟩:=F.rd.len;have m3:=hs.aV
    have zm:=qz (p:=λx:da=>decide (x.ax=z)) (q:=xE z) (l:=O) (m:=s.ab) Y λk h1 h2=>by
     have:=(F.each.get k h1 h2).size;simp only[xE,this]
    repeat'(first|refine Wz ?_|(refine SW.st (gH (vs:=[Pt b6]) Z) Z ?_))
    refine Wk (kI _ _ _ _ _ F.row.sl _ [Pt b6] (λx=>decide (x.ax=z)) (λx=> .agg (cr x).toArray) (λx=>Z) (λx hx w1 zO=>IF x b6 z w1 (B.ext zO)) Y) λv w8 M P=>?_;subst P;rw[zm.1];obtain⟨d,f,B,a,I,H,F⟩:=iX M d f B a I H F;cases zg:s.ab.any (xE z)
    ·obtain⟨hI,_⟩:=iv (p:=xE z) (l:=s.ab) (λj hj=>by
      have:=PA.1 zg _ (Pf hj);simpa using this)
     rw[hI]
     have zA:∀(j:Nat)(hj:j<s.ab.length),s.ab[j].ax≠z:=λj hj=>by
      have:=PA.1 zg _ (Pf hj);simpa[xE]using this
     by_cases zP:s.ab.length=20
     ·refine Wz ?_;refine Wg a (aB .zero) λw5 L D=>?_;have d:=d.own N D;refine Wz ?_;exact ah.a9 Z Z Z L Z ⟨_,Z,d,_,.full hq V zb ht (by rw[hz];exact zA) zP,cK.zero 9 _ _⟩
     have zQ:s.ab.length<20:=by
      have:=hM.most;omega
     obtain⟨o,per,e,zn⟩:∃o per e,cJ z=(o,per,e):=⟨_,_,_,Z⟩;have cL:∀K,aS prog 68 [Iv z] K λv _=>v= .tuple #[Iv o,Iv per,Iv e]:=λK=>rq (wO z K) zn;have z9:=hM.heap.cpus;have eC:=H.cpus;repeat'(first|refine Wz ?_|refine Wl (zd _ _ B) ?_|(refine Wk (cL _) ?_;intro v w1 G P;subst P;obtain⟨d,f,B,a,I,H,F⟩:=iX G d f B a I H F))
     refine SW.bz (vs:=[.string n]) Z Z Z Z Z λbn w9 M zB zo=>?_;have zC:=d.up zB;obtain⟨d,f,B,a,I,H,F⟩:=iX M d f B a I H F;have W:Own w9 w.heap.size 9 1 encStr (some ⟨bn,0,none⟩) 1 1 [n]:=Own.closed (rest:=[]) Z zo Z Y Y (by simp[maxLen]) zC;repeat'(first|refine Wz ?_|refine Wl (zd _ _ B) ?_)
     have zp:Ext w w9:=d;refine SW.alloc Z λzq zR zD X E=>?_;skip;refine Wg E (ox ⟨⟨some ⟨bn,0,none⟩,1,1⟩,z,per,o,.nil,.nil⟩) λzE Q D=>?_;have d:=zD.own X D;have E:=Q;repeat'(first|refine Wz ?_|refine Wn d (f.cell (i:=3) (v:=Iv q.Heap.bl) Z) ?_)
     obtain⟨C,zS⟩:=Pm (show 0<=q.Heap.bl by omega);rw[zS]
     refine CW.loop (λt:Nat×Option Addr×Nat=>[(4,Pt b4),(8,Pt b8),(20,Pt zq),(121,Iv (C:Int)),(122,Iv (t.1:Int))])
      (λt K=>t.1<=C∧Ext w9 K∧ay K zq 58 (cr ⟨⟨some ⟨bn,0,none⟩,1,1⟩,z,per,o,.nil,⟨t.2.1,t.1,t.2.2⟩⟩)∧Own K w9.heap.size 3 1 aT t.2.1 t.1 t.2.2 (List.replicate t.1 (-1))) (λt=>C-t.1) (0,none,0)
      ⟨Z,Z,Z,Z,Z,trivial⟩ ⟨by omega,d,E,Own.cq _ _ _ _ _ _⟩ ?_
     rintro⟨k,A,c⟩ zT ⟨hk,d,E,U⟩;simp only at hk E U⊢;by_cases ya:k<C
     ·refine Wz ?_;refine SW.bz Z Z Z Z Z λb w1 M hb hB=>?_;obtain⟨d,E,U⟩:=aY M d E U;refine SW.append U (ay.la (enc:=aT) hB) d.size Z Z Z Y Y λA2 c2 w5 R D=>?_;have J:=U.gr D;have d:=au d D (Ph _) U.az;(have E:=E.aQ J Z);refine Wz ?_;refine Wb (i:=5) E λw6 Q D=>?_;have J:=E.gr D;have d:=d.own X D;(have R:=R.aQ J Z);refine Wz ?_;refine ah.again (k+1,A2,c2) ⟨Z,Z,Z,Z,Z,trivial⟩ dD ⟨by simp only;omega,d,Q,?_⟩;simp only;rw[QQ];exact R
     obtain rfl:k=C:=Y;have zU:=d;have d:=zp;obtain⟨d,f,B,a,I,H,F,W⟩:=nS zU d f B a I H F W;have U:=U.low zp.size;have zV:w.heap.size<=zq:=Pj zp.size X;refine Wz ?_;refine SW.bz Z Z Z Z Z λb zW M hb hB=>?_;obtain⟨d,f,a,I,H,F,W,U⟩:=nS M d f a I H F W U;refine SW.append F.row (ay.la (enc:=cr) (x:=⟨⟨some ⟨bn,0,none⟩,1,1⟩,z,per,o,.nil,⟨A,k,c⟩⟩) hB) d.size Z Z Z Y Y λA2 c2 yb R D=>?_;have J:=F.row.gr D;have d:=au d D (Ph _) F.row.az;obtain⟨f,a,I,H,W,U⟩:=fi J f a I H W U;have hE:=F.each.mono λ_ _ h=>h.aQ J Z;refine Wz ?_;refine Wb (i:=6) f λyc zf D=>?_;have J:=f.gr D;have d:=d.own zi D;have a:=a.grown D (by simpa using λe=>zc e.symm);obtain⟨I,H,W,U,R⟩:=dz J I H W U R;have hE:=hE.mono λ_ _ h=>h.aQ J Z;refine Wz ?_;refine Wg a (aB ⟨q.Words,q.Heap,⟨A2,q.ab.n+1,c2⟩⟩) λyd L D=>?_;have J:=a.gr D;have d:=d.own N D;obtain⟨I,H,W,U,R⟩:=dz J I H W U R;have hE:=hE.mono λ_ _ h=>h.aQ J Z;refine Wz ?_;refine ah.a9 Z Z Z L Z ⟨_,Z,d,_,.new hq V zb ht (by rw[hz];exact zA) zQ,⟨q.Words,q.Heap,⟨A2,q.ab.n+1,c2⟩⟩,Z,I,H,_,R,?_⟩;rw[hz];refine hE.snoc ⟨Z,?_,?_,W,Own.cq _ _ _ _ _ _,?_⟩
     ·simp only[dh,zn]
     ·simp only[dh,zn]
     have e9:s.Heap.bl.toNat=k:=Y;simp only[dh,e9];exact U
    obtain⟨i,hi,zX,z0,zk⟩:=Ew zg;rw[zk];have zF:s.ab[i].ax=z:=by simpa[xE]using zX
    have zs:i<q.ab.n:=Y;have S:i<O.length:=Y;have zG:=F.each.get i S hi;have z3:=(hM.each i hi).names;have ye:=F.row.sl.base;have q1:=zG.names.sl.len;have q2:=(hM.each i hi).oB hM.heap (λj h=>hM.each j h);have yf:=tw s.ab[i].Names n;repeat'(first|refine Wz ?_|refine Wl (F.row.sl.dp zs (j:=0) (u:= .slice O[i].Names.A O[i].Names.n O[i].Names.c) Z) ?_)
    refine Wk (xG _ _ _ _ n _ zG.names.sl z3.iy Y) λv w9 M P=>?_;obtain⟨bb,rfl⟩:=P;obtain⟨d,f,a,I,H,F⟩:=fi M d f a I H F;repeat'(first|refine Wz ?_|refine Wl (F.row.sl.dp zs (j:=0) (u:= .slice O[i].Names.A O[i].Names.n O[i].Names.c) Z) ?_)
    refine SW.bz (vs:=[.string n]) Z Z Z Z Z λbn zR M zB zo=>?_;have z4:=(F.each.get i S hi).names.lt_size;have zH:aN O[i].Names.A O[i].Names.c≠some bn:=λe=>by have:=z4 _ e;omega
    obtain⟨d,f,a,I,H,F⟩:=fi M d f a I H F;have W:=(F.each.get i S hi).names;refine SW.cm Z Z (nC iC _ _ _ w.heap.size s.ab[i].Names _ W (jv s.ab[i].Names n) Y n bn zo zH Y d.size) λv zE P=>?_;obtain⟨A2,c2,rfl,z5,D,z6⟩:=P;have J:=W.gr D;have d:=au d D (Ph _) W.az;have zh:=F.row.aQ J Z
    have hE:=dR.setAt (R':=lf zE w.heap.size) (i:=i) F.each (x:=⟨⟨A2,O[i].Names.n+1,c2⟩,O[i].ax,O[i].bd,O[i].Order,O[i].ae,O[i].ao⟩) (y:=db s.ab[i] n)
     ⟨(F.each.get i S hi).size,(F.each.get i S hi).per,(F.each.get i S hi).order,z5,(F.each.get i S hi).av.aQ J Z,(F.each.get i S hi).aD.aQ J Z⟩
     (λj h1 h2 zt ho=>⟨ho.size,ho.per,ho.order,ho.names.grown D (Ku ((zN.ne S h1 zt).imp (·.names) (·.names))),ho.av.aQ J Z,ho.aD.aQ J Z⟩)
    obtain⟨f,a,I,H⟩:=cG J f a I H;refine Wz ?_;refine SW.eY i 0 ⟨⟨A2,O[i].Names.n+1,c2⟩,O[i].ax,O[i].bd,O[i].Order,O[i].ae,O[i].ao⟩ zh Z Z Z zs ir Z Z λzT za zI=>?_;have zJ:=zh.gr zI;have d:=au d zI (Ph _) zh.az;obtain⟨f,a,I,H⟩:=cG zJ f a I H;have hE:=hE.mono λ_ _ h=>h.aQ zJ Z;refine Wz ?_;refine Wg a (aB q) λzW L D=>?_;have J:=a.gr D;have d:=d.own N D;obtain⟨I,H,za⟩:=aY J I H za;have hE:=hE.mono λ_ _ h=>h.aQ J Z;refine Wz ?_;refine ah.a9 Z Z Z L Z ⟨_,Z,d,_,.xF hq V zb ht hi (by rw[hz];exact zF) (λj hj zt=>?_),q,Z,I,H,_,za,hE⟩;rw[hz];simpa[xE]using z0 j hj zt
   repeat'(first|refine Wz ?_|(refine CW.bQ Z ?_)|refine SW.want Z Z ?_|refine Wl (zd _ _ B) ?_|((first|refine Wk (c1 _ d) ?_|refine Wk (c2 _) ?_|refine Wk (c3 _ d) ?_);intro v w1 G P;subst P;obtain⟨d,f,B,a⟩:=cG G d f B a)|(refine SW.st ((v9 Z Z Y).eq (congrArg (Value.int .i64) ze)) Z ?_))
   all_goals try omega
   refine Wg a (aB .zero) λw5 L D=>?_;have d:=d.own N D;refine Wz ?_;exact ah.a9 Z Z Z L Z ⟨_,Z,d,_,.kA hq V zb ht,cK.zero 5 _ _⟩
  rcases(show size<1∨(1<=size∧64<size)by omega)with g|g
  all_goals
   repeat'(first|refine Wz ?_|refine SW.want Z Z ?_|refine Wl (zd _ _ B) ?_|((first|refine Wk (c1 _ d) ?_|refine Wk (c2 _) ?_);intro v w1 G P;subst P;obtain⟨d,f,B,a⟩:=cG G d f B a)|(refine SW.st ((v9 Z Z Y).eq (congrArg (Value.int .i64) ze)) Z ?_))
   all_goals try omega
   refine Wg a (aB .zero) λw5 L D=>?_;have d:=d.own N D;refine Wz ?_;exact ah.a9 Z Z Z L Z ⟨_,Z,d,_,.range hq V zb,cK.zero 1 _ _⟩
 have V:¬(dW n=true∧fL align):=by rw[hp];exact T
 rcases(show p=false∨(p=true∧align<1)∨(p=true∧1<=align∧8<align)∨(p=true∧(1<=align∧align<=8)∧gv≠0)by
  cases p
  ·exact .inl Z
  right;by_cases a1:align<1
  ·exact .inl ⟨Z,a1⟩
  by_cases a2:8<align
  ·exact .inr (.inl ⟨Z,by omega,a2⟩)
  exact .inr (.inr ⟨Z,by omega,λh=>T ⟨Z,(zy Y).1 h⟩⟩))with rfl|⟨rfl,g⟩|⟨rfl,g⟩|⟨rfl,g,g0⟩
 all_goals
  repeat'(first|refine Wz ?_|refine SW.want Z Z ?_|refine SW.skip Z Z Z Z ?_|((first|refine Wk (c1 _ d) ?_|refine Wk (c2 _) ?_);intro v w1 G P;subst P;obtain⟨d,f,B,a⟩:=cG G d f B a)|(refine SW.st ((v9 Z Z Y).eq (congrArg (Value.int .i64) ze)) Z ?_))
  all_goals try omega
  refine Wg a (aB .zero) λw5 L D=>?_;have d:=d.own N D;refine Wz ?_;exact ah.a9 Z Z Z L Z ⟨_,Z,d,_,.form hq V,cK.zero 3 _ _⟩
theorem BF(h:jD w):∀j v,(kL.map (Value.int .i64))[j]?=some v->w.cell? ((⟨0,0,none⟩:Addr).add j)=some v:=λj v a=>by
 rcases PJ j 6 with b|b
 ·have:=h.sl.one (i:=j) (u:=v) b (by
   rcases(show j=0∨j=1∨j=2∨j=3∨j=4∨j=5 by omega)with rfl|rfl|rfl|rfl|rfl|rfl<;>simpa[kL,aT]using a)
  simpa using this
 rw[QJ (by simp[kL];omega)]at a;cases a
def kP(j:Nat):Int:=(2:Int) ^ j
theorem G8(h:j<6):kP j∈kL∧kL[j]?=some (kP j)∧1<=kP j∧kP j<=32:=by
 unfold kP;rcases(show j=0∨j=1∨j=2∨j=3∨j=4∨j=5 by omega)with rfl|rfl|rfl|rfl|rfl|rfl<;>decide
theorem G9(j:Nat):kP (j+1)=2*kP j:=by unfold kP<;>grind
theorem uF(h:j<6):(fm (kP j)).size<=140737488351232:=by
 unfold kP;rcases(show j=0∨j=1∨j=2∨j=3∨j=4∨j=5 by omega)with rfl|rfl|rfl|rfl|rfl|rfl<;>decide
theorem FZ{a b:ByteArray}(h:cu a b=true):cu b a=false:=by
 cases e:cu b a<;>grind[cu,lM,ta]
theorem Kv{a b:ByteArray}(h:cu a b=false)(c:a≠b):cu b a=true:=by
 have:=uh b a;grind
theorem Ex{l:List α}{p:Nat}{x:α}(a:p<=l.length)(b:k<p):(aP l p x).take (k+1)=(aP l p x).take k++[l[k]'Y]:=by
 have c:=bT l a x;rw[Pk Y];have:=qk (x:=x) a b;grind
theorem vk{l:List α}{p:Nat}{x:α}(a:p<=l.length):(aP l p x).take (p+1)=(aP l p x).take p++[x]:=by
 have b:=bT l a x;grind[bT,List.take_succ_eq_append_getElem,jP,List.getElem?_eq_getElem,Option.some.inj]
theorem vl{l:List α}{p:Nat}{x:α}(a:p<=l.length)(b:p<=k)(h:k<l.length):(aP l p x).take (k+1+1)=(aP l p x).take (k+1)++[l[k]]:=by
 have c:=bT l a x;rw[Pk Y];have:=oz (x:=x) a b;grind
theorem rT(r:cc)(s:aj)(n:ByteArray)(size align:Int)(w:World)(hr:mB w r s)(hf:s.bU)(zR:n.size<=140737488351232):
 aS prog 36 [.agg (ar r).toArray,.string n,Iv size,Iv align] w λv G=>∃u,mj s n size align u∧cK w.heap.size u v G:=by
 refine Wj func36 ntmps36 ?_;have hs:=hf.small;refine Ww λb4 w1 a zC D=>?_;have yd:=zC;refine SW.alloc Z λb8 w3 zS zD f=>?_;have ye:=a.up zD;have zT:b4≠b8:=by have:=D.lt;omega
 obtain⟨a,D⟩:=bk zS a D;obtain⟨q,hq⟩:=bq (ef s)
 have c1:∀G,Ext w G->aS prog 99 [.agg (ar r).toArray] G λv _=>v= .bool q:=λG hx=>by
  have:=oC r s G (hr.ext hx) hf;rwa[hq]at this
 cases q
 ·repeat'(first|refine Wz ?_|(refine CW.bQ Z ?_)|(refine Wc (c1 _ a) λw1 E=>?_;obtain⟨a,D,f⟩:=aY E a D f)|fail)
  refine Wh f (aB .zero) λS g Q=>?_;have a:=jc g a;refine Wz ?_;exact ah.a9 Z Z Z Q Z ⟨_,Z,a,_,.bad hq,cK.zero 8 _ _⟩
 have hM:=dg.1 hq;obtain⟨p,hp⟩:=bq (dW n)
 have c2:∀G,aS prog 100 [.string n] G λv _=>v= .bool p:=λG=>by
  have:=u7 n G zR;rwa[hp]at this
 by_cases T:p=true∧fL align
 ·obtain⟨rfl,T⟩:=T;have zE:=T;unfold fL at zE;have X:dW n=true∧fL align:=⟨hp,T⟩;repeat'(first|refine Wz ?_|(refine CW.bo Z ?_)|(refine Wc (c1 _ a) λw1 E=>?_;obtain⟨a,D,f⟩:=aY E a D f)|fail)
  obtain⟨K,hK⟩:∃K:Env->World->Prop,K=λL' G=>eA L' [(1,.string n),(2,Iv size),(3,Iv align),(4,Pt b4),(8,Pt b8),(42,.bool false)]∧Ext w G∧ay G b4 37 (ar r)∧ay G b8 37 (ar .zero):=⟨_,Z⟩;refine SW.LG K ?_ ?_
  ·repeat'(first|refine Wz ?_|refine SW.nR Z Z Z (λh=>?_) (λh=>?_)|refine SW.want Z Z ?_|(refine Wc (c2 _) λw1 E=>?_;obtain⟨a,D,f⟩:=aY E a D f)|fail)
   all_goals try omega
   all_goals exact ah.fW (by rw[hK];exact⟨⟨Z,Z,Z,Z,Z,by first|rfl|exact congrArg (λb=>some (Value.bool b)) (by rw[decide_eq_true Y];rfl),trivial⟩,a,D,f⟩)
  subst hK;rintro L' G ⟨zp,a,D,f⟩;refine ah.sub zp ?_;by_cases za:1<=size∧size<=64
  ·have hu:=v8 T za;obtain⟨ix,zF⟩:=bq (idxOf (c9 n) s.ab);have zt:=iN (c9 n) s.ab;rw[zF]at zt
   have c3:∀G,Ext w G->aS prog 101 [.agg (ar r).toArray,.string n] G λv _=>v=Iv ix:=λG hx=>by
    have:=gg r s n G (hr.ext hx) hs;rwa[zF]at this
   by_cases zq:0<=ix
   ·have ht:s.ab.any (c9 n)=true:=by rw[<-zt];exact decide_eq_true zq
    repeat'(first|refine Wz ?_|((first|refine Wk (bE _ _ _ _) ?_|refine Wk (c3 _ a) ?_);intro v w1 E hv;subst hv;obtain⟨a,D,f⟩:=aY E a D f)|fail)
    all_goals try omega
    refine Wh f (aB .zero) λS g Q=>?_;have a:=jc g a;refine Wz ?_;exact ah.a9 Z Z Z Q Z ⟨_,Z,a,_,.kA hq X za ht,cK.zero 5 _ _⟩
   have ht:s.ab.any (c9 n)=false:=by rw[<-zt];exact decide_eq_false zq
   repeat'(first|refine Wz ?_|((first|refine Wk (bE _ _ _ _) ?_|refine Wk (c3 _ a) ?_);intro v w1 E hv;subst hv;obtain⟨a,D,f⟩:=aY E a D f)|fail)
   all_goals try omega
   refine CW.loop (λz:Int=>[(1,.string n),(2,Iv z),(3,Iv align),(4,Pt b4),(8,Pt b8)])
    (λz G=>size<=z∧z<=lY size align∧(∀y,size<=y->y<z->y % align≠0)∧Ext w G∧ay G b4 37 (ar r)∧ay G b8 37 (ar .zero)) (λz=>(lY size align-z).toNat) size
    ⟨Z,Z,Z,Z,Z,trivial⟩ ⟨Int.le_refl _,hu.1,λy h1 h2=>by omega,a,D,f⟩ ?_
   rintro z G ⟨zG,zU,zu,a,D,f⟩;by_cases hm:z % align=0
   ·have ez:z=lY size align:=Ih T za zG hm zu;have zH:z.tmod align=0:=(Pv Y).trans hm;refine Wz ?_;all_goals try omega
    all_goals try omega
    have yh:1<=z∧z<=64:=Y;have hz:lY size align=z:=ez.symm;refine Wk (cX r s _ (hr.ext a) hs) λv w6 H hv=>?_;obtain⟨q,_,rfl,hO,_⟩:=hv;have hO:=hO.nb.low a.size;obtain⟨a,D,f⟩:=aY H a D f;have yf:=D.lt;have yg:=f.lt;refine Wr (aB q) λzc w2 H zv l=>?_;have zV:=a.up zv;obtain⟨a,D,f,hO⟩:=cG H a D f hO;have zP:b8≠zc:=Y;have zQ:b4≠zc:=Y;obtain⟨M,N,I,L⟩:=hO;obtain⟨z1,z2⟩:=L.rd.len;obtain⟨cs,hc⟩:=hr.aV;obtain⟨z3,z4⟩:=hc.len;have m3:=hs.aV;refine Wz ?_
    refine CW.loop (λi:Nat=>[(1,.string n),(2,Iv z),(4,Pt b4),(8,Pt b8),(10,Pt zc),(11,Iv (i:Int))])
     (λi G=>i<=q.ab.n∧Ext w G∧ay G b4 37 (ar r)∧ay G b8 37 (ar .zero)∧ay G zc 37 (ar q)∧Own G w.heap.size 3 1 aT q.Words.A q.Words.n q.Words.c s.Words∧ik G w.heap.size q.Heap s.Heap∧dJ G w.heap.size q.ab I s.ab∧
       ∀(j:Nat)(hj:j<s.ab.length),j<i->s.ab[j].ax≠z) (λi=>q.ab.n-i) 0
     ⟨Z,Z,Z,Z,Z,Z,trivial⟩ ⟨by omega,a,D,f,l,M,N,L,λj hj h=>by omega⟩ ?_
    rintro i w3 ⟨hi,a,D,f,l,M,N,L,zk⟩;have yi:=L.row.sl.base;by_cases zl:i<q.ab.n
    ·have zb:i<s.ab.length:=Y;have zw:i<I.length:=Y;have zm:=L.each.get i zw zb;have eS:=zm.size;have g1:=L.row.sl.dp zl (j:=1) (u:=Iv I[i].ax) Z;have g0:=L.row.sl.dp zl (j:=0) (u:= .slice I[i].Names.A I[i].Names.n I[i].Names.c) Z;by_cases zx:s.ab[i].ax=z
     ·have q1:=zm.names.sl.len;have q2:=(hM.each i zb).oB hM.heap (λj h=>hM.each j h);have yj:=(hM.each i zb).names.iy;have yk:=zm.names.sl.base;have zd:=tw s.ab[i].Names n
      have zI:∀(k:Nat)(hk:k<s.ab[i].Names.length),s.ab[i].Names[k]≠n:=λk hk e=>by
       have:=PA.1 ht _ (Pf zb);exact this (dx.2 (e▸Pf hk))
      obtain⟨P,hP⟩:=bq (jv s.ab[i].Names n);rw[hP]at zd;have zW:∀(k:Nat)(hk:k<s.ab[i].Names.length),k<P->cu n s.ab[i].Names[k]=false:=λk hk h=>FZ (CU Y hk)
      have zX:∀hk:P<s.ab[i].Names.length,cu n s.ab[i].Names[P]=true:=λhk=>by
       subst hP;exact Kv (CV hk) (zI _ hk)
      repeat'(first|refine Wz ?_|refine Wl g1 ?_|fail)
      have zJ:Ext w w3:=a
      refine CW.loop (λt:Nat×Bool×Option Addr×Nat=>[(1,.string n),(8,Pt b8),(10,Pt zc),(11,Iv (i:Int)),(12,.slice t.2.2.1 (t.1+t.2.1.toNat) t.2.2.2),(13,.bool t.2.1),(14,Iv (t.1:Int))])
       (λt G=>t.1<=I[i].Names.n∧t.2.1=decide (P<t.1)∧Ext w3 G∧Own G w3.heap.size 9 1 encStr t.2.2.1 (t.1+t.2.1.toNat) t.2.2.2 ((aP s.ab[i].Names P n).take (t.1+t.2.1.toNat))) (λt=>I[i].Names.n-t.1) (0,false,none,0)
       ⟨Z,Z,Z,Z,Z,Z,Z,trivial⟩ ⟨by omega,by simp,Ext.refl _,by simpa using Own.cq _ _ _ _ _ _⟩ ?_
      rintro⟨k,dn,B,d⟩ w4 ⟨hk,ze,a,O⟩;simp only at hk ze O⊢;by_cases z0:k<I[i].Names.n
      ·have zn:k<s.ab[i].Names.length:=Y;have gk:=zm.names.sl.one z0 (u:= .string s.ab[i].Names[k]) Z;rcases(show k<P∨P=k∨P<k by omega)with zy|rfl|zy
       ·obtain rfl:dn=false:=by rw[ze];exact decide_eq_false Y
        simp only[Bool.toNat_false,Nat.add_zero]at O⊢;repeat'(first|refine Wz ?_|refine SW.want Z Z ?_|refine Wn a (l.cell (i:=6) (v:= .slice q.ab.A q.ab.n q.ab.c) Z) ?_|refine Wn a g0 ?_|refine Wn a gk ?_|(refine SW.st ((wN Z Z).eq (congrArg Value.bool (zW k zn zy))) Z ?_)|fail)
        refine SW.bz Z Z Z Z Z λb w1 H hb U=>?_;obtain⟨a,O⟩:=bk H a O;refine SW.append O (ay.la (enc:=encStr) U) a.size Z Z Z Y Y λA2 c2 S F W=>?_;have a:=au a W (Ph _) O.az;refine Wz ?_;refine ah.again (k+1,false,A2,c2) ⟨Z,Z,Z,Z,Z,Z,Z,trivial⟩ dD ⟨by simp only;omega,(decide_eq_false Y).symm,a,?_⟩;simp only[Bool.toNat_false,Nat.add_zero];rw[Ex zd zy];exact F
       ·obtain rfl:dn=false:=by rw[ze];exact decide_eq_false Y
        simp only[Bool.toNat_false,Nat.add_zero]at O⊢;repeat'(first|refine Wz ?_|refine SW.want Z Z ?_|refine Wn a (l.cell (i:=6) (v:= .slice q.ab.A q.ab.n q.ab.c) Z) ?_|refine Wn a g0 ?_|refine Wn a gk ?_|(refine SW.st ((wN Z Z).eq (congrArg Value.bool (zX zn))) Z ?_)|fail)
        refine SW.bz Z Z Z Z Z λb w1 H hb U=>?_;obtain⟨a,O⟩:=bk H a O;refine SW.append O (ay.la (enc:=encStr) U) a.size Z Z Z Y Y λA2 c2 S F W=>?_;have a:=au a W (Ph _) O.az;rw[<-vk zd]at F;repeat'(first|refine Wz ?_|refine Wn a (l.cell (i:=6) (v:= .slice q.ab.A q.ab.n q.ab.c) Z) ?_|refine Wn a g0 ?_|refine Wn a gk ?_|fail)
        refine SW.bz Z Z Z Z Z λb w1 H hb U=>?_;obtain⟨a,F⟩:=bk H a F;refine SW.append F (ay.la (enc:=encStr) U) a.size Z Z Z Y Y λA3 c3 S z5 W=>?_;have a:=au a W (Ph _) F.az;refine Wz ?_;refine ah.again (P+1,true,A3,c3) ⟨Z,Z,Z,Z,Z,Z,Z,trivial⟩ dD ⟨by simp only;omega,(decide_eq_true Y).symm,a,?_⟩;simp only[Bool.toNat_true];rw[vl zd (Ph _) zn];exact z5
       obtain rfl:dn=true:=by rw[ze];exact decide_eq_true Y
       simp only[Bool.toNat_true]at O⊢;repeat'(first|refine Wz ?_|refine SW.skip Z Z Z Z ?_|refine Wn a (l.cell (i:=6) (v:= .slice q.ab.A q.ab.n q.ab.c) Z) ?_|refine Wn a g0 ?_|refine Wn a gk ?_|fail)
       refine SW.bz Z Z Z Z Z λb w1 H hb U=>?_;obtain⟨a,O⟩:=bk H a O;refine SW.append O (ay.la (enc:=encStr) U) a.size Z Z Z Y Y λA2 c2 S F W=>?_;have a:=au a W (Ph _) O.az;refine Wz ?_;refine ah.again (k+1,true,A2,c2) ⟨Z,Z,Z,Z,Z,Z,Z,trivial⟩ dD ⟨by simp only;omega,(decide_eq_true Y).symm,a,?_⟩;simp only[Bool.toNat_true];rw[vl zd Y zn];exact F
      obtain rfl:k=I[i].Names.n:=Y;have yl:=bT s.ab[i].Names zd n
      have zK:∀(B:Option Addr)(d:Nat)(S:World),Ext w3 S->Own S w3.heap.size 9 1 encStr B (I[i].Names.n+1) d (aP s.ab[i].Names P n)->
       Ext w S∧ay S b8 37 (ar .zero)∧ay S zc 37 (ar q)∧Own S w.heap.size 3 1 aT q.Words.A q.Words.n q.Words.c s.Words∧ik S w.heap.size q.Heap s.Heap∧dJ S w.heap.size q.ab I s.ab∧Own S w.heap.size 9 1 encStr B (I[i].Names.n+1) d (aP s.ab[i].Names P n):=
       λB d S hx O=>⟨zJ.trans hx,f.ext hx,l.ext hx,M.ext hx,N.ext hx,L.ext hx,O.low zJ.size⟩
      have tl:∀(B:Option Addr)(d:Nat)(S:World),lf S w.heap.size I[i] s.ab[i]->Own S w.heap.size 9 1 encStr B (I[i].Names.n+1) d (aP s.ab[i].Names P n)->lf S w.heap.size ⟨⟨B,I[i].Names.n+1,d⟩,I[i].ax,I[i].bd,I[i].Order,I[i].ae,I[i].ao⟩ (db s.ab[i] n):=
       λB d S h O=>⟨h.size,h.per,h.order,by simp only[db,hP];exact O,h.av,h.aD⟩
      cases dn
      ·have ym:P=s.ab[i].Names.length:=by
        have:=decide_eq_false_iff_not.1 ze.symm;omega
       simp only[Bool.toNat_false,Nat.add_zero]at O⊢;repeat'(first|refine Wz ?_|(refine CW.bQ Z ?_)|refine Wn a (l.cell (i:=6) (v:= .slice q.ab.A q.ab.n q.ab.c) Z) ?_|refine Wn a g0 ?_|fail)
       refine SW.bz (vs:=[.string n]) Z Z Z Z Z λb w1 H hb U=>?_;obtain⟨a,O⟩:=bk H a O;refine SW.append O (ay.la (enc:=encStr) (x:=n) U) a.size Z Z Z Y Y λA2 c2 S F W=>?_;have a:=au a W (Ph _) O.az
       have eL:(aP s.ab[i].Names P n).take I[i].Names.n++[n]=aP s.ab[i].Names P n:=by
        rw[show I[i].Names.n=P by omega,<-vk zd,Pl Y]
       rw[eL]at F;obtain⟨a,f,l,M,N,L,hN⟩:=zK A2 c2 S a F;refine Wz ?_;refine SW.eY i 0 ⟨⟨A2,I[i].Names.n+1,c2⟩,I[i].ax,I[i].bd,I[i].Order,I[i].ae,I[i].ao⟩ L.row Z Z Z zl ir Z Z λzL R zf=>?_;have zg:=L.row.gr zf;have a:=au a zf (Ph _) L.row.az;have hE:=dR.setAt (R':=lf S w.heap.size) (i:=i) L.each (tl A2 c2 S (L.each.get i zw zb) hN) (λj h1 h2 zh ho=>ho);obtain⟨f,l,M,N⟩:=cG zg f l M N;have hE:=hE.mono λ_ _ h=>h.aQ zg Z;refine Wz ?_;refine Wh f (aB q) λzM g Q=>?_;obtain⟨a,M,N,R⟩:=cG g a M N R;have hE:=hE.mono λ_ _ h=>h.aQ g.T Z;refine Wz ?_;refine ah.a9 Z Z Z Q Z ⟨_,Z,a,_,.xF hq X za ht zb (by rw[hz];exact zx) (λj hj zh=>?_),q,Z,M,N,_,R,hE⟩;rw[hz];exact zk j hj zh
      simp only[Bool.toNat_true]at O⊢;rw[Pl Y]at O;repeat'(first|refine Wz ?_|(refine CW.bo Z ?_)|refine Wn a (l.cell (i:=6) (v:= .slice q.ab.A q.ab.n q.ab.c) Z) ?_|refine Wn a g0 ?_|fail)
      obtain⟨a,f,l,M,N,L,hN⟩:=zK B d w4 a O;skip;refine SW.eY i 0 ⟨⟨B,I[i].Names.n+1,d⟩,I[i].ax,I[i].bd,I[i].Order,I[i].ae,I[i].ao⟩ L.row Z Z Z zl ir Z Z λzL R zf=>?_;have zg:=L.row.gr zf;have a:=au a zf (Ph _) L.row.az;have hE:=dR.setAt (R':=lf w4 w.heap.size) (i:=i) L.each (tl B d w4 (L.each.get i zw zb) hN) (λj h1 h2 zh ho=>ho);obtain⟨f,l,M,N⟩:=cG zg f l M N;have hE:=hE.mono λ_ _ h=>h.aQ zg Z;refine Wz ?_;refine Wh f (aB q) λzM g Q=>?_;obtain⟨a,M,N,R⟩:=cG g a M N R;have hE:=hE.mono λ_ _ h=>h.aQ g.T Z;refine Wz ?_;refine ah.a9 Z Z Z Q Z ⟨_,Z,a,_,.xF hq X za ht zb (by rw[hz];exact zx) (λj hj zh=>?_),q,Z,M,N,_,R,hE⟩;rw[hz];exact zk j hj zh
     repeat'(first|refine Wz ?_|refine Wl g1 ?_|fail)
     exact ah.again (i+1) ⟨Z,Z,Z,Z,Z,Z,trivial⟩ Y ⟨by omega,a,D,f,l,M,N,L,λj hj h=>by
      by_cases e:j=i
      ·subst e;exact zx
      exact zk j hj Y⟩
    have zs:∀(j:Nat)(hj:j<s.ab.length),s.ab[j].ax≠z:=λj hj=>zk j hj Y;by_cases z6:s.ab.length=20
    ·refine Wz ?_;refine Wh f (aB .zero) λS g Q=>?_;have a:=jc g a;refine Wz ?_;exact ah.a9 Z Z Z Q Z ⟨_,Z,a,_,.full hq X za ht (by rw[hz];exact zs) z6,cK.zero 9 _ _⟩
    have z7:s.ab.length<20:=by
     have:=hM.most;omega
    obtain⟨o,per,e,zz⟩:∃o per e,cJ z=(o,per,e):=⟨_,_,_,Z⟩;have cL:∀G,aS prog 102 [Iv z] G λv _=>v= .tuple #[Iv o,Iv per,Iv e]:=λG=>rq (td z G) zz;have yn:=hM.heap.cpus;have eC:=hr.heap.cpus;repeat'(first|refine Wz ?_|(refine Wc (cL _) λw1 E=>?_;obtain⟨a,D,f,l,M,N,L⟩:=iX E a D f l M N L)|fail)
    refine SW.bz (vs:=[.string n]) Z Z Z Z Z λbn w9 H z8 z9=>?_;have zN:=a.up z8;obtain⟨a,D,f,l,M,N,L⟩:=iX H a D f l M N L;have hN:Own w9 w.heap.size 9 1 encStr (some ⟨bn,0,none⟩) 1 1 [n]:=Own.closed (rest:=[]) Z z9 Z Y Y (by simp[maxLen]) zN;refine Wz ?_;have zA:Ext w w9:=a;refine SW.alloc Z λzB yo zO zi J=>?_;skip;refine Wg J (ox ⟨⟨some ⟨bn,0,none⟩,1,1⟩,z,per,o,.nil,.nil⟩) λyp V W=>?_;have a:=zO.own zi W;have J:=V;refine Wz ?_;obtain⟨C,yq⟩:=Pm (show 0<=r.Heap.bl by omega)
    refine CW.loop (λt:Nat×Option Addr×Nat=>[(4,Pt b4),(8,Pt b8),(10,Pt zc),(18,Pt zB),(19,Iv (t.1:Int))])
     (λt G=>t.1<=C∧Ext w9 G∧ay G zB 58 (cr ⟨⟨some ⟨bn,0,none⟩,1,1⟩,z,per,o,.nil,⟨t.2.1,t.1,t.2.2⟩⟩)∧Own G w9.heap.size 3 1 aT t.2.1 t.1 t.2.2 (List.replicate t.1 (-1))) (λt=>C-t.1) (0,none,0)
     ⟨Z,Z,Z,Z,Z,trivial⟩ ⟨by omega,a,J,Own.cq _ _ _ _ _ _⟩ ?_
    rintro⟨k,A,c⟩ zL ⟨hk,a,J,hA⟩;simp only at hk J hA⊢;by_cases yr:k<C
    ·repeat'(first|refine Wz ?_|refine Wn a (D.cell (i:=3) (v:=Iv r.Heap.bl) Z) ?_|fail)
     refine SW.bz Z Z Z Z Z λb w1 H hb O=>?_;obtain⟨a,J,hA⟩:=aY H a J hA;refine SW.append hA (ay.la (enc:=aT) O) a.size Z Z Z Y Y λA2 c2 S F W=>?_;have hG:=hA.gr W;have a:=au a W (Ph _) hA.az;(have J:=J.aQ hG Z);refine Wz ?_;refine We (i:=5) J λw6 g V=>?_;obtain⟨a,F⟩:=bk g a F;refine Wz ?_;refine ah.again (k+1,A2,c2) ⟨Z,Z,Z,Z,Z,trivial⟩ dD ⟨by simp only;omega,a,V,?_⟩;simp only;rw[QQ];exact F
    obtain rfl:k=C:=Y;have ya:=a;repeat'(first|refine Wz ?_|refine Wn a (D.cell (i:=3) (v:=Iv r.Heap.bl) Z) ?_|fail)
    have a:=zA;obtain⟨a,D,f,l,M,N,L,hN⟩:=nS ya a D f l M N L hN;have hA:=hA.low zA.size;have yb:w.heap.size<=zB:=Pj zA.size zi;refine Wz ?_;refine SW.bz Z Z Z Z Z λb zM H hb O=>?_;obtain⟨a,f,l,M,N,L,hN,hA⟩:=nS H a f l M N L hN hA;refine SW.append L.row (ay.la (enc:=cr) (x:=⟨⟨some ⟨bn,0,none⟩,1,1⟩,z,per,o,.nil,⟨A,k,c⟩⟩) O) a.size Z Z Z Y Y λA2 c2 ys F W=>?_;have hG:=L.row.gr W;have a:=au a W (Ph _) L.row.az;obtain⟨f,l,M,N,hN,hA⟩:=fi hG f l M N hN hA;have zj:=L.each.mono λ_ _ h=>h.aQ hG Z;refine Wz ?_;refine We (i:=6) l λyt g yc=>?_;obtain⟨a,f,M,N,hN,hA,F⟩:=iX g a f M N hN hA F;have zj:=zj.mono λ_ _ h=>h.aQ g.T Z;refine Wz ?_;refine Wh f (aB ⟨q.Words,q.Heap,⟨A2,q.ab.n+1,c2⟩⟩) λyu g Q=>?_;obtain⟨a,M,N,hN,hA,F⟩:=fi g a M N hN hA F;have zj:=zj.mono λ_ _ h=>h.aQ g.T Z;refine Wz ?_;refine ah.a9 Z Z Z Q Z ⟨_,Z,a,_,.new hq X za ht (by rw[hz];exact zs) z7,⟨q.Words,q.Heap,⟨A2,q.ab.n+1,c2⟩⟩,Z,M,N,_,F,?_⟩;rw[hz];refine zj.snoc ⟨Z,?_,?_,hN,Own.cq _ _ _ _ _ _,?_⟩
    ·simp only[dh,zz]
    ·simp only[dh,zz]
    have e9:s.Heap.bl.toNat=k:=Y;simp only[dh,e9];exact hA
   obtain⟨m,zo⟩:=bq (z % align);rw[zo]at hm
   have yv:z≠lY size align:=λe=>by
    rw[e,hu.2.2.1]at zo;omega
   have yw:=hu.2.2.2;have zH:z.tmod align=m:=(Pv Y).trans zo;refine Wz ?_;all_goals try omega
   exact ah.again (z+1) ⟨Z,Z,Z,Z,Z,trivial⟩ Y ⟨by omega,by omega,λy h1 h2=>by
    by_cases e:y=z
    ·subst e;rw[zo];exact hm
    exact zu y h1 Y,a,D,f⟩
  repeat'(first|refine Wz ?_|(refine Wc (bE _ _ _ _) λw1 E=>?_;obtain⟨a,D,f⟩:=aY E a D f)|fail)
  all_goals try omega
  refine Wh f (aB .zero) λS g Q=>?_;have a:=jc g a;refine Wz ?_;exact ah.a9 Z Z Z Q Z ⟨_,Z,a,_,.range hq X za,cK.zero 1 _ _⟩
 have X:¬(dW n=true∧fL align):=by rw[hp];exact T
 rcases(show p=false∨(p=true∧align≠1∧align≠2∧align≠4∧align≠8)by
  cases p
  ·exact .inl Z
  right;unfold fL at T;refine⟨Z,?_⟩;simp only[true_and]at T;omega)with rfl|⟨rfl,g⟩
 all_goals
  repeat'(first|refine Wz ?_|(refine CW.bo Z ?_)|refine SW.want Z Z ?_|refine SW.skip Z Z Z Z ?_|((first|refine Wk (c1 _ a) ?_|refine Wk (c2 _) ?_);intro v w1 E hv;subst hv;obtain⟨a,D,f⟩:=aY E a D f)|fail)
  all_goals try omega
  refine Wh f (aB .zero) λS g Q=>?_;have a:=jc g a;refine Wz ?_;exact ah.a9 Z Z Z Q Z ⟨_,Z,a,_,.form hq X,cK.zero 3 _ _⟩
theorem vP(A:Option Addr)(n c:Nat)(l:List Slab)(w:World)(i:Sl w 3 bG A n l)(f:FuncId)(cap:List Value)(p:Slab->Bool)(a:Slab->Value)(b:∀x,a x=(if 3=1 then(bG x)[0]?.getD undef else .agg (bG x).toArray))
 (j:∀x∈l,∀g,Ext w g->aS prog f ([a x]++cap) g λv _=>v= .bool (p x)) (k:n<=9223372036854775807) (q:Body prog f:=by exact j0):
 aS prog 153 [.slice A n c,.func (.func f) #[] cap.toArray] w λv _=>v= .bool (l.any p):=by
 refine Wj func153 ntmps153 ?_;have d:=Ext.refl w;repeat'(first|refine Wz ?_|(refine Wc (jG _ _ _ _ _ (i.ext d) f cap p a b (λx m h o=>j x m h (d.trans o)) k) λh e=>?_;have d:=d.trans e))
 exact ah.aF rfl rfl ⟨_,rfl,d,by rw[iN]⟩
theorem Jl(x:Slab)(f:Nat)(e:Addr)(per:Int)(w:World)(h:ay w f 116 [.pointer (some e)])(j:w.cell? (e.add 2)=some (Iv per)):
 aS prog 164 ([.agg (bG x).toArray]++[Pt f]) w λv _=>v= .bool (decide (x.ai<per)):=by
 refine Wj func164 ntmps164 ?_;refine Ww λl k a g b=>?_;have c:=h.cell (i:=0) (v:= .pointer (some e)) Z;rw[add_zero]at c;repeat'(first|refine Wz ?_|refine fq ?_|refine Wn a c ?_|refine Wn a j ?_|(refine SW.br λk d=>?_;obtain⟨a,b⟩:=bk d a b))
 exact ah.aF Z Z ⟨_,Z,a,Z⟩
theorem Fh(r:cc)(s:aj)(n:ByteArray)(w:World)(hr:mB w r s)(hf:s.bU)(zl:n.size<=140737488351232):
 aS prog 79 [.agg (ar r).toArray,.string n] w λv W=>∃u,ng s n u∧cK w.heap.size u v W:=by
 refine Wj func79 ntmps79 ?_;refine Ww λb2 w1 c X b=>?_;refine SW.alloc Z λb4 w3 zm za a=>?_;have zv:=c.up za;have zn:b4≠b2:=by have:=b.lt;omega
 obtain⟨c,b⟩:=bk zm c b;refine Wz ?_;refine Wk (tF r s n 0 _ (hr.ext c) hf zl) λv w4 y F=>?_;have zb:=c.size;obtain⟨c,b,a⟩:=aY y c b a;rcases F with⟨M,rfl⟩|⟨M,q,cs,rfl,d,z⟩
 ·obtain⟨e,G⟩:=bq (ga s n 0);have hP:=ng.ask M;rw[G]at M hP;rw[G];refine Wz ?_;refine Wh b (aB .zero) λw5 g zw=>?_;obtain⟨a,c⟩:=bk g a c;refine Wz ?_;all_goals try omega
  refine Wh a (aB .zero) λw6 g l=>?_;have c:=jc g c;refine Wz ?_;exact ah.a9 Z Z Z l Z ⟨_,Z,c,_,hP,cK.zero e _ _⟩
 have d:=d.low zb;have z:=z.low zb;obtain⟨hq,ht,_⟩:=jj M;obtain⟨i,A,zc,_,I⟩:=eK ht;have hM:=dg.1 hq;have hm:=hM.most;rw[I];obtain⟨e1,e2⟩:=d.len;have N:i<cs.length:=Y;have m:i<q.ab.n:=Y;have zz:=d.row.sl.base;have e0:=jk A;have h2:=hf.ID A;have q0:=(hM.each i A).oB hM.heap (λj h=>hM.each j h);have B:=(hM.each i A).names.iy;have zd:n∈s.ab[i].Names:=dx.1 zc;obtain⟨zo,zA,_⟩:=tG B zd;obtain⟨P,ze⟩:=bq (jv s.ab[i].Names n);refine Wz ?_;refine Wh b (aB q) λw5 g b=>?_;obtain⟨a,c,d,z⟩:=cG g a c d z;refine Wz ?_;refine SW.alloc Z λO w7 zp zf f=>?_;have zx:=c.up zf;obtain⟨c,b,a,d,z⟩:=dz zp c b a d z;refine We (i:=0) f λw8 g K=>?_;obtain⟨c,b,a,d,z⟩:=dz g c b a d z;have f:ay w8 O 116 [.pointer (some ((q.ab.A.getD default).add (i*6)))]:=K
 have C:∀W,ay W O 116 [.pointer (some ((q.ab.A.getD default).add (i*6)))]->W.cell? ⟨O,0,none⟩=some (.pointer (some ((q.ab.A.getD default).add (i*6)))):=λW h=>by
  have:=h.cell (i:=0) (v:= .pointer (some ((q.ab.A.getD default).add (i*6)))) Z;rwa[add_zero]at this
 have t:=d.each.get i N A;have q1:=t.names.len;have q2:=t.av.len;have q3:=h2.small.av;have zg:=t.per;by_cases hl:1<s.ab[i].Names.length
 ·have V:=ng.name M I A hl;rw[ze]at zo V;have zh:P<cs[i].Names.n:=Y;repeat'(first|refine Wz ?_|refine Wl (C _ f) ?_|refine Wl (d.row.sl.dp m (j:=0) (u:= .slice cs[i].Names.A cs[i].Names.n cs[i].Names.c) Z) ?_)
  all_goals try omega
  refine Wk (xG _ _ _ _ n _ t.names.sl B Y) λv w9 y F=>?_;obtain⟨bb,rfl⟩:=F;rw[ze];obtain⟨c,b,a,f,d⟩:=dz y c b a f d;rw[<-e0]at d;refine Wz ?_;refine CW.iF 8 11 (λw2=>ay w2 O 116 [.pointer (some ((q.ab.A.getD default).add (i*6)))]) mixed bm λw1 zi Q=>?_;obtain⟨c,b,a,f,d⟩:=dz zi c b a f d;refine Wi 0 [] Q Z (aJ Z (C _ f)) (λw2 E=>aJ Z (C _ E)) ?_;refine Wt 1 [4,3,2] [] Q Z (aJ Z (C _ f)) ?_;refine Wf ?_;refine Wt 4 [] [] Q Z (aJ Z (d.row.sl.dp m (j:=0) (u:= .slice cs[i].Names.A cs[i].Names.n cs[i].Names.c) Z)) ?_;refine Wf ?_;refine SF.eW ?_;have t:=d.get N A;simp only at t;refine SW.cm Z Z (oZ dC _ _ _ w.heap.size _ _ t.names P zh Y c.size) λv R F=>?_;obtain⟨rfl,zq,S⟩:=F;have zj:=t.names.gr S;have J:=d.L0 N A zq S;have c:=au c S (Ph _) t.names.az;obtain⟨b,a⟩:=bk zj b a;have E:=f.aQ zj Z;refine SW.nil (ah.sg E ?_);refine SG.bD 9 ?_;repeat((show SW _ _ _ _ (⟨_,Op.nilCheck _,_,_,_,none⟩::_) _ _;refine SW.st (aX Z) Z ?_))
  refine SW.nil (ah.sg E ?_);refine SG.bD 10 ?_;repeat((show SW _ _ _ _ (⟨_,Op.fieldAddr _ _ _,_,_,_,none⟩::_) _ _;refine SW.st (aI Z) Z ?_))
  refine SW.nil (ah.sg E ?_);refine SG.dQ ?_;refine SW.eY i 0 ⟨⟨cs[i].Names.A,cs[i].Names.n-1,cs[i].Names.c⟩,cs[i].ax,cs[i].bd,cs[i].Order,cs[i].ae,cs[i].ao⟩ J.row Z Z Z m ir Z Z λzr T U=>?_;have zs:=J.row.gr U;have D:=J.sw T U;have c:=au c U (Ph _) J.row.az;obtain⟨b,a⟩:=bk zs b a;refine Wz ?_;refine Wh a (aB q) λzt g l=>?_;obtain⟨c,D⟩:=bk g c D;refine Wz ?_;exact ah.a9 Z Z Z l Z ⟨_,Z,c,_,V,⟨_,Z,D.nb⟩⟩
 repeat'(first|refine Wz ?_|refine Wl (C _ f) ?_|refine Wl (d.row.sl.dp m (j:=0) (u:= .slice cs[i].Names.A cs[i].Names.n cs[i].Names.c) Z) ?_|refine Wl (d.row.sl.dp m (j:=4) (u:= .slice cs[i].ae.A cs[i].ae.n cs[i].ae.c) Z) ?_|(refine SW.st (gH (vs:=[Pt O]) Z) Z ?_))
 all_goals try omega
 have gP:=d.row.sl.dp m (j:=2) (u:=Iv cs[i].bd) Z
 refine Wc (vP _ _ _ s.ab[i].ae _ t.av.sl _ [Pt O] (λx=>decide (x.ai<s.ab[i].bd)) (λx=> .agg (bG x).toArray) (λx=>Z) (λx hx w1 zk=>by
  have:=Jl x O _ cs[i].bd w1 (f.ext zk) (zk.cell gP);rwa[zg]at this) Y) λw9 y=>?_;have zu:(s.ab[i].ae.any λx=>decide (x.ai<s.ab[i].bd))=Cb s.ab[i]:=Z;rw[zu];obtain⟨c,b,a,d,z⟩:=dz y c b a d z;cases hb:Cb s.ab[i]
 ·have V:=ng.cache M I A hl hb;refine Wz ?_;refine SW.cm Z Z (zZ w _ b2 q s cs i hf c b X d z A Y) λv R F=>?_;obtain⟨rfl,H,cs',hh⟩:=F;have c:=hh.ext;have a:=hh.kp _ _ zn a;have hb:=hh.dm;have E:=hh.sx;have o:Own R w.heap.size 58 6 cr q.ab.A q.ab.n q.ab.c cs':=E.row;have zy:=o.sl.base;refine Wz ?_;refine SW.cm Z Z (oZ dK _ _ _ w.heap.size _ _ o i m Y c.size) λv zr F=>?_;obtain⟨rfl,k,L⟩:=F;have p:=o.gr L;have c:=au c L (Ph _) o.az;obtain⟨hb,a⟩:=bk p hb a;have hX:=E.words.aQ p Z;have hY:=E.heap.aQ p Z;have G:=(E.each.KU i).mono λ_ _ h=>h.aQ p Z;rw[qN]at G;refine Wz ?_;refine We (i:=6) hb λzt g zB=>?_;obtain⟨a,c,hX,hY,k⟩:=dz g a c hX hY k;have G:=G.mono λ_ _ h=>h.aQ g.T Z;refine Wz ?_;refine Wh a (aB ⟨q.Words,H,⟨q.ab.A,q.ab.n-1,q.ab.c⟩⟩) λzC g l=>?_;obtain⟨c,hX,hY,k⟩:=cG g c hX hY k;have G:=G.mono λ_ _ h=>h.aQ g.T Z;refine Wz ?_;exact ah.a9 Z Z Z l Z ⟨_,Z,c,_,V,⟨⟨q.Words,H,⟨q.ab.A,q.ab.n-1,q.ab.c⟩⟩,Z,hX,hY,_,k,G⟩⟩
 have V:=ng.busy M I A hl hb;refine Wz ?_;refine Wh a (aB .zero) λR g l=>?_;have c:=jc g c;refine Wz ?_;exact ah.a9 Z Z Z l Z ⟨_,Z,c,_,V,cK.zero 7 _ _⟩
theorem vQ(r:cc)(s:aj)(n:ByteArray)(w:World)(hr:mB w r s)(hf:s.bU):
 aS prog 43 [.agg (ar r).toArray,.string n] w λv p=>∃u,ng s n u∧cK w.heap.size u v p:=by
 refine Wj func43 ntmps43 ?_;have hs:=hf.small;refine Ww λb2 w1 a zJ f=>?_;refine SW.alloc Z λb4 w3 zx zj d=>?_;have zK:=a.up zj;have zS:b4≠b2:=by have:=f.lt;omega
 obtain⟨a,f⟩:=bk zx a f;obtain⟨e,hE⟩:=bq (ga s n 0)
 have cA:∀p,Ext w p->aS prog 117 [.agg (ar r).toArray,.string n,Iv 0] p λv _=>v=Iv e:=λp hx=>by
  have:=kR r s n 0 p (hr.ext hx) hf;rwa[hE]at this
 by_cases zk:e=0
 ·subst zk;obtain⟨hq,ht,_⟩:=jj hE;obtain⟨i,Q,zl,_,R⟩:=eK ht
  have c3:∀p,Ext w p->aS prog 101 [.agg (ar r).toArray,.string n] p λv _=>v=Iv (i:Int):=λp hx=>by
   have:=gg r s n p (hr.ext hx) hs;rwa[R]at this
  have hM:=dg.1 hq;have hm:=hM.most;have h2:=hf.ID Q;have q0:=(hM.each i Q).oB hM.heap (λj h=>hM.each j h);have za:=(hM.each i Q).names.iy;have zm:n∈s.ab[i].Names:=dx.1 zl;obtain⟨zy,zn,zo⟩:=tG za zm;obtain⟨rs,hc⟩:=hr.aV;obtain⟨z1,z2⟩:=hc.len;have zz:i<rs.length:=Y;have K:i<r.ab.n:=Y;have E:=hc.each.get i zz Q;have zT:=hc.row.base;have zU:=E.names.base;have zL:=E.av.base;have q1:=E.names.len;have q2:=E.av.len;have q3:=h2.small.av;have zM:=E.per;have g0:=hc.row.dp K (j:=0) (u:= .slice rs[i].Names.A rs[i].Names.n rs[i].Names.c) Z;have g4:=hc.row.dp K (j:=4) (u:= .slice rs[i].ae.A rs[i].ae.n rs[i].ae.c) Z;have g2:=hc.row.dp K (j:=2) (u:=Iv rs[i].bd) Z;repeat'(first|refine Wz ?_|((first|refine Wk (cA _ a) ?_|refine Wk (c3 _ a) ?_);intro v w1 z hv;subst hv;obtain⟨a,f,d⟩:=aY z a f d)|fail)
  all_goals try omega
  refine Wk (cX r s _ (hr.ext a) hs) λv w6 C hv=>?_;obtain⟨q,cs,rfl,B,J⟩:=hv;have B:=B.low a.size;have J:=J.low a.size;obtain⟨a,f,d⟩:=aY C a f d;have zN:=d.lt;refine Wr (aB q) λb8 w2 C zp l=>?_;have zO:=a.up zp;obtain⟨a,f,d,B,J⟩:=dz C a f d B J;have zP:b4≠b8:=Y;obtain⟨e1,e2⟩:=B.len;have zA:i<cs.length:=Y;have zB:i<q.ab.n:=Y;by_cases hl:1<s.ab[i].Names.length
  ·have S:=ng.name hE R Q hl;obtain⟨P,zC⟩:=bq (jv s.ab[i].Names n);simp only[zC]at zy S zo zn;repeat'(first|refine Wz ?_|refine Wn a g0 ?_|fail)
   all_goals try omega
   have F:Ext w w2:=a;have zb:=F.cell g0;have zD:=E.names.ext F
   refine CW.loop (λt:Nat×Nat×Option Addr×Nat=>[(1,.string n),(2,Pt b2),(4,Pt b4),(7,Iv (i:Int)),(8,Pt b8),(9,.slice t.2.2.1 t.2.1 t.2.2.2),(10,Iv (t.1:Int))])
    (λt p=>t.1<=rs[i].Names.n∧t.2.1<=t.1∧Ext w2 p∧Own p w2.heap.size 9 1 encStr t.2.2.1 t.2.1 t.2.2.2 ((s.ab[i].Names.take t.1).eraseIdx P)) (λt=>rs[i].Names.n-t.1) (0,0,none,0)
    ⟨Z,Z,Z,Z,Z,Z,Z,trivial⟩ ⟨PL _,PL _,Ext.refl _,by simpa using Own.cq _ _ _ _ _ _⟩ ?_
   rintro⟨j,m,A,c⟩ w9 ⟨hj,zc,a,o⟩;simp only at hj zc o⊢;have gC:=f.cell (i:=6) (v:= .slice r.ab.A r.ab.n r.ab.c) Z;by_cases zd:j<rs[i].Names.n
   ·have L:j<s.ab[i].Names.length:=Y;have gk:=zD.one zd (u:= .string s.ab[i].Names[j]) Z;by_cases ze:j=P
    ·subst ze;have M:decide (s.ab[i].Names[j]≠n)=false:=decide_eq_false (λh=>h zn);repeat'(first|refine Wz ?_|refine Wn a gC ?_|refine Wn a (zb) ?_|refine Wn a gk ?_|(refine SW.st ((mA Z Z).eq (congrArg Value.bool M)) Z ?_)|fail)
     refine ah.again (j+1,m,A,c) ⟨Z,Z,Z,Z,Z,Z,Z,trivial⟩ dD ⟨by simp only;omega,by simp only;omega,a,?_⟩;simp only;rw[od L];exact o
    have M:decide (s.ab[i].Names[j]≠n)=true:=decide_eq_true (λh=>ze (zo j L h));repeat'(first|refine Wz ?_|refine Wn a gC ?_|refine Wn a (zb) ?_|refine Wn a gk ?_|(refine SW.st ((mA Z Z).eq (congrArg Value.bool M)) Z ?_)|fail)
    refine SW.bz Z Z Z Z Z λb zq C hb zf=>?_;obtain⟨a,o⟩:=bk C a o;refine SW.append o (ay.la (enc:=encStr) zf) a.size Z Z Z Y Y λA2 c2 N zg hg=>?_;have a:=au a hg (Ph _) o.az;refine Wz ?_;refine ah.again (j+1,m+1,A2,c2) ⟨Z,Z,Z,Z,Z,Z,Z,trivial⟩ dD ⟨by simp only;omega,by simp only;omega,a,?_⟩;simp only;rw[oc L ze];exact zg
   obtain rfl:j=rs[i].Names.n:=Y;rw[Pl Y]at o;have T:=a;repeat'(first|refine Wz ?_|refine Wn a gC ?_|refine Wn a (zb) ?_|fail)
   have a:=F;obtain⟨a,d,l,B⟩:=cG T a d l B;have o:=o.low F.size;have zV:=B.row.sl.base;refine Wz ?_;have hC:=B.each.get i zA Q;refine SW.eY i 0 ⟨⟨A,m,c⟩,cs[i].ax,cs[i].bd,cs[i].Order,cs[i].ae,cs[i].ao⟩ B.row Z Z Z zB ir Z Z λzE G zr=>?_;have U:=B.row.gr zr;have a:=au a zr (Ph _) B.row.az;have V:=B.words.aQ U Z;have W:=B.heap.aQ U Z;have zh:=(dR.setAt (R':=lf w9 w.heap.size) (i:=i) (x:=⟨⟨A,m,c⟩,cs[i].ax,cs[i].bd,cs[i].Order,cs[i].ae,cs[i].ao⟩) (y:=du s.ab[i] P) B.each ⟨hC.size,hC.per,hC.order,o,hC.av,hC.aD⟩ (λj h1 h2 zW ho=>ho)).mono λ_ _ h=>h.aQ U Z;obtain⟨d,l⟩:=bk U d l;refine Wz ?_;refine Wh d (aB q) λzs g I=>?_;obtain⟨a,V,W,G⟩:=cG g a V W G;have zh:=zh.mono λ_ _ h=>h.aQ g.T Z;refine Wz ?_;exact ah.a9 Z Z Z I Z ⟨_,Z,a,_,S,⟨q,Z,V,W,_,G,zh⟩⟩
  repeat'(first|refine Wz ?_|refine Wn a g0 ?_|fail)
  all_goals try omega
  refine CW.loop (λj:Nat=>[(2,Pt b2),(4,Pt b4),(7,Iv (i:Int)),(8,Pt b8),(11,Iv (j:Int))])
   (λj p=>j<=rs[i].ae.n∧Ext w p∧ay p b2 37 (ar r)∧ay p b4 37 (ar .zero)∧ay p b8 37 (ar q)∧SX p w.heap.size q s cs∧SI p w.heap.size q s cs∧∀(k:Nat)(hk:k<s.ab[i].ae.length),k<j->¬s.ab[i].ae[k].ai<s.ab[i].bd) (λj=>rs[i].ae.n-j) 0
   ⟨Z,Z,Z,Z,Z,trivial⟩ ⟨PL _,a,f,d,l,B,J,λk hk h=>by omega⟩ ?_
  rintro j w9 ⟨hj,a,f,d,l,B,J,zt⟩;by_cases zd:j<rs[i].ae.n
  ·have L:j<s.ab[i].ae.length:=Y;obtain⟨y,hy⟩:=bq (s.ab[i].ae[j]);have gF:=E.av.dp zd (j:=1) (show(bG (s.ab[i].ae[j]'Y))[1]?=some (Iv y.ai)by rw[hy];rfl);by_cases hb:y.ai<s.ab[i].bd
   ·have zi:Cb s.ab[i]=true:=Pn.2 ⟨y,hy▸Pf L,decide_eq_true hb⟩;have S:=ng.busy hE R Q hl zi;repeat'(first|refine Wz ?_|refine fq ?_|refine Wn a g4 ?_|refine Wn a g2 ?_|refine Wn a gF ?_|(refine SW.br λw1 z=>?_;obtain⟨a,f,d⟩:=aY z a f d)|fail)
    all_goals try omega
    refine Wh d (aB .zero) λzq g I=>?_;have a:=jc g a;refine Wz ?_;exact ah.a9 Z Z Z I Z ⟨_,Z,a,_,S,cK.zero 7 _ _⟩
   repeat'(first|refine Wz ?_|refine fq ?_|refine Wn a g4 ?_|refine Wn a g2 ?_|refine Wn a gF ?_|(refine SW.br λw1 z=>?_;obtain⟨a,f,d,l,B,J⟩:=fi z a f d l B J)|fail)
   all_goals try omega
   refine ah.again (j+1) ⟨Z,Z,Z,Z,Z,trivial⟩ Y ⟨by omega,a,f,d,l,B,J,λk hk h=>?_⟩;by_cases e:k=j
   ·subst e;rw[hy];exact hb
   exact zt k hk Y
  have zi:Cb s.ab[i]=false:=by
   refine PA.2 λx hx=>?_;obtain⟨k,hk,rfl⟩:=Pg hx;simpa using zt k hk Y
  have S:=ng.cache hE R Q hl zi;repeat'(first|refine Wz ?_|refine Wn a g4 ?_|fail)
  refine SW.cm Z Z (AE w _ q s cs i hf a B J Q Y) λv zq hv=>?_;obtain⟨H,cs',rfl,zF,X,zu⟩:=hv;have a:=zF;have d:=zu _ _ d;have l:=zu _ _ l;skip;refine Wh l (aB ⟨q.Words,H,q.ab⟩) λN g l=>?_;obtain⟨d,a,X⟩:=aY g d a X;have O:Own N w.heap.size 58 6 cr q.ab.A q.ab.n q.ab.c cs':=X.row;have zQ:=O.sl.base;have zX:=O.len;have D:=X.each.KU i;rw[qN]at D;refine Wz ?_;have F:Ext w N:=a
  refine CW.loop (λt:Nat×Nat×Option Addr×Nat=>[(4,Pt b4),(7,Iv (i:Int)),(8,Pt b8),(12,.slice t.2.2.1 t.2.1 t.2.2.2),(13,Iv (t.1:Int))])
   (λt p=>t.1<=q.ab.n∧t.2.1<=t.1∧Ext N p∧Own p N.heap.size 58 6 cr t.2.2.1 t.2.1 t.2.2.2 ((cs'.take t.1).eraseIdx i)) (λt=>q.ab.n-t.1) (0,0,none,0)
   ⟨Z,Z,Z,Z,Z,trivial⟩ ⟨PL _,PL _,Ext.refl _,by simpa using Own.cq _ _ _ _ _ _⟩ ?_
  rintro⟨k,m,A,c⟩ zE ⟨hk,zc,a,o⟩;simp only at hk zc o⊢;have gC:=l.cell (i:=6) (v:= .slice q.ab.A q.ab.n q.ab.c) Z;have zG:=O.sl;by_cases zH:k<q.ab.n
  ·have zv:k<cs'.length:=Y;by_cases zw:k=i
   ·subst zw;repeat'(first|refine Wz ?_|refine Wn a gC ?_|fail)
    all_goals try omega
    refine ah.again (k+1,m,A,c) ⟨Z,Z,Z,Z,Z,trivial⟩ dD ⟨by simp only;omega,by simp only;omega,a,?_⟩;simp only;rw[od zv];exact o
   repeat'(first|refine Wz ?_|refine Wn a gC ?_|refine Wo a ((zG.all zH)) ?_|fail)
   all_goals try omega
   refine SW.bz Z Z Z Z Z λb zs C hb zf=>?_;obtain⟨a,o⟩:=bk C a o;refine SW.append o (ay.la (enc:=cr) zf) a.size Z Z Z Y Y λA2 c2 zI zg hg=>?_;have a:=au a hg (Ph _) o.az;refine Wz ?_;refine ah.again (k+1,m+1,A2,c2) ⟨Z,Z,Z,Z,Z,trivial⟩ dD ⟨by simp only;omega,by simp only;omega,a,?_⟩;simp only;rw[oc zv zw];exact zg
  obtain rfl:k=q.ab.n:=Y;rw[Pl Y]at o;have T:=a;repeat'(first|refine Wz ?_|refine Wn a gC ?_|fail)
  have a:=F;obtain⟨a,d,l,X⟩:=cG T a d l X;have o:=o.low F.size;have D:=D.mono λ_ _ h=>h.ext T;have V:=X.words;have W:=X.heap;refine We (i:=6) l λzs g zR=>?_;obtain⟨d,a,V,W,o⟩:=dz g d a V W o;have D:=D.mono λ_ _ h=>h.aQ g.T Z;refine Wz ?_;refine Wh d (aB ⟨q.Words,H,⟨A,m,c⟩⟩) λzI g I=>?_;obtain⟨a,V,W,o⟩:=cG g a V W o;have D:=D.mono λ_ _ h=>h.aQ g.T Z;refine Wz ?_;exact ah.a9 Z Z Z I Z ⟨_,Z,a,_,S,⟨⟨q.Words,H,⟨A,m,c⟩⟩,Z,V,W,_,o,D⟩⟩
 have S:=ng.ask (s:=s) (n:=n) (by rw[hE];exact zk);rw[hE]at S;repeat'(first|refine Wz ?_|(refine Wc (cA _ a) λw1 z=>?_;obtain⟨a,f,d⟩:=aY z a f d)|fail)
 all_goals try omega
 refine Wh d (aB .zero) λw6 g I=>?_;have a:=jc g a;refine Wz ?_;exact ah.a9 Z Z Z I Z ⟨_,Z,a,_,S,cK.zero e _ _⟩
variable {cpus least size:Int} {s0:aj} {u:aj×Int}
inductive nL(s0:aj):Nat->aj->Prop where
 | zero:nL s0 0 s0
 | succ {j:Nat} {s:aj} {u:aj×Int} (m:nL s0 j s) (h:mj s (fm (kP j)) (kP j) 1 u):nL s0 (j+1) u.1
theorem nL.c7{t:aj}(x:nL s0 j s):nL s0 j t->s=t:=by
 induction x generalizing t with
 | zero=>intro y;cases y;rfl
 | succ m h a=>
   intro y;cases y with
   | succ b h'=>
     obtain rfl:=a b;rw[h.c7 h']
theorem aj.BN:aj.zero.bU:=⟨aj.gu,by simp[aj.zero,Heap.zero],by simp[aj.zero],by simp[aj.zero]⟩
theorem mj.bU{align:Int}(a:mj s n size align u)(e:s.bU)(l:n.size<=140737488351232):u.1.bU:=by
 have f:=a.small e.small;cases a with
 | bad|form|range|kA|full=>exact aj.BN
 | @xF i h g j o k p q=>
   refine⟨f,e.bA,λc b=>?_,λc b=>?_⟩
   ·rcases Pu b with b|rfl
    ·exact e.av c b
    exact e.av s.ab[i] (Pf k)
   rcases Pu b with b|rfl
   ·exact e.names c b
   intro m d;simp only[db]at d;unfold aP at d;simp only[List.mem_append,List.mem_singleton]at d;rcases d with(d|rfl)|d
   ·exact e.names _ (Pf k) _ (P5 d)
   ·exact l
   exact e.names _ (Pf k) _ (QP d)
 | new h g j o p r=>
   refine⟨f,e.bA,λc b=>?_,λc b=>?_⟩
   ·rcases Px.1 b with b|b
    ·exact e.av c b
    grind[List.mem_singleton,dh]
   rcases Px.1 b with b|b
   ·exact e.names c b
   grind[List.mem_singleton,dh]
theorem nL.bU(x:nL s0 j s):s0.bU->j<=6->s.bU:=by
 induction x with
 | zero=>grind
 | succ m h a=>exact λb c=>h.bU (a b Y) (uF Y)
def AY(h:Heap):aj:=⟨List.replicate 4096 0,h,[]⟩
theorem Ks{l:List Region}{split:Int}(h:eu 0 split):∀z∈[(fa l split 256).1,(fa l split 256).2],ew z:=by
 obtain⟨a,b⟩:=m6 (l:=l) h 256;have c:=a.from_;have d:=a.kW;have e:=b.from_;have f:=b.kW;grind[C1,ew]
inductive eJ(o:Int×List Region)(split least cpus:Int):aj×Int->Prop where
 | IE (h:o.1≠0):eJ o split least cpus (.zero,o.1)
 | heap (h:o.1=0) (h2:(fe o.2 split least cpus).1≠0):eJ o split least cpus (.zero,(fe o.2 split least cpus).1)
 | made {t:aj} (h:o.1=0) (h2:(fe o.2 split least cpus).1=0) (m:nL (AY (fe o.2 split least cpus).2) 6 t):eJ o split least cpus (t,0)
theorem eJ.c7{o:Int×List Region}{split:Int}{v:aj×Int}(a:eJ o split least cpus u)(b:eJ o split least cpus v):u=v:=by
 cases a with
 | IE h=>cases b<;>grind
 | heap h c=>cases b<;>grind
 | made h c m=>cases b with
   | IE h'=>omega
   | heap _ d=>omega
   | made _ _ e=>rw[m.c7 e]
theorem uJ{l:List Region}{split:Int}(h:(fe l split least cpus).1=0):(AY (fe l split least cpus).2).bU:=by
 have a:=xP l split least cpus;refine⟨⟨by unfold AY<;>grind,a,PL _,λc h=>absurd h Rb⟩,?_,λc h=>absurd h Rb,λc h=>absurd h Rb⟩;cases b:dv l
 ·rw[m7 b]at h;grind
 by_cases d:lC split least cpus
 ·rw[m8 b d];exact Ks d.1
 grind[ko]
theorem eJ.bU{o:Int×List Region}{split:Int}(a:eJ o split least cpus u):u.1.bU:=by
 cases a with
 | IE|heap=>exact aj.BN
 | made h b m=>exact m.bU (uJ b) Y
theorem vj(N:Nat)(x y:List Region):(iK N x y).2.length<=N:=by
 cases h:nJ x y
 ·rw[uH h];grind
 rw[uG h];exact(re _ _).len
variable {b d m:Nat} {B:Option Addr}
def gw(A:Option Addr)(n c:Nat)(B:Option Addr)(m d:Nat)(split least cpus:Int):List Value:=[.slice A n c,.slice B m d,Iv split,Iv least,Iv cpus]
theorem Kx{t:Nat}{n c:Nat}{split:Int}(h:ay w b t (gw A n c B m d split least cpus)):∀j v,(ia A n c B m d)[j]?=some v->w.cell? ((((⟨b,0,none⟩:Addr)).add 0).add j)=some v:=λj v a=>by
 rw[add_add];refine h.cell (i:=0+j) ?_
 match j,a with
 | 0,a=>exact a
 | 1,a=>exact a
theorem Ez(A:Option Addr)(n c:Nat)(B:Option Addr)(m d:Nat)(x y:List Region)(split least cpus:Int)(w:World)(hx:Sl w 2 eV A n x)(hy:Sl w 2 eV B m y)(hn:n<=9223372036854775807)(hm:m<=9223372036854775807)(za: -9223372036854775808<=split∧split<=9223372036854775807)(hS:jD w):
 aS prog 8 [.agg (gw A n c B m d split least cpus).toArray] w λv J=>∃u,eJ (iK 256 x y) split least cpus u∧cK w.heap.size u v J:=by
 refine Wj func8 ntmps8 ?_;refine Ww λb1 w1 b zi f=>?_;refine SW.alloc Z λb2 w2 zb N a=>?_;have zj:=b.up N;obtain⟨b,f⟩:=bk zb b f;have O:=vj 256 x y;repeat'(first|refine Wz ?_|refine Wm ((Kx f)) ?_)
 refine Wk (FR A n c B m d x y 256 Z _ (hx.ext b) (hy.ext b) hn hm) λv w5 zc C=>?_;obtain⟨o,ho⟩:=bq (iK 256 x y);rw[ho]at C O⊢;obtain⟨A1,c1,rfl,hO⟩:=C;have hO:=hO.low b.size;obtain⟨b,f,a⟩:=aY zc b f a;by_cases P:o.1=0
 ·rw[P];refine Wz ?_;refine Wk (Kk A1 o.2.length c1 o.2 split least cpus _ hO.sl Y za) λv w6 zd C=>?_;have E:=λF=>uJ (l:=o.2) (split:=split) (least:=least) (cpus:=cpus) F;obtain⟨e,he⟩:=bq (fe o.2 split least cpus);have Q:=λF=>eJ.heap (o:=o) (split:=split) (least:=least) (cpus:=cpus) P F;have R:=λ(t:aj)F m=>eJ.made (o:=o) (split:=split) (least:=least) (cpus:=cpus) (t:=t) P F m;rw[he]at C E Q R;obtain⟨H,rfl,I⟩:=C;have I:=I.low b.size;obtain⟨b,f,a⟩:=aY zd b f a;by_cases F:e.1=0
  ·rw[F];refine Wz ?_;refine Wr (bw H) λb6 w2 i G D=>?_;have S:=b.up G;obtain⟨b,f,a,I⟩:=cG i b f a I;refine Wz ?_;refine Wk (LD 256 _) λv w7 ze C=>?_;rw[if_pos ⟨by decide,by decide⟩]at C;obtain⟨A2,c2,rfl,M⟩:=C;have M:Own w7 w.heap.size 3 1 aT A2 4096 c2 (List.replicate 4096 0):=M.low b.size;obtain⟨b,f,a,D,I⟩:=dz ze b f a D I;refine Wz ?_;have zl:=a.lt;refine Wr (aB ⟨⟨A2,4096,c2⟩,H,.nil⟩) λb9 w2 i T p=>?_;have zk:=b.up T;obtain⟨b,f,a,D,I,M⟩:=fi i b f a D I M;have zm:b2≠b9:=Y;have k:gK _ w.heap.size ⟨⟨A2,4096,c2⟩,H,.nil⟩ (AY e.2):=⟨M,I,⟨[],dJ.nil _ _⟩⟩;repeat'(first|refine Wz ?_|refine Wo b ((BF hS)) ?_)
   refine CW.loop (λs:Nat×cc×aj=>[(2,Pt b2),(9,Pt b9),(44,.agg (kL.map (Value.int .i64)).toArray),(45,Iv (s.1:Int))])
    (λs J=>s.1<=6∧Ext w J∧ay J b2 37 (ar .zero)∧ay J b9 37 (ar s.2.1)∧gK J w.heap.size s.2.1 s.2.2∧nL (AY e.2) s.1 s.2.2) (λs=>6-s.1) (0,⟨⟨A2,4096,c2⟩,H,.nil⟩,AY e.2)
    ⟨Z,Z,Z,Z,trivial⟩ ⟨by omega,b,a,p,k,.zero⟩ ?_
   rintro⟨j,r,s⟩ J ⟨hj,b,a,p,k,hM⟩;simp only at hj p k hM⊢;by_cases K:j<6
   ·obtain⟨k1,k2,k3,k4⟩:=G8 K;have U:=uF K;have hf:=hM.bU (E F) hj;have kS:=G9 j;obtain⟨z,hz⟩:=bq (kP j);have zf:=λ(u:aj×Int)(h:mj s (fm z) z 1 u)=>nL.succ (u:=u) hM (hz▸h);rw[hz]at k1 k2 k3 k4 U kS;have zg:(kL.map (Value.int .i64))[j]?=some (Iv z):=by rw[List.getElem?_map,k2];rfl
    repeat'(first|refine Wz ?_|(refine SW.st (pa j Z Z Z K zg) Z ?_))
    refine CW.iF 8 8 (λ_=>True) mixed bm λw1 V zh=>?_;obtain⟨b,a,p,k⟩:=cG V b a p k;refine Wf ?_;refine SF.bD 2 ?_;refine Wc (uE z k1 _) λw4 i=>?_;obtain⟨b,a,p,k⟩:=cG i b a p k;refine SW.nil (ah.sf i ?_);refine SF.bD 4 ?_;refine Wk (xS r s (fm z) z 1 _ k.rd hf U) λv w4 i C=>?_;obtain⟨u,hu,q,rfl,W⟩:=C;have W:=W.low b.size;obtain⟨b,a,p⟩:=aY i b a p;refine SW.nil (ah.sf i ?_);refine Wf ?_;refine SF.gm 7 zh Z bm bm Z (λ_=>aH Z) Z ?_;refine SF.dQ ?_;refine Wh p (aB q) λw6 g X=>?_;obtain⟨a,b,W⟩:=aY g a b W;refine Wz ?_;exact ah.again (j+1,q,u.1) ⟨Z,Z,Z,Z,trivial⟩ dD ⟨by simp only;omega,b,a,X,W,zf u hu⟩
   obtain rfl:j=6:=Y;refine Wz ?_;refine Wh a (aB r) λw6 g hR=>?_;obtain⟨b,k⟩:=bk g b k;refine Wz ?_;exact ah.a9 Z Z Z hR Z ⟨_,Z,b,_,R s F hM,r,Z,k⟩
  have C:=Q F;obtain⟨e1,L⟩:=bq e.1;rw[L]at F C⊢;refine Wz ?_;refine Wr (bw H) λb6 w2 i G D=>?_;have S:=b.up G;obtain⟨b,a⟩:=bk i b a;refine Wz ?_;refine Wh a (aB .zero) λw7 g hR=>?_;have b:=jc g b;refine Wz ?_;exact ah.a9 Z Z Z hR Z ⟨_,Z,b,_,C,cK.zero _ _ _⟩
 have C:=eJ.IE (split:=split) (least:=least) (cpus:=cpus) P;obtain⟨e1,L⟩:=bq o.1;rw[L]at P C⊢;refine Wz ?_;refine Wh a (aB .zero) λw7 g hR=>?_;have b:=jc g b;refine Wz ?_;exact ah.a9 Z Z Z hR Z ⟨_,Z,b,_,C,cK.zero _ _ _⟩
theorem AZ(A:Option Addr)(n c:Nat)(B:Option Addr)(m d:Nat)(x y:List Region)(split least cpus:Int)(w:World)(hx:Sl w 2 eV A n x)(hy:Sl w 2 eV B m y)(hn:n<=9223372036854775807)(hm:m<=9223372036854775807)(za: -9223372036854775808<=split∧split<=9223372036854775807):
 aS prog 11 [.agg (gw A n c B m d split least cpus).toArray] w λv E=>∃u,eJ (iK 256 x y) split least cpus u∧cK w.heap.size u v E:=by
 refine Wj func11 ntmps11 ?_;refine Ww λb1 w1 b zi f=>?_;refine SW.alloc Z λb2 w2 zb M a=>?_;have zj:=b.up M;obtain⟨b,f⟩:=bk zb b f;have N:=vj 256 x y;repeat'(first|refine Wz ?_|refine Wm ((Kx f)) ?_)
 refine Wk (C4 A n c B m d x y 256 Z _ (hx.ext b) (hy.ext b) hn hm) λv w5 zc C=>?_;obtain⟨o,ho⟩:=bq (iK 256 x y);rw[ho]at C N⊢;obtain⟨A1,c1,rfl,hO⟩:=C;have hO:=hO.low b.size;obtain⟨b,f,a⟩:=aY zc b f a;by_cases O:o.1=0
 ·rw[O];refine Wz ?_;refine Wk (Et A1 o.2.length c1 o.2 split least cpus _ hO.sl Y za) λv w6 zd C=>?_;have F:=λG=>uJ (l:=o.2) (split:=split) (least:=least) (cpus:=cpus) G;obtain⟨e,he⟩:=bq (fe o.2 split least cpus);have P:=λG=>eJ.heap (o:=o) (split:=split) (least:=least) (cpus:=cpus) O G;have Q:=λ(t:aj)G m=>eJ.made (o:=o) (split:=split) (least:=least) (cpus:=cpus) (t:=t) O G m;rw[he]at C F P Q;obtain⟨H,rfl,J⟩:=C;have J:=J.low b.size;obtain⟨b,f,a⟩:=aY zd b f a;by_cases G:e.1=0
  ·rw[G];refine Wz ?_;refine Wr (bw H) λb6 w2 i I D=>?_;have R:=b.up I;obtain⟨b,f,a,J⟩:=cG i b f a J;refine Wz ?_;refine Wk (HH 256 _) λv w7 ze C=>?_;rw[if_pos ⟨by decide,by decide⟩]at C;obtain⟨A2,c2,rfl,L⟩:=C;have L:Own w7 w.heap.size 3 1 aT A2 4096 c2 (List.replicate 4096 0):=L.low b.size;obtain⟨b,f,a,D,J⟩:=dz ze b f a D J;refine Wz ?_;have zl:=a.lt;refine Wr (aB ⟨⟨A2,4096,c2⟩,H,.nil⟩) λb9 w2 i S p=>?_;have zk:=b.up S;obtain⟨b,f,a,D,J,L⟩:=fi i b f a D J L;have zm:b2≠b9:=Y;have k:gK _ w.heap.size ⟨⟨A2,4096,c2⟩,H,.nil⟩ (AY e.2):=⟨L,J,⟨[],dJ.nil _ _⟩⟩;refine Wz ?_
   refine CW.loop (λs:Nat×cc×aj=>[(2,Pt b2),(9,Pt b9),(10,Iv (kP s.1))])
    (λs E=>s.1<=6∧Ext w E∧ay E b2 37 (ar .zero)∧ay E b9 37 (ar s.2.1)∧gK E w.heap.size s.2.1 s.2.2∧nL (AY e.2) s.1 s.2.2) (λs=>6-s.1) (0,⟨⟨A2,4096,c2⟩,H,.nil⟩,AY e.2)
    ⟨Z,Z,Z,trivial⟩ ⟨by omega,b,a,p,k,.zero⟩ ?_
   rintro⟨j,r,s⟩ E ⟨hj,b,a,p,k,hM⟩;simp only at hj p k hM⊢;by_cases T:j<6
   ·obtain⟨k1,k2,k3,k4⟩:=G8 T;have U:=uF T;have hf:=hM.bU (F G) hj;have kS:=G9 j;obtain⟨z,hz⟩:=bq (kP j);have zf:=λ(u:aj×Int)(h:mj s (fm z) z 1 u)=>nL.succ (u:=u) hM (hz▸h);rw[hz]at k1 k2 k3 k4 U kS⊢
    have cn:∀E,aS prog 37 [Iv z] E λv _=>v= .string (fm z):=λE=>by
     have:=nU z E;rwa[Ei k1]at this
    refine Wz ?_;refine CW.iF 8 8 (λ_=>True) mixed bm λw1 V zg=>?_;obtain⟨b,a,p,k⟩:=cG V b a p k;refine Wf ?_;refine SF.bD 2 ?_;refine Wc (cn _) λw4 i=>?_;obtain⟨b,a,p,k⟩:=cG i b a p k;refine SW.nil (ah.sf i ?_);refine SF.bD 4 ?_;refine Wk (rT r s (fm z) z 1 _ k.rd hf U) λv w4 i C=>?_;obtain⟨u,hu,q,rfl,W⟩:=C;have W:=W.low b.size;obtain⟨b,a,p⟩:=aY i b a p;refine SW.nil (ah.sf i ?_);refine Wf ?_;refine SF.gm 7 zg Z bm bm Z (λ_=>aH Z) Z ?_;refine SF.dQ ?_;refine Wh p (aB q) λw6 g X=>?_;obtain⟨a,b,W⟩:=aY g a b W;refine Wz ?_;exact ah.again (j+1,q,u.1) ⟨Z,Z,congrArg (λz=>some (Iv z)) kS.symm,trivial⟩ dD ⟨by simp only;omega,b,a,X,W,zf u hu⟩
   obtain rfl:j=6:=Y;have zh:kP 6=64:=by decide
   rw[zh];refine Wz ?_;refine Wh a (aB r) λw6 g hR=>?_;obtain⟨b,k⟩:=bk g b k;refine Wz ?_;exact ah.a9 Z Z Z hR Z ⟨_,Z,b,_,Q s G hM,r,Z,k⟩
  have C:=P G;obtain⟨e1,K⟩:=bq e.1;rw[K]at G C⊢;refine Wz ?_;refine Wr (bw H) λb6 w2 i I D=>?_;have R:=b.up I;obtain⟨b,a⟩:=bk i b a;refine Wz ?_;refine Wh a (aB .zero) λw7 g hR=>?_;have b:=jc g b;refine Wz ?_;exact ah.a9 Z Z Z hR Z ⟨_,Z,b,_,C,cK.zero _ _ _⟩
 have C:=eJ.IE (split:=split) (least:=least) (cpus:=cpus) O;obtain⟨e1,K⟩:=bq o.1;rw[K]at O C⊢;refine Wz ?_;refine Wh a (aB .zero) λw7 g hR=>?_;have b:=jc g b;refine Wz ?_;exact ah.a9 Z Z Z hR Z ⟨_,Z,b,_,C,cK.zero _ _ _⟩
variable {held:Bool} {ps:List MemPlace} {cs:List Value} {fuel:Nat} {spare:Nat->Bool} {W:World}
theorem Ej:prog.globalNamed "paddock/kmem.sizes" =some 0:=by kernel_rfl
theorem FQ:(prog.globals[0]?).map (·.type)=some 67:=by kernel_rfl
set_option maxRecDepth 100000 in
theorem Ek{p:List MemPlace}{enc:TypeId×Value->Unit}{j:Nat}(h:DataW.trod enc prog W j spare held fuel 67 cs=some (Rows.laid_paddock_kmem_sizes,p)):
 cs=[.int .i64 1,.int .i64 2,.int .i64 4,.int .i64 8,.int .i64 16,.int .i64 32]:=by
 have o:prog.cellsOf 67=6:=by kernel_rfl
 have q:prog.cellsOf 3=1:=by kernel_rfl
 obtain⟨xs,m,rfl,l,k,r,g⟩:=DataW.trod_array Tryz.underlying67 h;rw[o]at k;rw[q]at g;simp only[Prod.mk.injEq]at l
 have one:∀(a:Value)(u:Int)(x:DataW Unit×List MemPlace),DataW.trod enc prog W j spare held m 3 [a]=some x->x.1= .lit (.int .i64 u)->a= .int .i64 u:=by
  intro a u x l e;obtain⟨t,n,s,_⟩:=DataW.trod_int Tryz.underlying3 l;rw[s]at e;simp at e n;rw[n,e]
 match cs,k,xs,r with
 | [a,b,c,d,e,f],_,[x0,x1,x2,x3,x4,x5],_=>
   have i:=l.1;simp only[Rows.laid_paddock_kmem_sizes,List.map_cons,List.map_nil,DataW.agg.injEq,List.cons.injEq,and_true]at i;obtain rfl:=one a 1 x0 (g 0 ir) i.1.symm;obtain rfl:=one b 2 x1 (g 1 ir) i.2.1.symm;obtain rfl:=one c 4 x2 (g 2 ir) i.2.2.1.symm;obtain rfl:=one d 8 x3 (g 3 ir) i.2.2.2.1.symm;obtain rfl:=one e 16 x4 (g 4 ir) i.2.2.2.2.1.symm;obtain rfl:=one f 32 x5 (g 5 ir) i.2.2.2.2.2.symm
   rfl
theorem Kg (h:DataW.LaidVars prog W [("paddock/kmem.sizes",Rows.laid_paddock_kmem_sizes)] ps):jD W:=by
 obtain⟨o,p,c,q,r,s,b,d,e,f,_⟩:=h;obtain rfl:=Option.some.inj (Ej.symm.trans b);obtain rfl:=Option.some.inj (FQ.symm.trans d);have k:=Ek f
 have a:∀i,W.cell? ⟨0,i,none⟩=c.toList[i]?:=λi=>by
  have:=World.var?_cell b e i;simpa using this
 refine⟨⟨Z,λ_=>Z,λi l j u g=>?_⟩⟩;have m:i<6:=l;rw[add_add];show W.cell? ((⟨0,0,none⟩:Addr).add _)=_
 rw[iI,a,k]
 have n:j=0:=by
  rcases Ps j with h|h
  ·exact h
  rw[QJ (by simp[aT];omega)]at g;cases g
 subst n;rcases(show i=0∨i=1∨i=2∨i=3∨i=4∨i=5 by omega)with rfl|rfl|rfl|rfl|rfl|rfl
 all_goals simpa[kL,aT]using g
variable {D1 D2 D3:DataW Unit}
theorem Iq (h:DataW.LaidVars prog W [("paddock/buddy.others",Rows.laid_paddock_buddy_others)] ps):nq W:=by
 obtain⟨m,n,d,o,p,q,b,e,f,g,_⟩:=h;obtain rfl:=Option.some.inj (CG.symm.trans b);obtain rfl:=Option.some.inj (DL.symm.trans e);have l:=CH g;refine⟨λk r j v c=>?_⟩
 have a:∀i,W.cell? ⟨1,i,none⟩=d.toList[i]?:=λi=>by
  have:=World.var?_cell b f i;simpa using this
 rw[add_add,iI,a,l];rcases(show k=0∨k=1∨k=2 by omega)with rfl|rfl|rfl
 all_goals
  match j,c with
  | 0,c=>simpa[qb,qd]using c
  | 1,c=>simpa[qb,qd]using c
theorem qB (b:([("math/bits.deBruijn32tab",D1),("math/bits.deBruijn64tab",D2),("internal/strconv.uint64pow10",D3),("paddock/buddy.others",Rows.laid_paddock_buddy_others),("paddock/kmem.sizes",Rows.laid_paddock_kmem_sizes)].all λx=>x.2.handleName?.isNone)=true)
 (h:laidMetH prog [("math/bits.deBruijn32tab",D1),("math/bits.deBruijn64tab",D2),("internal/strconv.uint64pow10",D3),("paddock/buddy.others",Rows.laid_paddock_buddy_others),("paddock/kmem.sizes",Rows.laid_paddock_kmem_sizes)] W):jD W∧nq W:=by
 rw[MakeChecks.laidMetH_plain _ _ _ b]at h;obtain⟨m,⟨_,_,_,_,_,_,_,_,_,_,⟨_,_,_,_,_,_,_,_,_,_,⟨_,_,_,_,_,_,_,_,_,_,⟨c,d,a,e,f,n,g,i,j,k,l,_⟩,_⟩,_⟩,_⟩,_,_⟩:=h;exact⟨Kg l,Iq ⟨c,d,a,e,f,[],g,i,j,k,Z,Z⟩⟩
set_option maxRecDepth 100000
open Go.ChangeShapes Go.WideShapes Go.ChangeAt Go.RowKit Go.Deep Go.Joins
variable {b0:Nat}
section
variable {H:Type}{enc:TypeId×Value->H}{W:World}{base:Nat}{spare:Nat->Bool}{held:Bool}
theorem LX{x:DataW H×List MemPlace}(h:DataW.trod enc prog W base spare held fuel 24 cs=some x):
 ∃A n c B m d l k,cs=ia A n c B m d∧Sl W 2 eV A n l∧Sl W 2 eV B m k∧n<=9223372036854775807∧m<=9223372036854775807:=by
 obtain⟨xs,n,_,_,a,b,j⟩:=DataW.trod_struct Tryz.underlying24 h;have s:prog.cellsOf 24=2:=by kernel_rfl
 have u:prog.cellsOf 22=1:=by kernel_rfl
 rw[s]at a
 match cs,a with
 | [c0,c1],_=>
   match xs,b with
   | [y0,y1],_=>
     have o:DataW.trod enc prog W base spare held n 22 (List.take (prog.cellsOf 22) (List.drop 0 [c0,c1]))=some y0:=j 0 _ Z;have p:DataW.trod enc prog W base spare held n 22 (List.take (prog.cellsOf 22) (List.drop 1 [c0,c1]))=some y1:=j 1 _ Z;rw[u]at o p;obtain⟨v,w,y,z,q,e,C,f,_,_⟩:=G7 (t:=22) bm (λ_ _ _=>BD) o;obtain⟨D,E,F,G,r,g,I,i,_,_⟩:=G7 (t:=22) bm (λ_ _ _=>BD) p;simp at q r;subst q r;unfold maxLen at f i;exact⟨v,w,y,D,E,F,z,G,Z,e,g,by omega,by omega⟩
theorem Ky{x:DataW H×List MemPlace}(h:DataW.trod enc prog W base spare held fuel 26 cs=some x):
 ∃A n c B m d l k p le v,cs=gw A n c B m d p le v∧Sl W 2 eV A n l∧Sl W 2 eV B m k∧n<=9223372036854775807∧m<=9223372036854775807∧Ee p:=by
 obtain⟨xs,n,_,_,f,j,i⟩:=DataW.trod_struct Tryz.underlying26 h;have w:prog.cellsOf 26=5:=by kernel_rfl
 have y:prog.cellsOf 24=2:=by kernel_rfl
 have o:prog.cellsOf 3=1:=by kernel_rfl
 rw[w]at f
 match cs,f with
 | [c0,c1,c2,c3,c4],_=>
   match xs,j with
   | [y0,y1,y2,y3],_=>
     have q:DataW.trod enc prog W base spare held n 24 (List.take (prog.cellsOf 24) (List.drop 0 [c0,c1,c2,c3,c4]))=some y0:=i 0 _ Z;have r:DataW.trod enc prog W base spare held n 3 (List.take (prog.cellsOf 3) (List.drop 2 [c0,c1,c2,c3,c4]))=some y1:=i 1 _ Z;have s:DataW.trod enc prog W base spare held n 3 (List.take (prog.cellsOf 3) (List.drop 3 [c0,c1,c2,c3,c4]))=some y2:=i 2 _ Z;have t:DataW.trod enc prog W base spare held n 3 (List.take (prog.cellsOf 3) (List.drop 4 [c0,c1,c2,c3,c4]))=some y3:=i 3 _ Z;rw[y]at q;rw[o]at r s t;obtain⟨A,z,C,B,D,E,l,k,e,F,G,I,J⟩:=LX q;obtain⟨a,u,K⟩:=mY Tryz.underlying3 r;obtain⟨b,hb,N⟩:=mY Tryz.underlying3 s;obtain⟨c,g,O⟩:=mY Tryz.underlying3 t;simp[aT]at u hb g;simp[ia]at e;obtain⟨L,M⟩:=e;subst u hb g L M;exact⟨A,z,C,B,D,E,l,k,a,b,c,Z,F,G,I,J,K⟩
theorem F0{r:Reach}{v:Value}{d:DataW H}{p:List MemPlace}(e:Value.okWide prog W r b0 26 v)(h:DataW.Trod enc prog W base spare held 26 v d p):
 ∃A n c B m d l k a le b,v= .agg (gw A n c B m d a le b).toArray∧Sl W 2 eV A n l∧Sl W 2 eV B m k∧n<=9223372036854775807∧m<=9223372036854775807∧Ee a:=by
 obtain⟨cs,rfl,f⟩:=okWide_struct Tryz.underlying26 e;obtain⟨fuel,g⟩:=h;obtain⟨A,n,c,B,m,d,l,k,a,le,b,i,j,o,q,s,t⟩:=Ky g;refine⟨A,n,c,B,m,d,l,k,a,le,b,?_,j,o,q,s,t⟩;have:cs.toList=gw A n c B m d a le b:=i;rw[<-this]
end
end Go.Proofs.YtdlfabkacdgneaaGreatDoor
