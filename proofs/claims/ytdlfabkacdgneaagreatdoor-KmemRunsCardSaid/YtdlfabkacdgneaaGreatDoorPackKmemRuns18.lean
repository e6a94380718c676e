/- Part 18 of what kmemRuns_holds leans on. -/
import Derived.Test.YtdlfabkacdgneaaGreatDoorPackKmemRuns17
import Derived.Test.YtdlfabkacdgneaaGreatDoorPackKmemRuns16
import Derived.Test.YtdlfabkacdgneaaGreatDoorPackKmemRuns15
set_option maxHeartbeats 16000000
set_option linter.unusedVariables false
set_option linter.unusedSimpArgs false
set_option linter.defProp false
open Go.Proofs.Tryz
namespace Go.Proofs.YtdlfabkacdgneaaGreatDoor
open Go.RowKit
variable {a u2 u3:Int} {s:aj}
theorem Ng{j:Int}(d:gx s a (j,u2,u3))(k:ef s=true):
 (∃i:Nat,j=(i:Int)∧u3=0∧∃c:i<s.ab.length,oE s.ab[i]=true∧oF s a (some i))∨
 (oF s a none∧(u3=4∨∃i:Nat,j=(i:Int)∧u3=0∧∃c:i<s.ab.length,oE s.ab[i]=false)):=by
 by_cases g:u3=0
 ·obtain⟨i,c,f⟩:=d.F2 g;simp only at f;subst g f;cases b:oE s.ab[i]
  ·exact .inr ⟨.no d λm l _ e=>by
    grind,.inr ⟨i,Z,Z,c,b⟩⟩
  exact .inl ⟨i,Z,Z,c,b,.yes d c b⟩
 exact .inr ⟨.no d λi c h=>absurd h g,.inl ((d.code k).resolve_left g)⟩
theorem Cq(r:cc)(s:aj)(cpu a:Int)(w:World)(B:mB w r s)(K:s.bU)(U: -9223372036854775808<=a∧a<=9223372036854775807)(hS:jD w):
 aS prog 24 [.agg (ar r).toArray,Iv cpu,Iv a] w λv f=>∃u,ks s cpu a u∧cK w.heap.size u v f:=by
 refine Wj func24 ntmps24 ?_;refine Ww λb3 L d O c=>?_;refine SW.alloc Z λb6 w2 V P b=>?_;have zh:=d.up P;have W:b6≠b3:=by have:=c.lt;omega
 obtain⟨d,c⟩:=bk V d c;have Q:=K.small;obtain⟨q,C⟩:=bq (ef s)
 have M:∀f,Ext w f->aS prog 61 [.agg (ar r).toArray] f λv _=>v=Iv (if q then 0 else 8):=λf E=>by
  have:=lj r s f (B.ext E) K;rwa[C]at this
 cases q
 ·simp only[Bool.false_eq_true,if_false]at M;repeat'(first|refine Wz ?_|(refine Wc (M _ d) λL e=>?_;obtain⟨d,c,b⟩:=aY e d c b))
  refine Wh b (aB .zero) λw5 g n=>?_;have d:=jc g d;refine Wz ?_;exact ah.a9 Z Z Z n Z ⟨_,Z,d,_,.bad C,cK.zero 8 _ _⟩
 simp only[if_true]at M;have X:=dg.1 C;have eC:r.Heap.bl=s.Heap.bl:=B.heap.cpus;by_cases h:j1 s cpu
 ·have o:=h;unfold j1 at o;repeat'(first|refine Wz ?_|(refine Wc (M _ d) λL e=>?_;obtain⟨d,c,b⟩:=aY e d c b))
  refine Wk (tB r s a _ (B.ext d) K U) λv w5 za z=>?_;obtain⟨u,hu,rfl⟩:=z;obtain⟨d,c,b⟩:=aY za d c b;obtain⟨cs,F⟩:=B.aV;obtain⟨z1,z2⟩:=F.len;have hA:=F.row.base;obtain⟨u1,u2,u3⟩:=u;simp only[qG];rcases Ng hu C with⟨i,rfl,rfl,D,G,T⟩|⟨T,hN⟩
  ·have A:i<r.ab.n:=Y;have I:i<cs.length:=Y;have k:=F.each.get i I D;have q1:=k.names.len;have q2:=(Q.each _ (Pf D)).names;have q3:=(X.each i D).may.names;have zb:0<cs[i].Names.n:=Y;have zj:=k.names.base
   have c2:∀f,Ext w f->aS prog 86 [.agg (cr cs[i]).toArray] f λv _=>v= .bool true:=λf E=>by
    have:=xH cs[i] _ f (k.ext E) Y (hS.ext E);rwa[G]at this
   have gN:=k.names.one zb (congrArg encStr (rfl:s.ab[i].Names[0]=s.ab[i].Names[0]));have eN:s.ab[i].Names[0]=qK s.ab[i]:=by simp[qK,q3]
   rw[eN]at gN;repeat'(first|refine Wz ?_|refine Wo d ((F.row.all A)) ?_|(refine Wc (c2 _ d) λL e=>?_;obtain⟨d,c,b⟩:=aY e d c b))
   refine CW.any 14 mixed (cy bm) Z λL e R=>?_;obtain⟨d,c,b⟩:=aY e d c b;refine Wa ?_;refine Wu 6 R Z (bX d Z (F.row.dp A (j:=0) (u:= .slice cs[i].Names.A cs[i].Names.n cs[i].Names.c) Z)) ?_;refine Wa ?_;refine Wu 8 R Z (bX d Z gN) ?_;refine Wa ?_;refine SA.bD 11 ?_;refine Wk (tS r s _ cpu a _ (B.ext d) K (KD K D) U) λv w4 t z=>?_;obtain⟨u,y,s1,rfl,x⟩:=z;have x:=x.low d.size;obtain⟨d,c,b⟩:=aY t d c b;refine SW.nil (ah.sa t ?_);refine Wa ?_;refine SA.fH ?_;refine Wh b (aB s1) λw6 g hR=>?_;obtain⟨d,x⟩:=bk g d x;refine Wz ?_;exact ah.a9 Z Z Z hR Z ⟨_,Z,d,_,.obj C h D T y,_,Z,x⟩
  have zc:=λN=>BP X h (a:=a) N;rcases hN with rfl|⟨i,rfl,rfl,D,G⟩
  refine Wz ?_;rotate_left;have A:i<r.ab.n:=Y;have I:i<cs.length:=Y;have k:=F.each.get i I D;have q1:=k.names.len;have q2:=(Q.each _ (Pf D)).names
  have c2:∀f,Ext w f->aS prog 86 [.agg (cr cs[i]).toArray] f λv _=>v= .bool false:=λf E=>by
   have:=xH cs[i] _ f (k.ext E) Y (hS.ext E);rwa[G]at this
  repeat'(first|refine Wz ?_|refine Wo d ((F.row.all A)) ?_|(refine Wc (c2 _ d) λL e=>?_;obtain⟨d,c,b⟩:=aY e d c b))
  all_goals
   refine Wk (ru r s a _ (B.ext d) Q X U) λv w6 zd z=>?_;obtain⟨ix,rfl,zk⟩:=z;obtain⟨d,c,b⟩:=aY zd d c b;cases N:ct s a
   ·repeat'(first|refine Wz ?_|(refine CW.bQ Z ?_))
    refine Wh b (aB .zero) λw7 g n=>?_;have d:=jc g d;refine Wz ?_;exact ah.a9 Z Z Z n Z ⟨_,Z,d,_,.no C h T N,cK.zero 4 _ _⟩
   obtain⟨zl,zm,_⟩:=gb N;repeat'(first|refine Wz ?_|(refine CW.bo Z ?_)|refine Wm ((e7 c)) ?_)
   refine Wk (xQ r.Heap s.Heap cpu (a / 16) _ (B.heap.ext d) Q.heap K.bA Y) λv w7 ze z=>?_;obtain⟨H,rfl,m⟩:=z;rw[zc N];have m:=m.low d.size;obtain⟨d,c,b⟩:=aY ze d c b;refine Wz ?_;refine Wr (bw H) λzn w2 t J l=>?_;have zf:=d.up J;obtain⟨d,c,b,m⟩:=cG t d c b m;refine Wz ?_;refine Wk (lm r s _ (B.ext d) Q) λv w9 zg z=>?_;obtain⟨p,cs',rfl,S,_⟩:=z;have y:=S.nb.low d.size;obtain⟨d,c,b,l,m⟩:=dz zg d c b l m;refine Wh c (aB p) λzo g c=>?_;obtain⟨b,d,l,m,y⟩:=dz g b d l m y;refine Wz ?_;refine SW.ib 1 c Z Z Z (PE Z) (bw H) (ar ⟨p.Words,H,p.ab⟩) Z λzp zi hg=>?_;have hG:=c.gr hg;have b:=b.grown hg (by simpa using W);have d:=d.own O hg;obtain⟨m,y⟩:=bk hG m y;refine Wz ?_;refine Wh b (aB ⟨p.Words,H,p.ab⟩) λzq g hR=>?_;obtain⟨d,m,y⟩:=aY g d m y;refine Wz ?_;exact ah.a9 Z Z Z hR Z ⟨_,Z,d,_,.whole C h T N,_,Z,y.words,m,y.aV⟩
 have o:=h;unfold j1 at o;have:cpu<0∨(0<=cpu∧s.Heap.bl<=cpu):=Y;rcases this with h1|h1
 all_goals repeat'(first|refine Wz ?_|(refine Wc (M _ d) λL e=>?_;obtain⟨d,c,b⟩:=aY e d c b))
 all_goals
  refine Wh b (aB .zero) λw5 g n=>?_;have d:=jc g d;refine Wz ?_;exact ah.a9 Z Z Z n Z ⟨_,Z,d,_,.range C h,cK.zero 1 _ _⟩
theorem vB(r:cc)(s:aj)(cpu a:Int)(w:World)(B:mB w r s)(L:s.bU)(ha: -9223372036854775808<=a∧a<=9223372036854775807):
 aS prog 48 [.agg (ar r).toArray,Iv cpu,Iv a] w λv h=>∃u,ks s cpu a u∧cK w.heap.size u v h:=by
 refine Wj func48 ntmps48 ?_;refine Ww λb3 I c zi d=>?_;refine SW.alloc Z λb6 w2 T M b=>?_;have zj:=c.up M;obtain⟨c,d⟩:=bk T c d;have U:=L.small;obtain⟨q,D⟩:=bq (ef s)
 have Q:∀h,Ext w h->aS prog 99 [.agg (ar r).toArray] h λv _=>v= .bool q:=λh V=>by
  have:=oC r s h (B.ext V) L;rwa[D]at this
 cases q
 ·repeat'(first|refine Wz ?_|(refine CW.bQ Z ?_)|(refine Wc (Q _ c) λI f=>?_;obtain⟨c,d,b⟩:=aY f c d b))
  refine Wh b (aB .zero) λw5 g n=>?_;have c:=jc g c;refine Wz ?_;exact ah.a9 Z Z Z n Z ⟨_,Z,c,_,.bad D,cK.zero 8 _ _⟩
 have J:=dg.1 D;have eC:r.Heap.bl=s.Heap.bl:=B.heap.cpus;have zk:=J.heap.cpus;by_cases l:j1 s cpu
 ·have t:=l;unfold j1 at t
  have c2:∀h,aS prog 40 [Iv cpu,Iv 0,Iv (r.Heap.bl-1)] h λv _=>v= .bool true:=λh=>by
   have:=bE cpu 0 (r.Heap.bl-1) h;rwa[decide_eq_true (show 0<=cpu∧cpu<=r.Heap.bl-1 by omega)]at this
  repeat'(first|refine Wz ?_|(refine CW.bo Z ?_)|((first|refine Wk (Q _ c) ?_|refine Wk (c2 _) ?_);intro v I f x;subst x;obtain⟨c,d,b⟩:=aY f c d b))
  refine Wk (EA r s a _ (B.ext c) L J ha) λv w5 W x=>?_;obtain⟨u,R,rfl⟩:=x;obtain⟨c,d,b⟩:=aY W c d b;obtain⟨cs,S⟩:=B.aV;obtain⟨z1,z2⟩:=S.len;have hA:=S.row.base;cases u with
  | some i=>
    have X:i<s.ab.length:=by cases R;assumption
    have za:i<r.ab.n:=Y;have zb:i<cs.length:=Y;have E:=S.each.get i zb X;have q1:=E.names.len;have q3:=(J.each i X).may.names;have zc:0<cs[i].Names.n:=Y;have zm:=E.names.base;have gN:=E.names.one zc (congrArg encStr (rfl:s.ab[i].Names[0]=s.ab[i].Names[0]));have eN:s.ab[i].Names[0]=qK s.ab[i]:=by simp[qK,q3]
    rw[eN]at gN;simp only;refine Wz ?_;refine CW.any 14 mixed (cy bm) Z λI f N=>?_;obtain⟨c,d,b⟩:=aY f c d b;refine Wa ?_;refine Wu 6 N Z (bX c Z (S.row.dp za (j:=0) (u:= .slice cs[i].Names.A cs[i].Names.n cs[i].Names.c) Z)) ?_;refine Wa ?_;refine Wu 8 N Z (bX c Z gN) ?_;refine Wa ?_;refine SA.bD 11 ?_;refine Wk (Cp r s _ cpu a _ (B.ext c) L) λv w4 k x=>?_;obtain⟨u,z,s1,rfl,y⟩:=x;have y:=y.low c.size;obtain⟨c,d,b⟩:=aY k c d b;refine SW.nil (ah.sa k ?_);refine Wa ?_;refine SA.fH ?_;refine Wh b (aB s1) λw6 g hR=>?_;obtain⟨c,y⟩:=bk g c y;refine Wz ?_;exact ah.a9 Z Z Z hR Z ⟨_,Z,c,_,.obj D l X R z,_,Z,y⟩
  | none=>
    simp only;obtain⟨o,ho⟩:=bq (iU s a)
    have c2:∀h,Ext w h->aS prog 41 [.agg (ar r).toArray,Iv a] h λv _=>v=Iv o:=λh V=>by
     have:=qJ r s a h (B.ext V) U J ha;rwa[ho]at this
    cases K:ct s a
    ·have e:=uL K;rw[ho]at e;repeat'(first|refine Wz ?_|(refine Wc (c2 _ c) λI f=>?_;obtain⟨c,d,b⟩:=aY f c d b))
     refine Wh b (aB .zero) λw7 g n=>?_;have c:=jc g c;refine Wz ?_;exact ah.a9 Z Z Z n Z ⟨_,Z,c,_,.no D l R K,cK.zero 4 _ _⟩
    obtain⟨hk,e1,e2,e3⟩:=oG J K;rw[ho]at e2 e3;obtain⟨zn,zo,_⟩:=gb K;repeat'(first|refine Wz ?_|refine Wm ((e7 d)) ?_|(refine Wc (c2 _ c) λI f=>?_;obtain⟨c,d,b⟩:=aY f c d b))
    refine Wk (ml r.Heap s.Heap cpu (a / 16) _ (B.heap.ext c) U.heap L.bA Y) λv w7 zd x=>?_;obtain⟨H,rfl,m⟩:=x;rw[BP J l K];have m:=m.low c.size;obtain⟨c,d,b⟩:=aY zd c d b;refine Wz ?_;refine Wr (bw H) λb9 w2 k O A=>?_;have zl:=c.up O;obtain⟨c,d,b,m⟩:=cG k c d b m;refine Wz ?_;refine Wk (cX r s _ (B.ext c) U) λv w9 ze x=>?_;obtain⟨p,cs',rfl,P,_⟩:=x;have z:=P.nb.low c.size;obtain⟨c,d,b,A,m⟩:=dz ze c d b A m;have zp:=b.lt;refine Wr (aB p) λzf w2 k F C=>?_;have G:=c.up F;obtain⟨c,d,b,A,m,z⟩:=fi k c d b A m z;have zg:b6≠zf:=Y;refine Wz ?_;refine SW.ib 1 C Z Z Z (PE Z) (bw H) (ar ⟨p.Words,H,p.ab⟩) Z λzq zh hg=>?_;have hG:=C.gr hg;have b:=b.grown hg (by simpa using zg);have c:=c.own G hg;obtain⟨m,z⟩:=bk hG m z;refine Wz ?_;refine Wh b (aB ⟨p.Words,H,p.ab⟩) λzr g hR=>?_;obtain⟨c,m,z⟩:=aY g c m z;refine Wz ?_;exact ah.a9 Z Z Z hR Z ⟨_,Z,c,_,.whole D l R K,_,Z,z.words,m,z.aV⟩
 have t:=l;unfold j1 at t
 have c2:∀h,aS prog 40 [Iv cpu,Iv 0,Iv (r.Heap.bl-1)] h λv _=>v= .bool false:=λh=>by
  have:=bE cpu 0 (r.Heap.bl-1) h;rwa[decide_eq_false (show¬(0<=cpu∧cpu<=r.Heap.bl-1)by omega)]at this
 repeat'(first|refine Wz ?_|(first|refine CW.bQ Z ?_|refine CW.bo Z ?_)|((first|refine Wk (Q _ c) ?_|refine Wk (c2 _) ?_);intro v I f x;subst x;obtain⟨c,d,b⟩:=aY f c d b))
 refine Wh b (aB .zero) λw5 g n=>?_;have c:=jc g c;refine Wz ?_;exact ah.a9 Z Z Z n Z ⟨_,Z,c,_,.range D l,cK.zero 1 _ _⟩
variable {cpu:Int} {j:Nat}
def vO(n:Int):Int:=if n<=16 then 0 else if n<=32 then 1 else if n<=64 then 2 else if n<=128 then 3 else 4
inductive dO(s:aj)(cpu n:Int):aj×Int×Int->Prop where
 | bad (h:ef s=false):dO s cpu n (.zero,0,8)
 | range (h:ef s=true) (hn:n<1):dO s cpu n (.zero,0,1)
 | size (h:ef s=true) (hn:256<n):dO s cpu n (.zero,0,9)
 | obj {u:aj×Int×Int} (h:ef s=true) (hn:1<=n∧n<=32) (ho:mo s (e8 n) cpu u):dO s cpu n u
 | fault {u:Heap×Int×Int} (h:ef s=true) (hn:32<n∧n<=256) (ha:cj s.Heap cpu (vO n) 0 u) (he:u.2.2≠0):dO s cpu n (.zero,0,u.2.2)
 | bt {u:Heap×Int×Int} (h:ef s=true) (hn:32<n∧n<=256) (ha:cj s.Heap cpu (vO n) 0 u) (he:u.2.2=0):dO s cpu n (pq s u.1,16*u.2.1,0)
theorem dO.c7{n:Int}{u v:aj×Int×Int}(x:dO s cpu n u)(y:dO s cpu n v):u=v:=by
 cases x with
 | bad h=>cases y<;>grind
 | range h d=>cases y<;>grind
 | size h d=>cases y<;>grind
 | obj h d i=>cases y with
   | bad h'=>grind
   | obj _ _ e=>exact i.c7 e
   | range _ a|size _ a|fault _ a|bt _ a=>omega
 | fault h d c f=>cases y with
   | bad h'=>grind
   | fault _ _ b=>rw[c.c7 b]
   | bt _ _ b g=>rw[c.c7 b]at f;grind
   | range _ a|size _ a|obj _ a=>omega
 | bt h d c f=>cases y with
   | bad h'=>grind
   | bt _ _ b=>rw[c.c7 b]
   | fault _ _ b g=>rw[c.c7 b]at f;grind
   | range _ a|size _ a|obj _ a=>omega
theorem KS{n:Int}(h:j<6)(a:∀m,m<j->kP m<n)(b:n<=kP j):e8 n=fm (kP j)∧n<=32:=by
 have c:=a 0;have d:=a 1;have e:=a 2;have f:=a 3;have g:=a 4;unfold kP at*;rcases(show j=0∨j=1∨j=2∨j=3∨j=4∨j=5 by omega)with rfl|rfl|rfl|rfl|rfl|rfl
 all_goals
  simp only[Nat.reduceLT,forall_const,Int.reducePow,false_implies]at c d e f g b
  grind[e8]
theorem IZ{n:Int}(a:∀m,m<6->kP m<n):e8 n=⟨#[]⟩∧32<n:=by
 have b:=a 5 Y;unfold kP at b<;>grind[kP,Int.reducePow,e8]
theorem KT{n:Int}(k:j<5)(a:∀m:Nat,m<j->16*pw (m:Int)<n)(l:n<=16*pw (j:Int)):vO n=(j:Int)∧n<=256:=by
 have b:=a 0;have c:=a 1;have d:=a 2;have e:=a 3;have f:pw ((0:Nat):Int)=1:=by decide
 have g:pw ((1:Nat):Int)=2:=by decide
 have h:pw ((2:Nat):Int)=4:=by decide
 have i:pw ((3:Nat):Int)=8:=by decide
 have o:pw ((4:Nat):Int)=16:=by decide
 rw[f]at b;rw[g]at c;rw[h]at d;rw[i]at e;rcases(show j=0∨j=1∨j=2∨j=3∨j=4 by omega)with rfl|rfl|rfl|rfl|rfl
 all_goals grind[vO]
theorem Hk{n:Int}(a:∀m:Nat,m<5->16*pw (m:Int)<n):256<n:=by
 grind[pw]
theorem EM(n:Int):(e8 n).size<=140737488351232:=by
 unfold e8;split
 ·decide
 split
 ·decide
 split
 ·decide
 split
 ·decide
 split
 ·decide
 split
 ·decide
 decide
theorem I0{n:Int}(h:n<=32):e8 n≠⟨#[]⟩:=by
 unfold e8;split
 ·decide
 split
 ·decide
 split
 ·decide
 split
 ·decide
 split
 ·decide
 decide
def Aa(l:List Int)(t f k:Int):List Int:=if 0<=t∧0<=f∧0<=k∧t+k<=l.length∧f+k<=l.length then oM l t.toNat f.toNat k.toNat else []
def Bc(s:aj)(t f k:Int):aj:=⟨Aa s.Words t f k,s.Heap,s.ab⟩
inductive kY(s:aj)(cpu a n:Int):aj×Int×Int->Prop
 | size {z:Int×Int} (h:iV s a z) (he:z.2≠0):kY s cpu a n (.zero,0,z.2)
 | range {z:Int×Int} (h:iV s a z) (he:z.2=0) (hc:¬(j1 s cpu∧1<=n)):kY s cpu a n (.zero,0,1)
 | stay {z:Int×Int} (h:iV s a z) (he:z.2=0) (hc:j1 s cpu∧1<=n) (hn:n<=z.1):kY s cpu a n (s,a,0)
 | fault {z:Int×Int} {v:aj×Int×Int} (h:iV s a z) (he:z.2=0) (hc:j1 s cpu∧1<=n) (hn:¬n<=z.1) (hv:dO s cpu n v) (Ol:v.2.2≠0):kY s cpu a n (.zero,0,v.2.2)
 | free {z:Int×Int} {v:aj×Int×Int} {u:aj×Int} (h:iV s a z) (he:z.2=0) (hc:j1 s cpu∧1<=n) (hn:¬n<=z.1) (hv:dO s cpu n v) (Ol:v.2.2=0) (hu:ks (Bc v.1 v.2.1 a z.1) cpu a u) (OI:u.2≠0):kY s cpu a n (.zero,0,u.2)
 | ok {z:Int×Int} {v:aj×Int×Int} {u:aj×Int} (h:iV s a z) (he:z.2=0) (hc:j1 s cpu∧1<=n) (hn:¬n<=z.1) (hv:dO s cpu n v) (Ol:v.2.2=0) (hu:ks (Bc v.1 v.2.1 a z.1) cpu a u) (OI:u.2=0):kY s cpu a n (u.1,v.2.1,0)
theorem kY.c7{n:Int}{u v:aj×Int×Int}(x:kY s cpu a n u)(y:kY s cpu a n v):u=v:=by
 cases x with
 | size h k=>cases y with
   | size h' b=>obtain rfl:=h.c7 h';rfl
   | range h' b c=>obtain rfl:=h.c7 h'<;>grind
   | stay h' b c f=>obtain rfl:=h.c7 h'<;>grind
   | fault h' b c f d e=>obtain rfl:=h.c7 h'<;>grind
   | free h' b c f d e i g=>obtain rfl:=h.c7 h'<;>grind
   | ok h' b c f d e i g=>obtain rfl:=h.c7 h'<;>grind
 | range h k o=>cases y with
   | size h' b=>obtain rfl:=h.c7 h'<;>grind
   | range h' b c=>rfl
   | stay h' b c f=>grind
   | fault h' b c f d e=>grind
   | free h' b c f d e i g=>grind
   | ok h' b c f d e i g=>grind
 | stay h k o p=>cases y with
   | size h' b=>obtain rfl:=h.c7 h'<;>grind
   | range h' b c=>grind
   | stay h' b c f=>grind
   | fault h' b c f d e=>obtain rfl:=h.c7 h'<;>grind
   | free h' b c f d e i g=>obtain rfl:=h.c7 h'<;>grind
   | ok h' b c f d e i g=>obtain rfl:=h.c7 h'<;>grind
 | fault h k o p j l=>cases y with
   | size h' b=>obtain rfl:=h.c7 h'<;>grind
   | range h' b c=>grind
   | stay h' b c f=>obtain rfl:=h.c7 h'<;>grind
   | fault h' b c f d e=>rw[j.c7 d]
   | free h' b c f d e i g=>obtain rfl:=j.c7 d<;>grind
   | ok h' b c f d e i g=>obtain rfl:=j.c7 d<;>grind
 | free h k o p j l m q=>cases y with
   | size h' b=>obtain rfl:=h.c7 h'<;>grind
   | range h' b c=>grind
   | stay h' b c f=>obtain rfl:=h.c7 h'<;>grind
   | fault h' b c f d e=>obtain rfl:=j.c7 d<;>grind
   | free h' b c f d e i g=>obtain rfl:=h.c7 h';obtain rfl:=j.c7 d;rw[m.c7 i]
   | ok h' b c f d e i g=>obtain rfl:=h.c7 h';obtain rfl:=j.c7 d;obtain rfl:=m.c7 i<;>grind
 | ok h k o p j l m q=>cases y with
   | size h' b=>obtain rfl:=h.c7 h'<;>grind
   | range h' b c=>grind
   | stay h' b c f=>obtain rfl:=h.c7 h'<;>grind
   | fault h' b c f d e=>obtain rfl:=j.c7 d<;>grind
   | free h' b c f d e i g=>obtain rfl:=h.c7 h';obtain rfl:=j.c7 d;obtain rfl:=m.c7 i<;>grind
   | ok h' b c f d e i g=>obtain rfl:=h.c7 h';obtain rfl:=j.c7 d;rw[m.c7 i]
def gV(c:aO)(x:Slab)(a:Int):Prop:=16*x.At<=a∧a<16*x.At+16*pw c.Order
instance (c:aO) (x:Slab) (a:Int):Decidable (gV c x a):=inferInstanceAs (Decidable (_∧_))
def qP(l:List Block)(p:Int):Bool:=l.any λb=>decide (b.At<=p) && decide (p<b.At+pw b.Order)
inductive fw(s:aj)(a:Int):Bool->Prop
 | out (h:¬(0<=a∧a<s.Words.length)):fw s a false
 | oK {c:aO} {x:Slab} {u:Int×Int×Int} (h:0<=a∧a<s.Words.length) (hc:c∈s.ab) (hx:x∈c.ae) (hi:gV c x a) (hF:gx s (a-(a-x.At*16) % c.ax) u):fw s a (decide (u.2.2=0))
 | bt (h:0<=a∧a<s.Words.length) (hn:∀c∈s.ab,∀x∈c.ae,¬gV c x a):fw s a (qP s.Heap.Live (a / 16))
def uS(m:Int):Prop:= -1099511627776<=m∧m<=1099511627776
instance (m:Int):Decidable (uS m):=inferInstanceAs (Decidable (_∧_))
inductive ni(s:aj)(a:ff):aj×Int×Int->Prop
 | no (h:fw s a.At false):ni s a (s,0,4)
 | read (h:fw s a.At true) (hk:a.Kind=14):ni s a (s,s.Words.getD a.At.toNat 0,0)
 | range (h:fw s a.At true) (hk:a.Kind≠14) (hm:¬uS a.M):ni s a (s,0,1)
 | write (h:fw s a.At true) (hk:a.Kind≠14) (hm:uS a.M):ni s a (⟨s.Words.set a.At.toNat a.M,s.Heap,s.ab⟩,0,0)
def mf(n:ByteArray):Bool:=n.data.toList.head? ==some 107
inductive fM(s:aj)(a:ff):aj×Int×List Int×Int->Prop
 | n6 {u:aj×Int} (hk:a.Kind=3) (h:mj s a.Name a.N a.M u):fM s a (u.1,0,[],u.2)
 | form (hk:a.Kind=4) (hn:mf a.Name=true):fM s a (s,0,[],3)
 | lF {u:aj×Int} (hk:a.Kind=4) (hn:mf a.Name=false) (h:ng s a.Name u):fM s a (u.1,0,[],u.2)
 | new {u:aj×Int×Int} (hk:a.Kind=5) (h:mo s a.Name a.ep u):fM s a (u.1,u.2.1,[],u.2.2)
 | drop {u:aj×Int} (hk:a.Kind=6) (h:nt s a.Name a.ep a.At u):fM s a (u.1,0,[],u.2)
 | shrink (hk:a.Kind=7):fM s a ((jI s a.Name).1,0,[],(jI s a.Name).2)
 | bulk {u:aj×List Int×Int} (hk:a.Kind=15) (h:kb s a.Name a.ep a.N u):fM s a (u.1,0,u.2.1,u.2.2)
theorem fM.c7{a:ff}{u v:aj×Int×List Int×Int}(x:fM s a u)(y:fM s a v):u=v:=by
 cases x with
 | n6 c h=>cases y with
   | n6 _ h'=>rw[h.c7 h']
   | form b|lF b|new b|drop b|shrink b|bulk b=>omega
 | form c h=>cases y<;>grind
 | lF c d h=>cases y with
   | form _ h'=>grind
   | lF _ _ h'=>rw[h.c7 h']
   | n6 b|new b|drop b|shrink b|bulk b=>omega
 | new c h=>cases y with
   | new _ h'=>rw[h.c7 h']
   | n6 b|form b|lF b|drop b|shrink b|bulk b=>omega
 | drop c h=>cases y with
   | drop _ h'=>rw[h.c7 h']
   | n6 b|form b|lF b|new b|shrink b|bulk b=>omega
 | shrink c=>cases y<;>grind
 | bulk c h=>cases y with
   | bulk _ h'=>rw[h.c7 h']
   | n6 b|form b|lF b|new b|drop b|shrink b=>omega
variable {R:Ending->World->Prop} {fn:Func} {cs:List Value} {b m m' O1 Om:Nat} {P:Program} {w:World}
structure kT where
 Code:Int
 N:Int
 L:List Int
structure Ac where
 Code:Int
 N:Int
 L:jC
def pB(a:ff):List Value:=[Iv a.Kind,Iv a.ep,Iv a.N,Iv a.M,Iv a.At,Iv a.Flags,.string a.Name]
instance :gG pB 7:=⟨λ_=>rfl,λr u hu=>by simp[pB]at hu;rcases hu with rfl|rfl|rfl|rfl|rfl|rfl|rfl<;>rfl⟩
def dE(r:Ac):List Value:=[Iv r.Code,Iv r.N,r.L.v]
instance :gG dE 3:=⟨λ_=>rfl,λr u hu=>by simp[dE,jC.v]at hu;rcases hu with rfl|rfl|rfl<;>rfl⟩
theorem pC(r:Ac):∀v∈dE r,v.oneCell'=true:=gG.one (enc:=dE) r
theorem NA(r:ff):∀v∈pB r,v.oneCell'=true:=gG.one (enc:=pB) r
structure fT(s:aj):Prop where
 bU:s.bU
 may:aA s
structure jK(w:World)(lo:Nat)(r:Ac)(x:kT):Prop where
 code:r.Code=x.Code
 n:r.N=x.N
 list:Own w lo 3 1 aT r.L.A r.L.n r.L.c x.L
section
variable {w w':World}{lo nn t:Nat}{r:Ac}{x:kT}
theorem jK.ext(h:jK w lo r x)(a:Ext w w'):jK w' lo r x:=⟨h.code,h.n,h.list.ext a⟩
theorem jK.low(h:jK w lo r x)(a:nn<=lo):jK w nn r x:=⟨h.code,h.n,h.list.low a⟩
theorem jK.aQ(h:jK w lo r x)(b:oe w w' t)(a:Nat.beq t 3=false):jK w' lo r x:=⟨h.code,h.n,h.list.aQ b a⟩
theorem jK.plain(w:World)(lo:Nat)(c n:Int):jK w lo ⟨c,n,.nil⟩ ⟨c,n,[]⟩:=⟨Z,Z,Own.cq _ _ _ _ _ _⟩
end
structure ja(w:World)(lo:Nat)(A:Option Addr)(n c:Nat)(rs:List Ac)(xs:List kT):Prop where
 row:Own w lo 49 3 dE A n c rs
 each:dR (jK w lo) rs xs
section
variable {w w':World}{lo nn t n c:Nat}{A:Option Addr}{rs:List Ac}{xs:List kT}
theorem ja.ext(h:ja w lo A n c rs xs)(a:Ext w w'):ja w' lo A n c rs xs:=⟨h.row.ext a,h.each.mono λ_ _ h=>h.ext a⟩
theorem ja.aQ(h:ja w lo A n c rs xs)(b:oe w w' t)(a:(Nat.beq t 49||Nat.beq t 3)=false):ja w' lo A n c rs xs:=by
 simp only[Bool.or_eq_false_iff]at a;exact⟨h.row.aQ b a.1,h.each.mono λ_ _ h=>h.aQ b a.2⟩
theorem ja.len(h:ja w lo A n c rs xs):xs.length=n:=by rw[<-h.each.len,h.row.len]
end
def tI(e:Int)(s t:aj):aj:=if e=0 then t else s
inductive qQ(s:aj)(a:ff):aj×Int->Prop
 | range (h:¬(0<=a.At∧a.At<256)):qQ s a (s,1)
 | no (h:0<=a.At∧a.At<256) (hw:ct s (a.At*16)=false):qQ s a (s,4)
 | ok (h:0<=a.At∧a.At<256) (hw:ct s (a.At*16)=true) (he:(ee s.Heap a.ep a.At).1=0):qQ s a (pq s (ee s.Heap a.ep a.At).2,0)
 | fault (h:0<=a.At∧a.At<256) (hw:ct s (a.At*16)=true) (he:(ee s.Heap a.ep a.At).1≠0):qQ s a (s,(ee s.Heap a.ep a.At).1)
inductive eg(s:aj)(a:ff):aj×kT->Prop
 | bt {u:Heap×Int×Int} (hk:a.Kind=1) (h:cj s.Heap a.ep a.N a.Flags u):eg s a (tI u.2.2 s (pq s u.1),⟨u.2.2,u.2.1,[]⟩)
 | pL {u:aj×Int} (hk:a.Kind=2) (h:qQ s a u):eg s a (tI u.2 s u.1,⟨u.2,0,[]⟩)
 | drain (hk:a.Kind=12):eg s a (tI (mc s.Heap).1 s (pq s (mc s.Heap).2),⟨(mc s.Heap).1,0,[]⟩)
 | jn {u:aj×Int×Int} (hk:a.Kind=8) (h:dO s a.ep a.N u):eg s a (tI u.2.2 s u.1,⟨u.2.2,u.2.1,[]⟩)
 | nj {u:aj×Int} (hk:a.Kind=9) (h:ks s a.ep a.At u):eg s a (tI u.2 s u.1,⟨u.2,0,[]⟩)
 | nk {u:Int×Int} (hk:a.Kind=10) (h:iV s a.At u):eg s a (s,⟨u.2,u.1,[]⟩)
 | aV {u:aj×Int×List Int×Int} (hk:(3<=a.Kind∧a.Kind<=7)∨a.Kind=15) (h:fM s a u):eg s a (tI u.2.2.2 s u.1,⟨u.2.2.2,u.2.1,u.2.2.1⟩)
 | gz {u:aj×Int×Int} (hk:a.Kind=11) (h:kY s a.ep a.At a.N u):eg s a (tI u.2.2 s u.1,⟨u.2.2,u.2.1,[]⟩)
 | word {u:aj×Int×Int} (hk:a.Kind=13∨a.Kind=14) (h:ni s a u):eg s a (tI u.2.2 s u.1,⟨u.2.2,u.2.1,[]⟩)
 | Gh (hk:a.Kind<1∨15<a.Kind):eg s a (s,⟨2,0,[]⟩)
inductive n9:aj->List ff->List kT->aj->Prop
 | nil (s:aj):n9 s [] [] s
 | snoc {s t:aj} {l:List ff} {xs:List kT} {a:ff} {u:aj×kT} (h:n9 s l xs t) (hu:eg t a u):n9 s (l++[a]) (xs++[u.2]) u.1
theorem n9.len{t:aj}{l:List ff}{xs:List kT}(h:n9 s l xs t):xs.length=l.length:=by
 induction h<;>grind
theorem n9.NB{t:aj}{l:List ff}{a:ff}{xs:List kT}(h:n9 s (l++[a]) xs t):∃b m u,n9 s l b m∧eg m a u∧xs=b++[u.2]∧t=u.1:=by
 generalize e:l++[a]=l' at h;cases h with
 | nil=>simp at e
 | snoc h c=>
   obtain⟨rfl,d⟩:=List.append_inj' e Z<;>grind
def qR(I:aj->Prop)(a:ff):Prop:=∀s u,I s->eg s a u->I u.1
theorem n9.j7{I:aj->Prop}{t:aj}{l:List ff}{xs:List kT}(h:n9 s l xs t):I s->(∀a∈l,qR I a)->I t:=by
 induction h with
 | nil=>grind
 | snoc h c d=>exact λe b=>b _ fy _ _ (d e λa f=>b a (by grind)) c
def N3(lo:Nat)(u:aj×kT)(v:Value)(w:World):Prop:=∃q x,v= .tuple #[.agg (ar q).toArray,.agg (dE x).toArray]∧gK w lo q u.1∧jK w lo x u.2
def rz(I:aj->Prop)(a:ff):Prop:=∀(r:cc)(s:aj)(lo:Nat)(w:World),gK w lo r s->lo<=w.heap.size->I s->jD w->nq w->
 aS prog 9 [.agg (ar r).toArray,.agg (pB a).toArray] w λv b=>∃u,eg s a u∧N3 lo u v b
theorem ah.Hm{n:Nat}{L:Env}{t t' ty g j:Nat}{cs':List Value}[c:fA P ty m][c':fA P Om m'](k:fn.results= #[.cell t ty,.cell t' Om])(l:get L t=some (Pt b))(d:get L t'=some (Pt g))
 (o:ay w b j cs) (e:ay w g O1 cs') (p:Nat.beq cs.length m=true) (f:Nat.beq cs'.length m'=true) (h:R (.returned (.tuple #[.agg cs.toArray,.agg cs'.toArray])) w):ah n (bodyPost P fn R) .ret L w:=
 ⟨λa i=>⟨i.defers,_,by simpa using lG.results (rs:=[.cell t ty,.cell t' Om]) k (.cell c l o (PD p) (.cell c' d e (PD f) .nil)) i,h⟩⟩
variable {fl o:Int} {c:aO} {l:List Block}
theorem gD(h:fP l){b:Block}(hb:b∈l):lU l b.At=b.Order:=by
 obtain⟨k,a,rfl⟩:=Pg hb;obtain⟨c,d⟩:=lg (jh h) a (rfl:l[k].At=l[k].At);rw[ur d (by rw[c];exact a)];grind
theorem Ho{x:Int}(h:∀b∈l,b.At≠x):lU l x= -1:=so (xq λk a=>h _ (Pf a))
theorem sD{m:List Block}(a:fP l)(c:fP m){x:Int}(h:∀b:Block,b.At=x->(b∈l↔b∈m)):lU m x=lU l x:=by
 by_cases e:∃b∈l,b.At=x
 ·obtain⟨b,hb,rfl⟩:=e;rw[gD a hb,gD c ((h b Z).1 hb)]
 grind[Ho]
theorem Hp{h:Heap}(a:bf h):∀z∈h.aK,ew z:=by
 obtain⟨f,g,b,c,d,i,j,k,_⟩:=a.bA;obtain⟨l,m,n,_⟩:=c.ok;obtain⟨o,p,q,_⟩:=d.ok;rw[b];intro z e;simp only[List.mem_cons,List.not_mem_nil,or_false]at e;unfold ew<;>grind
theorem Gl(f:fT s){h:Heap}(g:bf h)(m:h.small)(n:h.bl=s.Heap.bl)(o:∀c∈s.ab,∀x∈c.ae,lU h.Live x.At=lU s.Heap.Live x.At):fT (pq s h):=by
 have b:=f.bU;have d:=f.may;refine⟨⟨⟨b.small.words,m,b.small.aV,b.small.each⟩,Hp g,b.av,b.names⟩,d.words,g,d.most,λi j=>?_⟩;have a:=d.each i j;refine⟨⟨a.may.lay,a.may.names,a.may.aD.trans n.symm,λk l=>?_,a.may.ns⟩,a.size,a.names,a.av⟩;have e:=a.may.av k l;exact⟨(o _ (Pf j) _ (Pf l)).trans e.live,e.next,e.chain⟩
theorem mG(d:aA s)(e:c∈s.ab){x:Slab}(f:x∈c.ae):∃b∈s.Heap.Live,b.At=x.At:=by
 obtain⟨i,g,rfl⟩:=Pg e;obtain⟨k,j,rfl⟩:=Pg f;have a:=(d.each i g).may;have l:=(a.av k j).live;have m:=bM a.lay;rcases Classical.em (∃b∈s.Heap.Live,b.At=s.ab[i].ae[k].At)with h|h
 all_goals grind[Ho]
theorem cj.from_{h:Heap}{u:Heap×Int×Int}(a:cj h cpu o fl u)(f:u.2.2=0):bf h∧u.1.bl=h.bl∧(∃t,iu t∧u.1.Live=dc h u.2.1 o t)∧∀b∈h.Live,b.At≠u.2.1:=by
 obtain⟨z,A,s,g,c2,B,C,k,D,l,E,m⟩:=a.j5 f
 have n:bf h:=by
  cases a<;>grind[ch]
 refine⟨n,l,k,?_⟩;cases a with
 | bad|range|form|room=>simp at f
 | @once p q r hb v w c j=>
   rw[g]at c;simp only[List.cons.injEq,and_true]at c;obtain⟨rfl,rfl⟩:=c;obtain⟨i,e,x,d⟩:=lq c2 (j.found c2.d.start.vs).2;exact c2.nO e d
 | @kA p q r hb v w c j d=>
   rw[g]at c;simp only[List.cons.injEq,and_true]at c;obtain⟨rfl,rfl⟩:=c;obtain⟨i,e,x,y⟩:=ku c2 (d.found (dN c2.d).vs).2;exact c2.nO e y
theorem mv{h:Heap}(d:bf h)(e:bx h.Live a=true):(iQ h cpu a).bl=h.bl∧(iQ h cpu a).Live=h.Live.eraseIdx (bB h.Live a)∧(iQ h cpu a).bY=h.bY:=by
 obtain⟨g,i,f⟩:=fC d;obtain⟨b,_⟩:=fR e;by_cases c:0<h.Live[bB h.Live a].Order
 ·rw[mU f.d.bA b Z c];exact⟨Z,Z,Z⟩
 rw[mV f.d.bA b Z c];unfold iq<;>grind
theorem jZ(h:fP l)(f:bx l a=true){b:Block}:b∈l.eraseIdx (bB l a)↔b∈l∧b.At≠a:=by
 obtain⟨g,c⟩:=fR f;have i:=jh h;rw[D4 i g c Z];unfold bJ;simp only[List.mem_filter,Bool.not_eq_true',<-Bool.not_eq_true,jf];constructor
 ·rintro⟨d,j⟩;refine⟨d,λe=>j ⟨e,?_⟩⟩;have k:=gD h d;grind[gD,List.getElem_mem]
 grind
theorem Dh{a:ff}(i:a.Kind=1):qR fT a:=λs u f h=>by
 cases h with
 | @bt u i h=>
   by_cases g:u.2.2=0
   ·simp only[tI,if_pos g];obtain⟨j,k,⟨t,_,l⟩,p⟩:=h.from_ g;have e:=h.may g;refine Gl f e (h.small f.bU.small.heap) k λc m x n=>?_;obtain⟨b,hb,o⟩:=mG f.may m n;refine sD j.live e.live λy q=>?_;rw[l];constructor
    ·exact λh=>by unfold dc aP;rw[Po,Px];grind[List.append_assoc,List.take_append_drop,bB,List.mem_append_right]
    intro h;rcases uj h with rfl|h<;>grind
   simp_all[tI,if_neg]
 | pL d|drain d|jn d|nj d|nk d|aV d|gz d|word d|Gh d=>omega
theorem La(j:fT s)(l:0<=cpu∧cpu<s.Heap.bl)(b:ct s (a*16)=true):fT (pq s (iQ s.Heap cpu a)):=by
 have d:=j.may.heap;have f:a*16 / 16=a:=Y;obtain⟨g,q,_⟩:=gb b;rw[f]at g;have h:=rB d l g;obtain⟨m,n,r⟩:=mv (cpu:=cpu) d g;have i:=vh s.Heap cpu a j.bU.small.heap;rw[mi (ch.2 d) l g]at i;refine Gl j h i m λc k x o=>?_
 have p:x.At≠a:=λe=>by
  unfold ct at b;rw[f]at b;simp only[Bool.and_eq_true,Bool.not_eq_true',<-Bool.not_eq_true]at b;refine b.2.1 ?_;unfold ji;rw[Pn];refine⟨c,k,?_⟩;unfold nN;rw[Pn];exact⟨x,o,decide_eq_true e⟩
 refine sD d.live h.live λy t=>?_;rw[n,jZ d.live g];grind
theorem ER{a:ff}(c:a.Kind=2):qR fT a:=λs u d h=>by
 cases h with
 | @pL u c h=>
   cases h with
   | range|no|fault=>grind[tI]
   | ok h e g=>
     simp only[tI,if_true];have i:=d.may.heap;obtain⟨f,_,_⟩:=gb e;rw[show a.At*16 / 16=a.At by omega]at f;grind[mi,ch,La,v7,absurd]
 | bt b|drain b|jn b|nj b|nk b|aV b|gz b|word b|Gh b=>omega
theorem Di{a:ff}(i:a.Kind=12):qR fT a:=λs u e h=>by
 cases h with
 | drain i=>
   have f:=e.may.heap;obtain⟨j,k,g,_⟩:=f.bA;have d:=De s.Heap e.bU.small.heap;rw[tH (ch.2 f) g]at d⊢;simp only[tI,if_true];exact Gl e (I9 f g) d Z λc l x m=>Z
 | bt b|pL b|jn b|nj b|nk b|aV b|gz b|word b|Gh b=>omega
variable {per size:Int} {c':aO} {acc:List Int} {i:Nat}
theorem fQ{h:Heap}(m:bf h){a b:Block}(n:a∈h.Live)(hb:b∈h.Live)(p:a.At≠b.At):a.At+pw a.Order<=b.At∨b.At+pw b.Order<=a.At:=by
 obtain⟨t,u,f⟩:=fC m;rcases Rc a.At (b.At+pw b.Order)with q|q
 ·rcases Rc b.At (a.At+pw a.Order)with r|r
  ·exfalso;obtain⟨k,g,rfl⟩:=Pg n;have c:=(f.live.each k g);have l:=f.live.all b hb;have v:=bP c.1.1 c.1.2;have w:=bP l.1.1 l.1.2
   have d:b∈h.Live.eraseIdx k:=by
    obtain⟨j,x,rfl⟩:=Pg hb;have s:j≠k:=λe=>by grind
    rw[Qc];grind
   have y:=f.M9 (max h.Live[k].At b.At).toNat;have z:=rA g (max h.Live[k].At b.At).toNat;have A:=Ma d (i:=(max h.Live[k].At b.At).toNat) (by have:=c.2.1;grind);have B:=(tL (a:=h.Live[k].At) (o:=h.Live[k].Order) (i:=(max h.Live[k].At b.At).toNat)).2 (by have:=c.2.1;grind)
   grind[qS]
  omega
 omega
theorem fE(a:aA s)(d:c∈s.ab){x:Slab}(f:x∈c.ae):∃b∈s.Heap.Live,b.At=x.At∧b.Order=c.Order:=by
 obtain⟨b,hb,e⟩:=mG a d f;refine⟨b,hb,e,?_⟩;obtain⟨i,g,rfl⟩:=Pg d;obtain⟨k,h,rfl⟩:=Pg f;have j:=((a.each i g).may.av k h).live;rw[<-e,gD a.heap.live hb]at j;grind
theorem lx{t:Int}(d:cJ size=(o,per,0))(h:fG size per t a=true):16*t<=a∧a<16*(t+pw o):=by
 have b:=jl d;unfold fG at h;simp only[Bool.and_eq_true,decide_eq_true_eq]at h;obtain⟨p,e⟩:=bq (per*size);rw[e]at b h;rcases b with⟨rfl,c⟩|⟨rfl,c⟩|⟨rfl,c⟩
 all_goals grind[pw]
def mX(c:aO):List Int:=c.ae.map λx=>x.At
theorem dU(cs:List aO):aG cs=(cs.map mX).flatten:=by unfold aG;rw[List.flatMap_def];rfl
theorem vw{l:List Slab}(d:acc.Nodup):rp acc l↔(acc++l.map λx=>x.At).Nodup:=by
 constructor
 ·intro h
  have c:∀k,k<=l.length->(acc++(l.take k).map λx=>x.At).Nodup:=by
   intro k;induction k with
   | zero=>grind
   | succ k f=>
     intro g;rw[Pk Y,PO,<-Po,Q6];refine⟨f Y,by simp,λa d b hb=>?_⟩;simp only[List.map_cons,List.map_nil,List.mem_singleton]at hb;subst hb;exact λe=>h k Y (e▸d)
  have:=c _ (Ph _);grind
 intro h k g i;have e:l=l.take k++l[k]::l.drop (k+1):=by simp
 grind
theorem jb:(∀(i:Nat)(h:i<s.ab.length),rp (aG (s.ab.take i)) s.ab[i].ae)↔(aG s.ab).Nodup:=by
 have step:∀i(h:i<s.ab.length),aG (s.ab.take (i+1))=aG (s.ab.take i)++s.ab[i].ae.map λx=>x.At:=λi h=>by
  grind[aG,List.take_succ_eq_append_getElem]
 constructor
 ·intro h
  have key:∀k,k<=s.ab.length->(aG (s.ab.take k)).Nodup:=by
   intro k;induction k<;>grind[aG,step,vw]
  have:=key _ (Ph _);grind
 intro h i hi
 have N4:∀k,(aG (s.ab.take k)).Nodup:=λk=>by
  grind[aG,List.take_append_drop,List.nodup_append]
 grind[vw,step]
theorem qT{t:aj}(n:aA s)(v:i<s.ab.length)(o:t.Words.length=4096)(p:bf t.Heap)(q:t.ab=s.ab.set i c')(r:c'.Names=s.ab[i].Names)(w:c'.ax=s.ab[i].ax)
 (x:dr t c') (y:∀c∈s.ab,(∃j,∃b:j<s.ab.length,j≠i∧c=s.ab[j])->dr t c) (u:(aG t.ab).Nodup):aA t:=by
 have d:t.ab.length=s.ab.length:=by grind
 have f:∀(j:Nat)(b:j<t.ab.length),t.ab[j]=if i=j then c' else s.ab[j]'Y:=λj b=>by
  grind
 have a:∀j,aR (t.ab.take j)=aR (s.ab.take j):=λj=>by
  have e:t.ab.map (λc=>c.Names)=s.ab.map λc=>c.Names:=by
   rw[q,QN];refine PK fy λk z A=>?_
   grind
  unfold aR<;>grind[aR,List.map_take]
 refine⟨o,p,by rw[d];exact n.most,λj b=>?_⟩;have h:j<s.ab.length:=Y;have l:=n.each j h
 have g:∀(k:Nat)(m:k<t.ab.length),t.ab[k].ax=(s.ab[k]'Y).ax:=λk m=>by
  grind
 refine⟨?_,λk m=>?_,?_,jb.2 u j b⟩
 ·grind
 ·rw[g j b,g k Y];exact l.size k m
 rw[a,f j b];split
 ·rename_i e;subst e;rw[r];exact l.names
 exact l.names
variable {k:Nat}
theorem gj{t:aj}(a:aA t)(f:t.small):t.bU:=by
 refine⟨f,Hp a.heap,λc d x g=>?_,λc d n h=>?_⟩
 ·obtain⟨b,hb,e⟩:=mG a d g;have:=(a.heap.live.all b hb).2.1;omega
 obtain⟨i,j,rfl⟩:=Pg d;obtain⟨k,l,rfl⟩:=Pg h;have:=((a.each i j).names.each k l).1;unfold dW at this<;>grind
theorem wh(a:k<c.ae.length){y:Slab}(h:y.At=c.ae[k].At):(c.ae.set k y).map (λx=>x.At)=c.ae.map λx=>x.At:=by
 rw[QN];refine PK fy λj b d=>?_
 grind
theorem gE{cs:List aO}(a:i<cs.length)(h:mX c'=mX cs[i]):aG (cs.set i c')=aG cs:=by
 rw[dU,dU,QN];congr 1
 refine PK fy λj b c=>?_
 grind
theorem dr.same{t:aj}(h:dr s c)(d:t.Words=s.Words)(b:t.Heap=s.Heap):dr t c:=
 ⟨h.lay,h.names,by rw[b];exact h.aD,λk a=>⟨by rw[b];exact(h.av k a).live,(h.av k a).next,by rw[d];exact(h.av k a).chain⟩,h.ns⟩
theorem ES(g:aA s){cpu:Nat}(t:i<s.ab.length)(C:cpu<s.ab[i].ao.length)(u:k<s.ab[i].ae.length)(hf:0<s.ab[i].ae[k].ai)
 (v:s.ab[i].ae[k].At=s.ab[i].ao[cpu]∨s.ab[i].ae[k].At∉s.ab[i].ao):
 aA ⟨s.Words,s.Heap,s.ab.set i (dl s.ab[i] cpu k (s.Words.getD s.ab[i].ae[k].bR.toNat 0))⟩:=by
 have m:=(g.each i t).may;have D:ey s.ab[i] k=s.ab[i].ae[k]:=eR u;have hl:=bM m.lay
 have n:mX (dl s.ab[i] cpu k (s.Words.getD s.ab[i].ae[k].bR.toNat 0))=mX s.ab[i]:=by
  unfold mX dl;simp only[D];exact wh u Z
 refine qT g t g.words g.heap Z Z Z ?_ (λc M _=>?_) ?_
 ·refine⟨m.lay,m.names,by simp only[dl,List.length_set];exact m.aD,λj b=>?_,λj b=>?_⟩
  ·simp only[dl,List.length_set]at b;have w:=m.av j b
   have d:∀(q:Nat)(r:q<s.ab[i].ae.length),((dl s.ab[i] cpu k (s.Words.getD s.ab[i].ae[k].bR.toNat 0)).ae[q]'(by grind[dl,List.length_set])).At=s.ab[i].ae[q].At:=λq r=>by
    simp only[dl,List.getElem_set,D];grind
   refine⟨by rw[d j b];exact w.live,λN=>by rw[d j b,d (j-1) Y];exact w.next N,?_⟩;obtain⟨z,O⟩:=w.chain;by_cases e:k=j
   ·subst e;have o:0<=s.ab[i].bd:=Y;obtain⟨P,E,F,G,H⟩:=(ie o).1 O;obtain⟨q,rest,A,Q,r,R⟩:=P.head (λe=>by grind);refine⟨rest,?_⟩
    have ev:s.Words.getD s.ab[i].ae[k].bR.toNat 0=s.Words[q]:=by
     grind
    have S:(dl s.ab[i] cpu k (s.Words.getD s.ab[i].ae[k].bR.toNat 0)).ae[k]'Y=⟨s.ab[i].ae[k].At,s.ab[i].ae[k].ai-1,s.Words[q]⟩:=by
     simp_all[dl,List.getElem_set,if_true]
    rw[S];rw[Q]at E F G H;simp only[List.length_cons]at F G;exact(ie (x:=⟨s.ab[i].ae[k].At,s.ab[i].ae[k].ai-1,s.Words[q]⟩) o).2 ⟨R,(Qj.1 E).2,by omega,by grind,λa ha=>H a (by grind)⟩
   refine⟨z,?_⟩
   simp_all[dl,List.length_set,List.getElem_set,if_neg]
  simp only[dl,List.length_set]at b
  have p:∀a,(dl s.ab[i] cpu k (s.Words.getD s.ab[i].ae[k].bR.toNat 0)).ae.any (sq a)=s.ab[i].ae.any (sq a):=λa=>by
   have A:∀l:List Slab,l.any (sq a)=(l.map λx=>x.At).any λy=>decide (y=a):=λl=>by rw[List.any_map];rfl
   rw[A,A];grind[mX]
  have T:s.ab[i].ae.any (sq s.ab[i].ae[k].At)=true:=Pn.2 ⟨_,Pf u,by simp[sq]⟩;have I:=m.ns j b;unfold qs at I⊢;have J:(dl s.ab[i] cpu k (s.Words.getD s.ab[i].ae[k].bR.toNat 0)).ao=s.ab[i].ao.set cpu s.ab[i].ae[k].At:=by grind[dl]
  rcases v with v|v
  ·simp_all
  have U:∀(L:List Int)(K:L=s.ab[i].ao.set cpu s.ab[i].ae[k].At)(r:j<L.length),L[j]= -1∨(L[j]∉L.take j∧(dl s.ab[i] cpu k (s.Words.getD s.ab[i].ae[k].bR.toNat 0)).ae.any (sq L[j])=true):=λL K r=>by
   subst K;rw[p,P4];by_cases e:cpu=j
   ·subst e;right;rw[if_pos Z,List.take_set_of_le (Ph _)];grind
   rw[if_neg e];rcases I with h|⟨V,W⟩
   ·omega
   refine .inr ⟨λX=>?_,W⟩;obtain⟨q,B,f⟩:=Pg X;simp only[List.length_take,List.length_set]at B;rw[PY,P4]at f;split at f
   ·grind
   refine V ?_;rw[<-f];exact PG.2 ⟨q,by omega,Z⟩
  grind
 ·obtain⟨j,b,rfl⟩:=Pg M;exact(g.each j b).may.same Z Z
 simp only;rw[gE t n];exact jb.1 λj b=>(g.each j b).av
variable {α:Type}
theorem Lb{cs:List aO}(d:i<cs.length){p:Nat}(h:mX c'=(mX cs[i]).take p++a::(mX cs[i]).drop p)(e:(aG cs).Nodup)(f:a∉aG cs):(aG (cs.set i c')).Nodup:=by
 have b:cs=cs.take i++cs[i]::cs.drop (i+1):=by simp
 have c:cs.set i c'=cs.take i++c'::cs.drop (i+1):=by grind
 have g:aG cs=(aG (cs.take i)++(mX cs[i]).take p)++((mX cs[i]).drop p++aG (cs.drop (i+1))):=by
  conv=>lhs;rw[b]
  rw[dU,dU,dU,PO,QZ,Qs,Qz];simp only[List.append_assoc];grind[List.append_assoc,List.take,List.take_append_drop]
 have j:aG (cs.set i c')=(aG (cs.take i)++(mX cs[i]).take p)++a::((mX cs[i]).drop p++aG (cs.drop (i+1))):=by
  rw[c,dU,dU,dU,PO,QZ,Qs,Qz,h];grind
 grind
theorem Cf{t:aj}{x:Slab}{d:List Int}(n:aA s)(o:c∈s.ab)(p:x∈c.ae)(b:cJ c.ax=(c.Order,c.bd,0))(f:bK s.Words c.ax c.bd x d)
 (g:∀a:Int,16*x.At<=a->a<16*(x.At+pw c.Order)->0<=a->t.Words[a.toNat]?=s.Words[a.toNat]?):bK t.Words c.ax c.bd x d:=by
 have e:0<=c.bd:=by have:=bM b;omega
 obtain⟨i,j,k,l,h⟩:=(ie e).1 f;exact(ie e).2 ⟨i.congr λa m q=>by obtain⟨r,u⟩:=lx b (h a m)<;>grind,j,k,l,h⟩
theorem rC{l:List α}{p:Nat}(a:p<=l.length){x:α}(b:j<(aP l p x).length):(∃h:j<l.length,j<p∧(aP l p x)[j]=l[j])∨(j=p∧(aP l p x)[j]=x)∨(∃h:j-1<l.length,p<j∧(aP l p x)[j]=l[j-1]):=by
 have c:=bT l a x;rcases PX j p with h|h|h
 ·left;have:=qk a (x:=x) h;grind
 ·right;left;subst h;have:=jP a (x:=x);grind
 right;right;obtain⟨q,rfl⟩:∃q,j=q+1:=⟨j-1,by omega⟩;have:=oz a (x:=x) (k:=q) Y
 grind
theorem ET(h:eU c a<c.ae.length):¬c.ae[eU c a].At<a:=by
 have:=Hf (p:=λx:Slab=>decide (x.At<a)) c.ae c.ae[eU c a] (Pp h);grind
theorem kd(h:dr s c):c.ae.Pairwise λx y=>x.At<y.At:=by
 have b:∀(d i:Nat)(a:i+d+1<c.ae.length),(c.ae[i]'Y).At<c.ae[i+d+1].At:=by
  intro d;induction d with
  | zero=>intro i a;have:=(h.av (i+1) a).next Y;grind
  | succ d e=>
    intro i a;have g:=e i Y;have k:=(h.av (i+(d+1)+1) a).next Y
    grind
 rw[Pq];intro i j l a f;have:=b (j-i-1) i Y
 grind
theorem Ao(m:aA s)(M:i<s.ab.length){u:Heap×Int×Int}(n:cj s.Heap cpu s.ab[i].Order 0 u)(o:u.2.2=0)(e:gI s.Words.length (16*u.2.1) s.ab[i].ax s.ab[i].bd):
 (∀b:Int,0<=b->(b<16*u.2.1∨16*(u.2.1+pw s.ab[i].Order)<=b)->(df s.Words (16*u.2.1) s.ab[i].ax s.ab[i].bd)[b.toNat]?=s.Words[b.toNat]?)∧
 (∀c∈s.ab,∀x∈c.ae,x.At≠u.2.1∧lU u.1.Live x.At=lU s.Heap.Live x.At∧(x.At+pw c.Order<=u.2.1∨u.2.1+pw s.ab[i].Order<=x.At))∧
 (∀c∈s.ab,dr s c->∀x∈c.ae,∀d,bK s.Words c.ax c.bd x d->bK (df s.Words (16*u.2.1) s.ab[i].ax s.ab[i].bd) c.ax c.bd x d)∧
 bK (df s.Words (16*u.2.1) s.ab[i].ax s.ab[i].bd) s.ab[i].ax s.ab[i].bd ⟨u.2.1,s.ab[i].bd,16*u.2.1⟩ (uT (16*u.2.1).toNat s.ab[i].ax.toNat s.ab[i].bd.toNat 0):=by
 have G:=(m.each i M).may;have hl:=bM G.lay;have r:=jl G.lay;have v:=n.at_ o;obtain⟨N,O,⟨ty,P,g⟩,w⟩:=n.from_ o;have h:=n.may o;obtain⟨a,Q⟩:=bq u.2.1;rw[Q]at e v g w⊢
 have y:(⟨a,s.ab[i].Order,ty⟩:Block)∈u.1.Live:=by
  rw[g];grind[dc,aP]
 have f:∀b∈s.Heap.Live,b∈u.1.Live:=λb hb=>by
  rw[g];grind[dc,aP,List.take_append_drop,bB]
 have z:∀c∈s.ab,∀x∈c.ae,x.At≠a∧lU u.1.Live x.At=lU s.Heap.Live x.At∧(x.At+pw c.Order<=a∨a+pw s.ab[i].Order<=x.At):=λc e x l=>by
  obtain⟨b,hb,R,e2⟩:=fE m e l;have A:x.At≠a:=by grind
  refine⟨A,?_,?_⟩
  ·rw[<-R,gD N.live hb,gD h.live (f b hb)]
  have:=fQ h (f b hb) y (by grind)
  grind
 obtain⟨p,S⟩:=bq (s.ab[i].bd*s.ab[i].ax);rw[S]at r;unfold gI at e;obtain⟨B,T,U,V,C,W⟩:=e
 have H:∀q:Nat,q<s.ab[i].bd.toNat->((q*s.ab[i].ax.toNat:Nat):Int)+s.ab[i].ax<=p:=λq I=>by
  have D:(q+1)*s.ab[i].ax.toNat<=s.ab[i].bd.toNat*s.ab[i].ax.toNat:=PC _ Y
  grind
 have X:∀b:Int,0<=b->(b<16*a∨16*(a+pw s.ab[i].Order)<=b)->(df s.Words (16*a) s.ab[i].ax s.ab[i].bd)[b.toNat]?=s.Words[b.toNat]?:=λb J hb=>by
  unfold df<;>grind[df,pu,pw]
 have K:∀c∈s.ab,dr s c->∀x∈c.ae,∀d,bK s.Words c.ax c.bd x d->bK (df s.Words (16*a) s.ab[i].ax s.ab[i].bd) c.ax c.bd x d:=λc e E x l d ho=>
  Cf (t:=⟨df s.Words (16*a) s.ab[i].ax s.ab[i].bd,u.1,[]⟩) m e l E.lay ho λb r1 r2 J=>X b J (by have:=(z c e x l).2.2;omega)
 have L:bK (df s.Words (16*a) s.ab[i].ax s.ab[i].bd) s.ab[i].ax s.ab[i].bd ⟨a,s.ab[i].bd,16*a⟩ (uT (16*a).toNat s.ab[i].ax.toNat s.ab[i].bd.toNat 0):=by
  have j:0<s.ab[i].ax.toNat:=Y
  have F:∀q,q<s.ab[i].bd.toNat->(16*a).toNat+q*s.ab[i].ax.toNat<s.Words.length:=λq I=>by
   grind
  have D:=Cd j F s.ab[i].bd.toNat 0 Y Y;rw[Nat.zero_mul,Q8,Int.toNat_of_nonneg C]at D;refine(ie Y).2 ⟨D,Af j _ _,by rw[Ae];omega,by rw[Ae];grind,λb hb=>?_⟩;obtain⟨q,_,I,rfl⟩:=Ad.1 hb;refine xr (k:=q) B Y ?_
  grind
 grind
theorem EU(v:aA s)(z:i<s.ab.length){u:Heap×Int×Int}(J:cj s.Heap cpu s.ab[i].Order 0 u)(K:u.2.2=0)(H:gI s.Words.length (16*u.2.1) s.ab[i].ax s.ab[i].bd):
 aA ⟨df s.Words (16*u.2.1) s.ab[i].ax s.ab[i].bd,u.1,s.ab.set i (de s.ab[i] u.2.1)⟩:=by
 have g:=(v.each i z).may;obtain⟨V,d,l,m⟩:=Ao v z J K H;obtain⟨hm,A,⟨ty,W,B⟩,X⟩:=J.from_ K;have C:=J.may K;obtain⟨a,ea⟩:=bq u.2.1;rw[ea]at V d l m B⊢
 have L:(⟨a,s.ab[i].Order,ty⟩:Block)∈u.1.Live:=by
  rw[B];grind[dc,aP]
 have D:=lD s.ab[i] a;refine qT v z (by simp only[df,jR];exact v.words) C Z Z Z ?_ (λc H _=>?_) ?_
 ·refine⟨g.lay,g.names,by simp only[de];rw[A];exact g.aD,λj n=>?_,λj n=>?_⟩
  ·have f:j<(aP s.ab[i].ae (eU s.ab[i] a) ⟨a,s.ab[i].bd,16*a⟩).length:=n;have o:s.ab[i]∈s.ab:=Pf z
   have M:∀x∈s.ab[i].ae.drop (eU s.ab[i] a),a<x.At:=λx I=>by
    obtain⟨q,N,rfl⟩:=Pg I;simp only[List.length_drop]at N;rw[P8];have Q:=ET (c:=s.ab[i]) (a:=a) Y;have R:=(d _ o _ (Pf (show eU s.ab[i] a+q<s.ab[i].ae.length by omega))).1;rcases Ps q with e|e
    ·grind
    have S:=kd g;rw[Pq]at S;have:=S (eU s.ab[i] a) (eU s.ab[i] a+q) Y Y Y;omega
   have O:∀x∈s.ab[i].ae.take (eU s.ab[i] a),x.At<a:=λx I=>by
    obtain⟨q,N,rfl⟩:=Pg I;simp only[List.length_take]at N;grind[List.length_take,C8]
   have E:(aP s.ab[i].ae (eU s.ab[i] a) ⟨a,s.ab[i].bd,16*a⟩).Pairwise λx y=>x.At<y.At:=by
    unfold aP;rw[Po,PN];refine⟨List.Pairwise.sublist (List.take_sublist _ _) (kd g),?_,λx I y T=>?_⟩
    ·grind[List.singleton_append,List.pairwise_cons,List.Pairwise.sublist,List.drop_sublist,kd]
    grind
   have r:0<j->((aP s.ab[i].ae (eU s.ab[i] a) ⟨a,s.ab[i].bd,16*a⟩)[j-1]'Y).At<((aP s.ab[i].ae (eU s.ab[i] a) ⟨a,s.ab[i].bd,16*a⟩)[j]'f).At:=λh0=>by
    rw[Pq]at E;exact E (j-1) j Y f Y
   have P:∀(y:Slab),((∃k,∃t:k<s.ab[i].ae.length,y=s.ab[i].ae[k])∨y=⟨a,s.ab[i].bd,16*a⟩)->lU u.1.Live y.At=s.ab[i].Order∧∃b,bK (df s.Words (16*a) s.ab[i].ax s.ab[i].bd) s.ab[i].ax s.ab[i].bd y b:=λy T=>by
    rcases T with⟨k,t,rfl⟩|rfl
    ·have w:=g.av k t;obtain⟨b,U⟩:=w.chain;exact⟨((d _ o _ (Pf t)).2.1).trans w.live,b,l _ o g _ (Pf t) b U⟩
    exact⟨gD C.live L,_,m⟩
   have F:=P ((aP s.ab[i].ae (eU s.ab[i] a) ⟨a,s.ab[i].bd,16*a⟩)[j]'f) (by
    rcases rC D f with⟨h,_,e⟩|⟨_,e⟩|⟨h,_,e⟩<;>grind)
   exact⟨F.1,r,F.2⟩
  have:=g.ns j n;unfold qs at this⊢;rcases this with h|⟨Q,R⟩
  ·exact .inl h
  refine .inr ⟨Q,?_⟩;simp only[de,aP];rw[Pn]at R⊢;grind[List.any_eq_true,List.take_append_drop,eU]
 ·obtain⟨j,n,rfl⟩:=Pg H;have G:=(v.each j n).may;refine⟨G.lay,G.names,by simp only;rw[A];exact G.aD,λk t=>?_,G.ns⟩;have w:=G.av k t;refine⟨((d _ H _ (Pf t)).2.1).trans w.live,w.next,?_⟩;obtain⟨b,U⟩:=w.chain<;>grind
 simp only;refine Lb z (p:=eU s.ab[i] a) (a:=a) ?_ (jb.1 λj n=>(v.each j n).av) ?_
 ·simp only[mX,de,aP,List.map_append,List.map_cons,List.map_nil,List.map_take,List.map_drop,List.append_assoc,List.singleton_append]
 grind[aG]
theorem Mk(t:Int)(f:Nat)(x:Block)(w:World)(c:ay w f 3 [Iv t])(l:0<=x.At∧x.At<=255)(g:0<=x.Order∧x.Order<=4):
 aS prog 176 ([.agg (aL x).toArray]++[Pt f]) w λv _=>v= .bool (decide (x.At<=t) && decide (t<x.At+pw x.Order)):=by
 refine Wj func176 ntmps176 ?_;refine Ww λm h d j b=>?_;have c:=c.ext d;have e:=c.cell (i:=0) (v:=Iv t) Z;rw[add_zero]at e;have n:=bP g.1 g.2;by_cases k:x.At<=t
 ·repeat'(first|refine Wz ?_|refine fq ?_|refine Wl e ?_|(refine SW.st (fO (r:=pw x.Order) Z Z Y Y (by simp[pw]) Y Y) Z ?_)|(refine SW.br λh a=>?_;obtain⟨d,b,c⟩:=aY a d b c))
  exact ah.aF Z Z ⟨_,Z,d,by simp[k]⟩
 repeat'(first|refine Wz ?_|refine fq ?_|refine Wl e ?_|(refine SW.br λh a=>?_;obtain⟨d,b,c⟩:=aY a d b c))
 exact ah.aF Z Z ⟨_,Z,d,by simp[k]⟩
theorem GA(r:cc)(s:aj)(a:Int)(w:World)(J:mB w r s)(hf:s.bU)(T:aA s)(ha: -9223372036854775808<=a∧a<=9223372036854775807):
 aS prog 88 [.agg (ar r).toArray,Iv a] w λv _=>∃b,fw s a b∧v= .bool b:=by
 refine Wj func88 ntmps88 ?_;refine Ww λR U f zh d=>?_;have S:=hf.small;obtain⟨cs,H⟩:=J.aV;obtain⟨z1,z2⟩:=H.len;have wl:=J.words.len;have m1:=S.words;have m3:=S.aV;by_cases hb:0<=a∧a<s.Words.length;rotate_left
 ·have F:a<0∨(0<=a∧(s.Words.length:Int)<=a):=Y;rcases F with h|h
  all_goals refine Wz ?_
  all_goals exact ah.aF Z Z ⟨_,Z,f,_,.out hb,Z⟩
 obtain⟨V,zk⟩:=id hb;refine Wz ?_
 refine CW.loop (λk:Nat=>[(1,Iv a),(2,Pt R),(24,.slice r.ab.A r.ab.n r.ab.c),(25,Iv (r.ab.n:Int)),(26,Iv (k:Int))])
  (λk E=>k<=r.ab.n∧Ext w E∧ay E R 37 (ar r)∧∀(j:Nat)(h:j<s.ab.length),j<k->∀x∈s.ab[j].ae,¬gV s.ab[j] x a) (λk=>r.ab.n-k) 0
  ⟨Z,Z,Z,Z,Z,trivial⟩ ⟨by omega,f,d,λj h h'=>by omega⟩ ?_
 rintro i E ⟨W,f,d,hI⟩;have hA:=H.row.base;by_cases X:i<r.ab.n
 ·have za:i<cs.length:=Y;have z:i<s.ab.length:=Y;have n:=H.each.get i za z;have sm:=S.each _ (Pf z);have K:=(T.each i z).may;obtain⟨l1,l2,l3⟩:=bM K.lay;have eS:=n.size;have eO:=n.order;have n2:=n.av.len;have m2:=sm.av;have hS:1<=cs[i].ax∧cs[i].ax<=64:=Y;have hO:0<=cs[i].Order∧cs[i].Order<=4:=Y;have hp:=bP hO.1 hO.2;repeat'(first|refine Wz ?_|refine SW.st (g7 f Z Z ((H.row.all X))) Z ?_)
  refine Wr (ox _) λb6 w2 g L l=>?_;have zi:=f.up L;have f:=f.trans g;have d:=d.ext g;refine Wz ?_
  refine CW.loop (λk:Nat=>[(1,Iv a),(2,Pt R),(6,Pt b6),(24,.slice r.ab.A r.ab.n r.ab.c),(25,Iv (r.ab.n:Int)),(26,Iv (i:Int)),(31,.slice cs[i].ae.A cs[i].ae.n cs[i].ae.c),(32,Iv (cs[i].ae.n:Int)),(33,Iv (k:Int))])
   (λk E=>k<=cs[i].ae.n∧Ext w E∧ay E R 37 (ar r)∧ay E b6 58 (cr cs[i])∧∀(j:Nat)(h:j<s.ab[i].ae.length),j<k->¬gV s.ab[i] s.ab[i].ae[j] a) (λk=>cs[i].ae.n-k) 0
   ⟨Z,Z,Z,Z,Z,Z,Z,Z,Z,trivial⟩ ⟨by omega,f,d,l,λj h h'=>by omega⟩ ?_
  rintro k E ⟨W,f,d,l,hJ⟩;have zl:=n.av.base;by_cases zb:k<cs[i].ae.n
  ·have zc:k<s.ab[i].ae.length:=Y;obtain⟨x,G⟩:=bq (s.ab[i].ae[k]);have A:x∈s.ab[i].ae:=by rw[<-G];exact Pf zc
   have gS:=n.av.all zb;rw[G]at gS;have ht:=(K.mX (T.heap)) x A;repeat'(first|refine Wz ?_|refine SW.st (g7 f Z Z gS) Z ?_)
   refine Wr (gG.one (enc:=bG) _) λb8 w2 g M B=>?_;have zj:=f.up M;have f:=f.trans g;have d:=d.ext g;have l:=l.ext g;by_cases C:gV s.ab[i] x a
   ·have o:=C;unfold gV at o;rw[<-eO]at o;have N:(a-x.At*16).tmod cs[i].ax=(a-x.At*16) % cs[i].ax:=Pv Y;have zm:=Rg (a-x.At*16) (show cs[i].ax≠0 by omega);have zn:=QW (a-x.At*16) (show 0<cs[i].ax by omega);have zo:cs[i].ax≠0:=Y;repeat'(first|refine Wz ?_|(refine SW.st (fO (r:=16*pw cs[i].Order) Z Z Y Y (by simp[pw]) Y Y) Z ?_))
    refine CW.any 14 mixed (cy bm) Z λU p zp=>?_;have f:=f.trans p;have d:=d.ext p;have l:=l.ext p;have B:=B.ext p;refine Wa ?_;refine SA.bD 7 ?_;refine SW.call Z Z (tB r s _ _ (J.ext f) hf (by rw[N];omega)) λv w4 g hv=>?_;obtain⟨u,hu,rfl⟩:=hv;obtain⟨u1,u2,u3⟩:=u;simp only[qG];(have f:=f.trans g;have d:=d.ext g;have l:=l.ext g;have B:=B.ext g);refine SW.nil (ah.sa g ?_);refine Wa ?_;refine SA.fH ?_;rw[N,eS]at hu;have I:=fw.oK hb (Pf z) A C hu;by_cases h0:u3=0
    ·refine Wz ?_;exact ah.aF Z Z ⟨_,Z,f,_,I,by simp[h0]⟩
    refine Wz ?_;exact ah.aF Z Z ⟨_,Z,f,_,I,by simp[h0]⟩
   have o:=C;unfold gV at o;rw[<-eO]at o;have F:a-x.At*16<0∨(0<=a-x.At*16∧16*pw cs[i].Order<=a-x.At*16):=Y
   have zd:∀(j:Nat)(h:j<s.ab[i].ae.length),j<k+1->¬gV s.ab[i] s.ab[i].ae[j] a:=λj h h'=>by
    by_cases e:j=k
    ·subst e;rw[G];exact C
    exact hJ j h Y
   rcases F with h|h
   all_goals repeat'(first|refine Wz ?_|(refine SW.st (fO (r:=16*pw cs[i].Order) Z Z Y Y (by simp[pw]) Y Y) Z ?_))
   all_goals exact ah.again (k+1) ⟨Z,Z,Z,Z,Z,Z,Z,Z,Z,trivial⟩ Y ⟨by omega,f,d,l,zd⟩
  refine Wz ?_
  exact ah.again (i+1) ⟨Z,Z,Z,Z,Z,trivial⟩ Y ⟨by omega,f,d,λj h h'=>by
   by_cases e:j=i
   ·subst e;intro x G;obtain⟨q,hq,rfl⟩:=Pg G;exact hJ q hq Y
   exact hI j h Y⟩
 have ze:∀c∈s.ab,∀x∈c.ae,¬gV c x a:=λc H x G=>by
  obtain⟨j,hj,rfl⟩:=Pg H;exact hI j hj Y x G
 have hq:a.tdiv 16=a / 16:=QY V;obtain⟨t,ht⟩:=bq (a / 16);have zq:=J.heap.live.len;have m5:=S.heap.live;refine Wz ?_;refine SW.alloc Z λD w2 O P m=>?_;have Q:=f.up P;(have f:=f.trans O;have d:=d.ext O);skip;refine SW.mJ (i:=0) m Z Z Z Z λw3 y hg=>?_;have hG:=m.gr hg;have f:=f.own Q hg;(have d:=d.aQ hG Z);have m:ay w3 D 3 [Iv t]:=by rw[<-ht];exact y
 repeat'(first|refine Wz ?_|(refine SW.st (gH (vs:=[Pt D]) Z) Z ?_))
 refine SW.call Z Z (k6 _ _ _ s.Heap.Live _ (J.heap.live.ext f) _ [Pt D] (λb=>decide (b.At<=t) && decide (t<b.At+pw b.Order)) (λx=> .agg (aL x).toArray) (λx=>Z)
  (λx A U zf=>by
    obtain⟨k,W,rfl⟩:=Pg A;have hl:=T.heap.live.each k W;exact Mk t D _ U (m.ext zf) hl.2.1 hl.1) Y) λv w4 zg hv=>?_
 subst hv;have f:=f.trans zg;have I:=fw.bt hb ze;unfold qP at I;rw[ht]at I;refine Wz ?_;exact ah.aF Z Z ⟨_,Z,f,_,I,Z⟩
theorem Fb(r:cc)(s:aj)(a:ff)(lo:Nat)(w:World)(I:gK w lo r s)(W:lo<=w.heap.size)(hI:fT s)(J: -9223372036854775808<=a.At∧a.At<=9223372036854775807):
 aS prog 28 [.agg (ar r).toArray,.agg (pB a).toArray] w λv w'=>∃u,ni s a u∧∃q,v= .tuple #[.agg (ar q).toArray,Iv u.2.1,Iv u.2.2]∧gK w' lo q u.1:=by
 obtain⟨k,cpu,n,m,K,fl,L⟩:=a;simp only at J;have hf:=hI.bU;have hs:=hf.small;have hM:=hI.may;have ze:=hM.words;have wl:=I.words.len;refine Wj func28 ntmps28 ?_;refine Ww λT w1 l zb d=>?_;have l2:=d.lt;refine SW.box Z Z λb3 z B M f=>?_;have zc:=l.up M;obtain⟨l,d⟩:=bk B l d;have l3:=f.lt;refine SW.alloc Z λb4 z B N o=>?_;have zd:=l.up N;obtain⟨l,d,f⟩:=aY B l d f;have zf:T≠b4:=Y;have zg:b4≠T:=Y;repeat'(first|refine Wy ?_|refine Wm ((λ_ _=>d.cell)) ?_|refine Wl (f.cell (i:=4) (v:=Iv K) Z) ?_)
 refine Wk (GA r s K _ (I.rd.ext l) hf hM J) λv w3 O U=>?_;obtain⟨b,hb,rfl⟩:=U;obtain⟨l,d,f,o⟩:=cG O l d f o;have j:=I.ext l;cases b
 ·have D:=ni.no (a:=⟨k,cpu,n,m,K,fl,L⟩) hb;repeat'(first|refine Wy ?_|(refine CW.bQ Z ?_)|refine Wm ((λ_ _=>d.cell)) ?_)
  refine Wh o (aB r) λw7 g t=>?_;obtain⟨l,j⟩:=bk g l j;repeat'(first|refine Wy ?_|fail);exact ah.cb Z Z Z Z t Z ⟨_,Z,l,_,D,r,Z,j⟩
 have X:0<=K∧K<4096:=by
  generalize e:true=b at hb;cases hb with
  | out=>cases e
  | oK h=>omega
  | bt h=>omega
 obtain⟨p,rfl⟩:=Pm X.1;have G:p<r.Words.n:=Y;have P:p<s.Words.length:=Y;have zh:=I.words.sl.base;by_cases E:k=14
 ·have D:=ni.read (a:=⟨k,cpu,n,m,p,fl,L⟩) hb E;have zi:=I.words.sl.one G (congrArg aT (rfl:s.Words[p]=s.Words[p]));have e1:s.Words.getD ((p:Nat):Int).toNat 0=s.Words[p]:=by simp[List.getD,P]
  simp only[Int.ofNat_eq_natCast]at D;rw[e1]at D;subst E;repeat'(first|refine Wy ?_|(refine CW.bo Z ?_)|refine Wl (f.cell (i:=0) (v:=Iv 14) Z) ?_)
  refine CW.iF 7 9 (λz=>gK z lo r s∧ay z T 37 (ar r)∧ay z b3 47 (pB ⟨14,cpu,n,m,p,fl,L⟩)) mixed bm λw1 Q x=>?_;obtain⟨l,d,f,o,j⟩:=dz Q l d f o j;refine Wt 0 [] [] x Z (cv Z Z ((λ_ _=>d.cell))) ?_;refine Wi 1 [] x Z (aI Z) (λz C=>aI Z) ?_;refine SF.nz 2 [] x Z bm bm bm (aJ Z (d.cell (i:=0) (v:= .slice r.Words.A r.Words.n r.Words.c) Z)) (λz C=>aJ Z (C.2.1.cell (i:=0) (v:= .slice r.Words.A r.Words.n r.Words.c) Z)) Z ?_;refine Wi 3 [] x Z (aI Z) (λz C=>aI Z) ?_;refine SF.nz 4 [] x Z bm bm bm (aJ Z (f.cell (i:=4) (v:=Iv (p:Int)) Z)) (λz C=>aJ Z (C.2.2.cell (i:=4) (v:=Iv (p:Int)) Z)) Z ?_;refine Wi 5 [] x Z (bO Z Z ig Y) (λz C=>bO Z Z ig Y) ?_;refine Wi 6 [] x Z (aJ Z (j.words.sl.one G (congrArg aT (rfl:s.Words[p]=s.Words[p])))) (λz C=>aJ Z (C.1.words.sl.one G (congrArg aT (rfl:s.Words[p]=s.Words[p])))) ?_;refine SF.eW ?_;refine Wh o (aB r) λw8 g R=>?_;obtain⟨d,l,j,f⟩:=cG g d l j f;have C:=And.intro j (And.intro d f);refine SW.nil (ah.sg C ?_);refine SG.bD 8 ?_;repeat(refine SW.pure Z Z ?_)
  refine SW.nil (ah.sg C ?_);refine SG.dQ ?_;repeat'(first|refine Wy ?_|fail);exact ah.cb Z Z Z Z R Z ⟨_,Z,l,_,D,r,Z,j⟩
 by_cases V:uS m;rotate_left
 ·have D:=ni.range (a:=⟨k,cpu,n,m,p,fl,L⟩) hb E V;have H:=V;unfold uS at H;have za:m< -1099511627776∨(-1099511627776<=m∧1099511627776<m):=Y;rcases za with h|h
  all_goals repeat'(first|refine Wy ?_|(refine CW.bo Z ?_)|refine Wl (f.cell (i:=0) (v:=Iv k) Z) ?_|refine Wl (f.cell (i:=3) (v:=Iv m) Z) ?_|refine Wm ((λ_ _=>d.cell)) ?_)
  all_goals
   refine Wh o (aB r) λw7 g t=>?_;obtain⟨l,j⟩:=bk g l j;repeat'(first|refine Wy ?_|fail);exact ah.cb Z Z Z Z t Z ⟨_,Z,l,_,D,r,Z,j⟩
 have D:=ni.write (a:=⟨k,cpu,n,m,p,fl,L⟩) hb E V;have H:=V;unfold uS at H;repeat'(first|refine Wy ?_|(refine CW.bo Z ?_)|refine Wl (f.cell (i:=0) (v:=Iv k) Z) ?_|refine Wl (f.cell (i:=3) (v:=Iv m) Z) ?_|refine Wl (f.cell (i:=4) (v:=Iv (p:Int)) Z) ?_|refine Wl (d.cell (i:=0) (v:= .slice r.Words.A r.Words.n r.Words.c) Z) ?_)
 refine Wk (Jk r.Words.A r.Words.n r.Words.c s.Words p m _ (I.words.sl.ext l) Y) λv w4 S U=>?_;rw[if_pos Y]at U;obtain⟨A,c,rfl,y⟩:=U;have y:=y.low (Pj W l.size);obtain⟨l,d,f,o,j⟩:=dz S l d f o j;repeat'(first|refine Wy ?_|fail);refine We (i:=0) d λw5 g F=>?_;obtain⟨o,l,f,j,y⟩:=dz g o l f j y;have d:ay w5 T 37 (ar ⟨⟨A,r.Words.n,c⟩,r.Heap,r.ab⟩):=F;repeat'(first|refine Wy ?_|refine Wm ((λ_ _=>d.cell)) ?_)
 refine Wh o (aB ⟨⟨A,r.Words.n,c⟩,r.Heap,r.ab⟩) λw7 g t=>?_;obtain⟨l,j,y⟩:=aY g l j y;repeat'(first|refine Wy ?_|fail);exact ah.cb Z Z Z Z t Z ⟨_,Z,l,_,D,⟨⟨A,r.Words.n,c⟩,r.Heap,r.ab⟩,Z,y,j.heap,j.aV⟩
variable {n:ByteArray} {p:α -> Bool}
theorem Hq{l:List α}(h:idxOf p l=(k:Int)):∃a:k<l.length,p l[k]=true:=by
 unfold idxOf at h;split at h
 ·rename_i b;have c:l.findIdx p<l.length:=List.findIdx_lt_length_of_exists (by grind);have e:l.findIdx p=k:=Y
  grind
 omega
theorem Hr{cpu:Nat}(f:cpu<c.ao.length)(h:jS c cpu=(k:Int)):∃a:k<c.ae.length,0<c.ae[k].ai∧(c.ae[k].At=c.ao[cpu]∨c.ae[k].At∉c.ao):=by
 unfold jS at h;split at h
 ·rename_i b;rw[h]at b;have h':=h;unfold xZ at h';obtain⟨a,d⟩:=Hq h';have e:ey c (k:Int).toNat=c.ae[k]:=by grind[Int.toNat_natCast,eR]
  rw[e]at b;refine⟨a,b.2,.inl ?_⟩;have:=of_decide_eq_true d;grind
 obtain⟨a,d⟩:=Hq h;unfold nd at d<;>grind
theorem oP{x:Int}(a:0<=o)(b:o<=4)(c:0<=x)(d:x<256)(e:x % pw o=0):x+pw o<=256:=by
 grind[eE]
theorem Gm(f:aA s)(j:i<s.ab.length){u:Heap×Int×Int}(a:cj s.Heap cpu s.ab[i].Order 0 u)(b:u.2.2=0):gI s.Words.length (16*u.2.1) s.ab[i].ax s.ab[i].bd:=by
 have g:=(f.each i j).may;have x:=bM g.lay;have k:=jl g.lay;have l:=a.at_ b;obtain⟨y,m,⟨ty,n,c⟩,o⟩:=a.from_ b;have d:=a.may b
 have e:(⟨u.2.1,s.ab[i].Order,ty⟩:Block)∈u.1.Live:=by
  rw[c];grind[dc,aP]
 obtain⟨h,q,r,_⟩:=d.live.all _ e;have z:=oP h.1 h.2 q.1 (show u.2.1<256 by omega) r;have A:=f.words;have t:pw 0=1:=by decide
 have v:pw 1=2:=by decide
 have w:pw 2=4:=by decide
 obtain⟨p,B⟩:=bq (s.ab[i].bd*s.ab[i].ax);unfold gI<;>grind
theorem Gn{h:Heap}{u:Heap×Int×Int}(c:bf h)(d:0<=cpu∧cpu<h.bl)(e:0<=o∧o<=4)(a:cj h cpu o 0 u):u.2.2=0∨u.2.2=6:=by
 cases a with
 | bad hb=>grind[ch]
 | range _ f=>omega
 | form _ _ b=>exact absurd b ir
 | once=>grind
 | kA=>grind
 | room=>grind
theorem mo.j7{u:aj×Int×Int}(J:fT s)(h:mo s n cpu u)(N:ga s n cpu=0):(u.2.2=0∧fT u.1)∨u.2.2=6:=by
 have j:=J.may;have d:=h.small J.bU;obtain⟨_,_,O⟩:=jj N;cases h with
 | ask h=>omega
 | @A9 i m _ e B P=>
   have D:=(j.each i B).may;have hl:=bM D.lay;have f:cpu.toNat<s.ab[i].ao.length:=by have:=D.aD;omega
   cases P with
   | @xF k C=>
     left;obtain⟨E,Q,R⟩:=Hr f C;have:=ES j B f E Q R;refine⟨Z,?_⟩
     have e:(kC s i cpu.toNat (some ⟨s.Words,s.Heap,s.ab[i],k⟩,0)).1=⟨s.Words,s.Heap,s.ab.set i (dl s.ab[i] cpu.toNat k (s.Words.getD s.ab[i].ae[k].bR.toNat 0))⟩:=by
      grind[kC,aZ,jJ,eR]
     rw[e]at d⊢;exact⟨gj this d,this⟩
   | @room v C g l=>
     right;have:=Gn j.heap (cpu:=(cpu.toNat:Int)) Y Y g;rcases this with h|h
     ·omega
     exact h
   | @chain v C g l o=>grind[absurd,Gm]
   | @new v C g l o=>
     left;refine⟨Z,?_⟩;have S:=EU j B g l o;have p:=lD s.ab[i] v.2.1;have T:=g.at_ l;obtain⟨_,_,_,F⟩:=g.from_ l
     have E:eU s.ab[i] v.2.1<(de s.ab[i] v.2.1).ae.length:=by
      simp only[de];grind[de,bT]
     have G:(de s.ab[i] v.2.1).ae[eU s.ab[i] v.2.1]=⟨v.2.1,s.ab[i].bd,16*v.2.1⟩:=by
      have:=jP p (x:=(⟨v.2.1,s.ab[i].bd,16*v.2.1⟩:Slab));obtain⟨_,e⟩:=PF.1 this;exact e
     have H:∀(c:aO)(K:c=de s.ab[i] v.2.1)(t:aj)(L:aA t)(r:i<t.ab.length)(w:t.ab[i]=c)(y:eU s.ab[i] v.2.1<c.ae.length),aA ⟨t.Words,t.Heap,t.ab.set i (dl c cpu.toNat (eU s.ab[i] v.2.1) (t.Words.getD c.ae[eU s.ab[i] v.2.1].bR.toNat 0))⟩:=λc K t L r w y=>by
      subst w
      have U:t.ab[i].ae[eU s.ab[i] v.2.1]=⟨v.2.1,s.ab[i].bd,16*v.2.1⟩:=by
       grind
      have z:t.ab[i].ao=s.ab[i].ao:=by rw[K];rfl
      refine ES L r (by grind) y (by grind) (.inr ?_);rw[U,z];intro A;obtain⟨q,V,W⟩:=Pg A;have a:=D.ns q V;unfold qs at a;rw[W]at a;rcases a with h|⟨_,h⟩
      ·simp only at h;omega
      obtain⟨x,X,I⟩:=Pn.1 h;obtain⟨b,hb,eb⟩:=mG j (Pf B) X;exact F b hb (by rw[eb];exact of_decide_eq_true I)
     have M:=H _ Z _ S (by grind) fy E
     have e:(kC s i cpu.toNat (some ⟨df s.Words (16*v.2.1) s.ab[i].ax s.ab[i].bd,v.1,de s.ab[i] v.2.1,eU s.ab[i] v.2.1⟩,0)).1=⟨df s.Words (16*v.2.1) s.ab[i].ax s.ab[i].bd,v.1,(s.ab.set i (de s.ab[i] v.2.1)).set i (dl (de s.ab[i] v.2.1) cpu.toNat (eU s.ab[i] v.2.1) ((df s.Words (16*v.2.1) s.ab[i].ax s.ab[i].bd).getD (de s.ab[i] v.2.1).ae[eU s.ab[i] v.2.1].bR.toNat 0))⟩:=by
      grind[kC,aZ,jJ,eR,List.set_set]
     rw[e]at d⊢;exact⟨gj M d,M⟩
theorem Ap{t:Int}(s:1<=size){l:List Int}(j:l.Nodup)(h:∀a∈l,fG size per t a=true):(l.length:Int)<=per∨l=[]:=by
 rcases List.eq_nil_or_concat l with e|⟨i,x,e⟩
 ·grind
 left
 have d:∀a,fG size per t a=true->∃q:Nat,(q:Int)<per∧a=16*t+q*size:=λa c=>by
  unfold fG at c;simp only[Bool.and_eq_true,decide_eq_true_eq]at c;obtain⟨⟨k,m⟩,u⟩:=c;have g:(a-t*16) / size<per:=QI Y m;have n:0<=(a-t*16) / size:=Qt k Y;have v:=PZ (a-t*16) size;grind[Int.mul_ediv_add_emod,Int.eq_ofNat_of_zero_le,Int.mul_comm]
 have w:∀(q:Nat),((16*t+q*size-16*t) / size).toNat=q:=λq=>by
  rw[show 16*t+q*size-16*t=q*size by omega,Int.mul_ediv_cancel _ Y];grind
 have g:=uw (f:=λa=>((a-16*t) / size).toNat) j (λa c b hb e=>by
  obtain⟨q,_,rfl⟩:=d a (h a c);obtain⟨r,_,rfl⟩:=d b (h b hb)<;>grind)
 have n:=tp per.toNat _ g (λx o=>by
  obtain⟨a,c,rfl⟩:=Pw.1 o;obtain⟨q,p,rfl⟩:=d a (h a c)<;>grind)
 grind
theorem EV(a:aA s)(b:i<s.ab.length)(c:j<i){x y:Slab}(d:x∈(s.ab[j]'Y).ae)(f:y∈s.ab[i].ae):x.At≠y.At:=λe=>by
 obtain⟨q,g,rfl⟩:=Pg f;refine(a.each i b).av q g (PU _ ?_);unfold aG;rw[Py];exact⟨s.ab[j]'Y,PG.2 ⟨j,by omega,Z⟩,Pw.2 ⟨x,d,e⟩⟩
theorem mH(b:aA s)(c:j<s.ab.length)(d:i<s.ab.length)(a:j≠i){x y:Slab}(e:x∈s.ab[j].ae)(f:y∈s.ab[i].ae):x.At≠y.At:=by
 rcases Nat.lt_or_gt_of_ne a with h|h<;>grind[Nat.lt_or_gt_of_ne,EV]
theorem Hs(g:aA s)(H:i<s.ab.length)(N:k<s.ab[i].ae.length){d:List Int}(p:fG s.ab[i].ax s.ab[i].bd s.ab[i].ae[k].At a=true)(O:bK s.Words s.ab[i].ax s.ab[i].bd s.ab[i].ae[k] d)(A:a∉d):(0<=a∧a<4096)∧
 (∀c∈s.ab,dr s c->∀x∈c.ae,x.At≠s.ab[i].ae[k].At->∀o,bK s.Words c.ax c.bd x o->bK (s.Words.set a.toNat s.ab[i].ae[k].bR) c.ax c.bd x o)∧
 bK (s.Words.set a.toNat s.ab[i].ae[k].bR) s.ab[i].ax s.ab[i].bd ⟨s.ab[i].ae[k].At,s.ab[i].ae[k].ai+1,a⟩ (a::d):=by
 have I:=(g.each i H).may;have V:=bM I.lay;have B:s.ab[i]∈s.ab:=Pf H;have C:s.ab[i].ae[k]∈s.ab[i].ae:=Pf N;have q:0<=s.ab[i].bd:=Y;obtain⟨J,r,j,D⟩:=fE g B C;obtain⟨K,L,P,_⟩:=g.heap.live.all J r;have E:=oP K.1 K.2 L.1 (show J.At<256 by omega) P;rw[j,D]at E;rw[j]at L;obtain⟨W,X⟩:=lx I.lay p;have M:0<=a∧a<4096:=Y;obtain⟨l,rfl⟩:=Pm M.1;have Q:l<s.Words.length:=by rw[g.words];omega
 have u:∀c∈s.ab,∀x∈c.ae,x.At≠s.ab[i].ae[k].At->∀b:Int,16*x.At<=b->b<16*(x.At+pw c.Order)->0<=b->(s.Words.set l s.ab[i].ae[k].bR)[b.toNat]?=s.Words[b.toNat]?:=λc w x y m b h1 h2 R=>by
  obtain⟨b1,F,S,e2⟩:=fE g w y;have:=fQ g.heap F r (by rw[S,j];exact m)
  grind
 have n:∀c∈s.ab,dr s c->∀x∈c.ae,x.At≠s.ab[i].ae[k].At->∀o,bK s.Words c.ax c.bd x o->bK (s.Words.set l s.ab[i].ae[k].bR) c.ax c.bd x o:=λc w G x y m o h=>
  Cf (t:=⟨s.Words.set l s.ab[i].ae[k].bR,s.Heap,[]⟩) g w y G.lay h (u c w x y m)
 simp only[Int.ofNat_eq_natCast,Int.toNat_natCast]at*;obtain⟨T,U,k3,k4,k5⟩:=(ie q).1 O;have e:((l:Int)::d).Nodup:=Qj.2 ⟨A,U⟩
 have f:∀b∈(l:Int)::d,fG s.ab[i].ax s.ab[i].bd s.ab[i].ae[k].At b=true:=λb hb=>by
  grind
 have z:=Ap Y e f
 have v:(((l:Int)::d).length:Int)<=s.ab[i].bd:=by
  grind
 refine⟨M,n,(ie q).2 ⟨?_,e,v,?_,f⟩⟩
 ·refine .cons (by grind) ?_;rw[QL];refine T.congr λb hb R=>?_
  grind
 grind
theorem Ht(d:aA s)(w:i<s.ab.length)(A:k<s.ab[i].ae.length){r:List Int}(t:fG s.ab[i].ax s.ab[i].bd s.ab[i].ae[k].At a=true)(I:bK s.Words s.ab[i].ax s.ab[i].bd s.ab[i].ae[k] r)(B:a∉r):
 aA ⟨s.Words.set a.toNat s.ab[i].ae[k].bR,s.Heap,s.ab.set i (iW s.ab[i] k s.ab[i].ae[k] a)⟩:=by
 have f:=(d.each i w).may;have C:s.ab[i]∈s.ab:=Pf w;have J:s.ab[i].ae[k]∈s.ab[i].ae:=Pf A;obtain⟨K,g,D⟩:=Hs d w A t I B;obtain⟨p,rfl⟩:=Pm K.1;have L:mX (iW s.ab[i] k s.ab[i].ae[k] p)=mX s.ab[i]:=wh A Z;have M:=jb.1 λj b=>(d.each j b).av;simp only[Int.ofNat_eq_natCast,Int.toNat_natCast]at*;refine qT d w (by simp only[List.length_set];exact d.words) d.heap Z Z Z ?_ (λc Q E=>?_) (by simp only;grind[gE])
 ·refine⟨f.lay,f.names,f.aD,λj b=>?_,λj b=>?_⟩
  ·simp only[iW,List.length_set]at b;have m:=f.av j b
   have n:∀(q:Nat)(F:q<s.ab[i].ae.length),((iW s.ab[i] k s.ab[i].ae[k] p).ae[q]'(by grind[iW,List.length_set])).At=s.ab[i].ae[q].At:=λq F=>by
    simp only[iW,List.getElem_set];grind
   refine⟨by rw[n j b];exact m.live,λN=>by rw[n j b,n (j-1) Y];exact m.next N,?_⟩;by_cases e:k=j
   ·subst e
    have G:(iW s.ab[i] k s.ab[i].ae[k] p).ae[k]'Y=⟨s.ab[i].ae[k].At,s.ab[i].ae[k].ai+1,p⟩:=by
     simp only[iW,List.getElem_set,if_true]
    rw[G];exact⟨_,D⟩
   obtain⟨o,h⟩:=m.chain
   have G:(iW s.ab[i] k s.ab[i].ae[k] p).ae[j]'Y=s.ab[i].ae[j]:=by
    simp_all[iW,List.getElem_set,if_neg]
   rw[G];refine⟨o,g _ C f _ (Pf b) ?_ o h⟩;have O:=kd f;grind[kd,List.pairwise_iff_getElem,Nat.lt_trichotomy,absurd]
  have u:∀z,(iW s.ab[i] k s.ab[i].ae[k] p).ae.any (sq z)=s.ab[i].ae.any (sq z):=λz=>by
   have H:∀l:List Slab,l.any (sq z)=(l.map λx=>x.At).any λy=>decide (y=z):=λl=>by rw[List.any_map];rfl
   rw[H,H];grind[mX]
  have:=f.ns j b;unfold qs at this⊢;rw[u];exact this
 obtain⟨j,b,P,rfl⟩:=E;have v:=(d.each j b).may;refine⟨v.lay,v.names,v.aD,λq F=>?_,v.ns⟩;have m:=v.av q F;refine⟨m.live,m.next,?_⟩;obtain⟨o,h⟩:=m.chain<;>grind[List.getElem_mem,mH]
theorem Gy(n:Int)(w:World)(r:jD w):aS prog 84 [Iv n] w λv _=>v= .tuple #[.string (e8 n),.bool (decide (n<=32))]:=by
 refine Wj func84 ntmps84 ?_;have b:=Ext.refl w;repeat'(first|refine Wz ?_|refine Wm ((BF r)) ?_)
 refine CW.loop (λj:Nat=>[(0,Iv n),(6,.agg (kL.map (Value.int .i64)).toArray),(7,Iv (j:Int))]) (λj l=>j<=6∧Ext w l∧∀m,m<j->kP m<n) (λj=>6-j) 0
  ⟨rfl,rfl,rfl,trivial⟩ ⟨by omega,b,λm h=>by omega⟩ ?_
 rintro j l ⟨x,b,g⟩;by_cases a:j<6
 ·obtain⟨o,p,s,t⟩:=G8 a;have c:=KS (n:=n) a g;obtain⟨z,u⟩:=bq (kP j);rw[u]at o p s t c;have d:(kL.map (Value.int .i64))[j]?=some (Iv z):=by rw[List.getElem?_map,p];rfl
  by_cases i:n<=z
  ·obtain⟨k,q⟩:=c i;repeat'(first|refine Wz ?_|(refine Wc (uE z o _) λy f=>?_;have b:=b.trans f)|(refine SW.st (pa j rfl rfl rfl a d) rfl ?_))
   exact ah.cf rfl rfl rfl ⟨_,rfl,b,by rw[k,decide_eq_true q]⟩
  repeat'(first|refine Wz ?_|(refine SW.st (pa j rfl rfl rfl a d) rfl ?_))
  refine ah.again (j+1) ⟨rfl,rfl,rfl,trivial⟩ Y ⟨by omega,b,λm h=>?_⟩;by_cases e:m=j
  ·subst e;omega
  exact g m Y
 obtain rfl:j=6:=Y;obtain⟨k,q⟩:=IZ g;refine Wz ?_;exact ah.cf rfl rfl rfl ⟨_,rfl,b,by rw[k,decide_eq_false Y]⟩
def qW(lo:Nat)(u:aj×Int×Int)(v:Value)(w:World):Prop:=∃q,v= .tuple #[.agg (ar q).toArray,Iv u.2.1,Iv u.2.2]∧gK w lo q u.1
theorem qW.zero(e:Int)(lo:Nat)(w:World):qW lo (.zero,0,e) (.tuple #[.agg (ar .zero).toArray,Iv 0,Iv e]) w:=
 ⟨.zero,Z,Own.cq _ _ _ _ _ _,ik.zero w lo,⟨[],dJ.nil _ _⟩⟩
theorem AF(r:cc)(s:aj)(cpu n:Int)(w:World)(S:mB w r s)(T:s.bU)(hS:jD w)(A:nq w):
 aS prog 23 [.agg (ar r).toArray,Iv cpu,Iv n] w λv k=>∃u,dO s cpu n u∧qW w.heap.size u v k:=by
 refine Wj func23 ntmps23 ?_;refine Ww λV U b I c=>?_;refine SW.alloc Z λW w2 X J a=>?_;have zl:=b.up J;have za:W≠V:=by have:=c.lt;omega
 obtain⟨b,c⟩:=bk X b c;have hs:=T.small;obtain⟨q,B⟩:=bq (ef s)
 have D:∀k,Ext w k->aS prog 61 [.agg (ar r).toArray] k λv _=>v=Iv (if q then 0 else 8):=λk hx=>by
  have:=lj r s k (S.ext hx) T;rwa[B]at this
 cases q
 ·simp only[Bool.false_eq_true,if_false]at D;repeat'(first|refine Wz ?_|(refine Wc (D _ b) λU d=>?_;obtain⟨b,c,a⟩:=aY d b c a))
  refine Wh a (aB .zero) λw5 g f=>?_;have b:=jc g b;refine Wz ?_;exact ah.cb Z Z Z Z f Z ⟨_,Z,b,_,.bad B,qW.zero 8 _ _⟩
 simp only[if_true]at D;have hM:=dg.1 B;by_cases zb:n<1
 ·repeat'(first|refine Wz ?_|(refine Wc (D _ b) λU d=>?_;obtain⟨b,c,a⟩:=aY d b c a))
  refine Wh a (aB .zero) λw5 g f=>?_;have b:=jc g b;refine Wz ?_;exact ah.cb Z Z Z Z f Z ⟨_,Z,b,_,.range B zb,qW.zero 1 _ _⟩
 have c2:∀k,Ext w k->aS prog 84 [Iv n] k λv _=>v= .tuple #[.string (e8 n),.bool (decide (n<=32))]:=λk hx=>Gy n k (hS.ext hx);have K:=EM n;by_cases E:n<=32
 ·rw[decide_eq_true E]at c2;obtain⟨cs,L⟩:=bq (e8 n);have G:=λu(h:mo s (e8 n) cpu u)=>dO.obj (cpu:=cpu) (n:=n) B ⟨by omega,E⟩ h;rw[L]at c2 K G;repeat'(first|refine Wz ?_|(refine CW.bQ Z ?_)|((first|refine Wk (D _ b) ?_|refine Wk (c2 _ b) ?_);intro v U d x;subst x;obtain⟨b,c,a⟩:=aY d b c a))
  refine Wk (rW r s cs cpu _ (S.ext b) T K (A.ext b)) λv w5 zc x=>?_;obtain⟨u,M,q,rfl,N⟩:=x;have N:=N.low b.size;obtain⟨b,c,a⟩:=aY zc b c a;refine Wz ?_;refine Wh a (aB q) λw6 g f=>?_;obtain⟨b,N⟩:=bk g b N;refine Wz ?_;exact ah.cb Z Z Z Z f Z ⟨_,Z,b,_,G u M,q,Z,N⟩
 rw[decide_eq_false E]at c2;repeat'(first|refine Wz ?_|(refine CW.bo Z ?_)|((first|refine Wk (D _ b) ?_|refine Wk (c2 _ b) ?_);intro v U d x;subst x;obtain⟨b,c,a⟩:=aY d b c a))
 refine CW.loop (λj:Nat=>[(1,Iv cpu),(2,Iv n),(3,Pt V),(6,Pt W),(38,Iv (j:Int))])
  (λj k=>j<=5∧Ext w k∧ay k V 37 (ar r)∧ay k W 37 (ar .zero)∧∀m:Nat,m<j->16*pw (m:Int)<n) (λj=>5-j) 0
  ⟨Z,Z,Z,Z,Z,trivial⟩ ⟨by omega,b,c,a,λm h=>by omega⟩ ?_
 rintro j k ⟨hj,b,c,a,hI⟩;by_cases zd:j<5
 ·have ze:=bP (o:=(j:Int)) Y Y;have O:=KT (n:=n) zd hI;obtain⟨p,hp⟩:=bq (pw (j:Int));rw[hp]at ze O;have P:(16:Int)*2 ^ ((j:Int)).toNat=16*p:=by rw[<-hp];rfl
  by_cases zf:n<=16*p
  ·obtain⟨e1,e2⟩:=O zf;have Q:=λu(h:cj s.Heap cpu (vO n) 0 u)z=>dO.fault B ⟨by omega,e2⟩ h z;have f:=λu(h:cj s.Heap cpu (vO n) 0 u)z=>dO.bt B ⟨by omega,e2⟩ h z;rw[e1]at Q f;repeat'(first|refine Wz ?_|refine Wm ((e7 c)) ?_|(refine SW.st (fO (r:=16*p) Z Z Y Y P Y Y) Z ?_))
   refine Wk (ry r.Heap s.Heap cpu (j:Int) 0 _ (S.heap.ext b) hs.heap T.bA (A.ext b)) λv w7 zg x=>?_;obtain⟨u,M,H,rfl,t⟩:=x;have t:=t.low b.size;obtain⟨b,c,a⟩:=aY zg b c a;by_cases z:u.2.2=0
   ·have zn:=M.at_ z;rw[z];refine Wz ?_;refine Wr (bw H) λzh w2 y l i=>?_;have F:=b.up l;obtain⟨b,c,a,t⟩:=cG y b c a t;refine Wz ?_;refine Wk (lm r s _ (S.ext b) hs) λv w9 zi x=>?_;obtain⟨p,cs',rfl,R,_⟩:=x;have C:=R.nb.low b.size;obtain⟨b,c,a,i,t⟩:=dz zi b c a i t;refine Wh c (aB p) λzo g c=>?_;obtain⟨a,b,i,t,C⟩:=dz g a b i t C;refine Wz ?_;refine SW.ib 1 c Z Z Z (PE Z) (bw H) (ar ⟨p.Words,H,p.ab⟩) Z λzp zm hg=>?_;have hG:=c.gr hg;have a:=a.grown hg (by simpa using za);have b:=b.own I hg;obtain⟨t,C⟩:=bk hG t C;refine Wz ?_;refine Wh a (aB ⟨p.Words,H,p.ab⟩) λzj g G=>?_;obtain⟨b,t,C⟩:=aY g b t C;refine Wz ?_;exact ah.cb Z Z Z Z G Z ⟨_,Z,b,_,f u M z,⟨p.Words,H,p.ab⟩,by rw[QR],C.words,t,C.aV⟩
   have x:=Q u M z;obtain⟨e,zk⟩:=bq u.2.2;rw[zk]at z x⊢;refine Wz ?_;refine Wr (bw H) λzh w2 y l i=>?_;have F:=b.up l;obtain⟨b,a⟩:=bk y b a;refine Wz ?_;refine Wh a (aB .zero) λzj g G=>?_;have b:=jc g b;refine Wz ?_;exact ah.cb Z Z Z Z G Z ⟨_,Z,b,_,x,qW.zero _ _ _⟩
  repeat'(first|refine Wz ?_|(refine SW.st (fO (r:=16*p) Z Z Y Y P Y Y) Z ?_))
  refine ah.again (j+1) ⟨Z,Z,Z,Z,Z,trivial⟩ Y ⟨by omega,b,c,a,λm h=>?_⟩;by_cases e:m=j
  ·subst e;rw[hp];omega
  exact hI m Y
 obtain rfl:j=5:=Y;have hn:=Hk hI;refine Wz ?_;refine Wh a (aB .zero) λw5 g f=>?_;have b:=jc g b;refine Wz ?_;exact ah.cb Z Z Z Z f Z ⟨_,Z,b,_,.size B hn,qW.zero 9 _ _⟩
def AG(lo:Nat)(u:aj×Int×Int)(v:Value)(w:World):Prop:=∃q,v= .tuple #[.agg (ar q).toArray,Iv u.2.1,Iv u.2.2]∧kX w lo q u.1
theorem AG.zero(e:Int)(lo:Nat)(w:World):AG lo (.zero,0,e) (.tuple #[.agg (ar .zero).toArray,Iv 0,Iv e]) w:=⟨.zero,Z,kX.zero _ _⟩
theorem rZ(r:cc)(s:aj)(cpu n:Int)(w:World)(W:mB w r s)(X:s.bU):
 aS prog 47 [.agg (ar r).toArray,Iv cpu,Iv n] w λv k=>∃u,dO s cpu n u∧AG w.heap.size u v k:=by
 refine Wj func47 ntmps47 ?_;refine Ww λb3 A b zn c=>?_;refine SW.alloc Z λb6 w2 za L a=>?_;have zo:=b.up L;obtain⟨b,c⟩:=bk za b c;have hs:=X.small;obtain⟨q,B⟩:=bq (ef s)
 have I:∀k,Ext w k->aS prog 99 [.agg (ar r).toArray] k λv _=>v= .bool q:=λk hx=>by
  have:=oC r s k (W.ext hx) X;rwa[B]at this
 cases q
 ·repeat'(first|refine Wz ?_|(refine CW.bQ Z ?_)|(refine Wc (I _ b) λA d=>?_;obtain⟨b,c,a⟩:=aY d b c a))
  refine Wh a (aB .zero) λw5 g i=>?_;have b:=jc g b;refine Wz ?_;exact ah.cb Z Z Z Z i Z ⟨_,Z,b,_,.bad B,AG.zero 8 _ _⟩
 have hM:=dg.1 B;by_cases zb:n<1
 ·repeat'(first|refine Wz ?_|(refine CW.bo Z ?_)|(refine Wc (I _ b) λA d=>?_;obtain⟨b,c,a⟩:=aY d b c a))
  refine Wh a (aB .zero) λw5 g i=>?_;have b:=jc g b;refine Wz ?_;exact ah.cb Z Z Z Z i Z ⟨_,Z,b,_,.range B zb,AG.zero 1 _ _⟩
 by_cases zc:256<n
 ·repeat'(first|refine Wz ?_|(refine CW.bo Z ?_)|(refine Wc (I _ b) λA d=>?_;obtain⟨b,c,a⟩:=aY d b c a))
  refine Wh a (aB .zero) λw5 g i=>?_;have b:=jc g b;refine Wz ?_;exact ah.cb Z Z Z Z i Z ⟨_,Z,b,_,.size B zc,AG.zero 9 _ _⟩
 have c2:∀k,aS prog 37 [Iv n] k λv _=>v= .string (e8 n):=λk=>nU n k;by_cases M:n<=32
 ·have y:=I0 M;have J:=λu(h:mo s (e8 n) cpu u)=>dO.obj (cpu:=cpu) (n:=n) B ⟨by omega,M⟩ h;obtain⟨cs,N⟩:=bq (e8 n);rw[N]at c2 J y;repeat'(first|refine Wz ?_|(refine CW.bo Z ?_)|((first|refine Wk (I _ b) ?_|refine Wk (c2 _) ?_);intro v A d x;subst x;obtain⟨b,c,a⟩:=aY d b c a)|(refine SW.st ((mA Z Z).eq (by rw[decide_eq_true y])) Z ?_))
  refine CW.any 8 mixed (cy bm) Z λA d zp=>?_;obtain⟨b,c,a⟩:=aY d b c a;refine Wa ?_;refine SA.bD 2 ?_;refine Wc (c2 _) λw4 f=>?_;obtain⟨b,c,a⟩:=aY f b c a;refine SW.nil (ah.sa f ?_);refine SA.bD 4 ?_;refine Wk (Ca r s cs cpu _ (W.ext b) X) λv w5 f x=>?_;obtain⟨u,O,q,rfl,P⟩:=x;have P:=P.low b.size;obtain⟨b,c,a⟩:=aY f b c a;refine SW.nil (ah.sa f ?_);refine Wa ?_;refine SA.fH ?_;refine Wh a (aB q) λw6 g i=>?_;obtain⟨b,P⟩:=bk g b P;refine Wz ?_;exact ah.cb Z Z Z Z i Z ⟨_,Z,b,_,J u O,q,Z,P⟩
 have y:e8 n=⟨#[]⟩:=by
  unfold e8;repeat' split
  all_goals first|(exfalso;omega)|rfl
 rw[y]at c2;repeat'(first|refine Wz ?_|(refine CW.bo Z ?_)|((first|refine Wk (I _ b) ?_|refine Wk (c2 _) ?_);intro v A d x;subst x;obtain⟨b,c,a⟩:=aY d b c a)|(refine SW.st ((mA Z Z).eq (by rw[decide_eq_false (λh=>h Z)])) Z ?_))
 refine CW.loop (λj:Nat=>[(1,Iv cpu),(2,Iv n),(3,Pt b3),(6,Pt b6),(9,Iv (j:Int))])
  (λj k=>j<5∧Ext w k∧ay k b3 37 (ar r)∧ay k b6 37 (ar .zero)∧∀m:Nat,m<j->16*pw (m:Int)<n) (λj=>5-j) 0
  ⟨Z,Z,Z,Z,Z,trivial⟩ ⟨by omega,b,c,a,λm h=>by omega⟩ ?_
 rintro j k ⟨zd,b,c,a,hI⟩;have ze:=bP (o:=(j:Int)) Y Y;have Q:=KT (n:=n) zd hI;have c3:∀k,aS prog 123 [Iv (j:Int)] k λv _=>v=Iv (pw (j:Int)):=λk=>dk _ Y k;obtain⟨p,hp⟩:=bq (pw (j:Int));rw[hp]at ze Q c3;by_cases zf:n<=16*p
 ·obtain⟨e1,e2⟩:=Q zf;have R:=λu(h:cj s.Heap cpu (vO n) 0 u)z=>dO.fault B ⟨by omega,e2⟩ h z;have i:=λu(h:cj s.Heap cpu (vO n) 0 u)z=>dO.bt B ⟨by omega,e2⟩ h z;rw[e1]at R i;repeat'(first|refine Wz ?_|refine Wm ((e7 c)) ?_|(refine Wc (c3 _) λA d=>?_;obtain⟨b,c,a⟩:=aY d b c a))
  refine Wk (n0 r.Heap s.Heap cpu (j:Int) 0 _ (W.heap.ext b) hs.heap X.bA) λv w7 zg x=>?_;obtain⟨u,O,H,rfl,K⟩:=x;have K:=K.low b.size;obtain⟨b,c,a⟩:=aY zg b c a;by_cases z:u.2.2=0
  ·have zq:=O.at_ z;rw[z];refine Wz ?_;refine Wr (bw H) λzh w2 f t l=>?_;have D:=b.up t;obtain⟨b,c,a,K⟩:=cG f b c a K;refine Wz ?_;refine Wk (cX r s _ (W.ext b) hs) λv w9 S x=>?_;obtain⟨p,cs',rfl,T,U⟩:=x;have E:=kX.heap T U (K.kQ.ext S) b.size;obtain⟨b,c,a,l⟩:=cG S b c a l;have zr:=a.lt;refine Wr (aB p) λzi w2 f F C=>?_;have G:=b.up F;obtain⟨b,c,a,l,E⟩:=dz f b c a l E;have zj:b6≠zi:=Y;refine Wz ?_;refine SW.ib 1 C Z Z Z (PE Z) (bw H) (ar ⟨p.Words,H,p.ab⟩) Z λzs zk hg=>?_;have hG:=C.gr hg;have a:=a.grown hg (by simpa using zj);have b:=b.own G hg;(have E:=E.aQ hG Z);refine Wz ?_;refine Wh a (aB ⟨p.Words,H,p.ab⟩) λzl g J=>?_;obtain⟨b,E⟩:=bk g b E;refine Wz ?_;exact ah.cb Z Z Z Z J Z ⟨_,Z,b,_,i u O z,_,Z,E⟩
  have x:=R u O z;obtain⟨e,zm⟩:=bq u.2.2;rw[zm]at z x⊢;refine Wz ?_;refine Wr (bw H) λzh w2 f t l=>?_;have D:=b.up t;obtain⟨b,a⟩:=bk f b a;refine Wz ?_;refine Wh a (aB .zero) λzl g J=>?_;have b:=jc g b;refine Wz ?_;exact ah.cb Z Z Z Z J Z ⟨_,Z,b,_,x,AG.zero _ _ _⟩
 repeat'(first|refine Wz ?_|(refine Wc (c3 _) λA d=>?_;obtain⟨b,c,a⟩:=aY d b c a))
 have V:∀m:Nat,m<j+1->16*pw (m:Int)<n:=λm h=>by
  by_cases e:m=j
  ·subst e;rw[hp];omega
  exact hI m Y
 have:j+1<5:=by
  rcases(show j+1<5∨j+1=5 by omega)with h|h
  ·exact h
  have:=Hk (n:=n) (λm hm=>V m Y);omega
 exact ah.again (j+1) ⟨Z,Z,Z,Z,Z,trivial⟩ Y ⟨this,b,c,a,V⟩
theorem Lc{cs:List aO}(a:i<cs.length)(h:List.Sublist (mX c') (mX cs[i]))(b:(aG cs).Nodup):(aG (cs.set i c')).Nodup:=by
 have c:cs=cs.take i++cs[i]::cs.drop (i+1):=by simp
 have d:cs.set i c'=cs.take i++c'::cs.drop (i+1):=by rw[QC,if_pos a]
 have e:aG cs=aG (cs.take i)++(mX cs[i]++aG (cs.drop (i+1))):=by
  grind[dU,List.flatten_append,List.flatten_cons]
 have f:aG (cs.set i c')=aG (cs.take i)++(mX c'++aG (cs.drop (i+1))):=by
  grind[dU,List.flatten_append,List.flatten_cons]
 grind
theorem Hu(b:aA s)(E:i<s.ab.length)(R:k<s.ab[i].ae.length)(hA:s.ab[i].ae[k].At∉s.ab[i].ao)(p:0<=cpu∧cpu<s.Heap.bl):
 (ee s.Heap cpu s.ab[i].ae[k].At).1=0∧aA ⟨s.Words,(ee s.Heap cpu s.ab[i].ae[k].At).2,s.ab.set i (dA s.ab[i] k)⟩:=by
 have m:=(b.each i E).may;have n:=b.heap;have G:s.ab[i]∈s.ab:=Pf E;have r:s.ab[i].ae[k]∈s.ab[i].ae:=Pf R;obtain⟨b0,H,I,S⟩:=fE b G r
 have F:bx s.Heap.Live s.ab[i].ae[k].At=true:=by
  obtain⟨q,a,rfl⟩:=Pg H;exact(lg (jh n.live) a I).2
 have t:=mi (ch.2 n) p F;have u:=rB n p F;obtain⟨O,T,p3⟩:=mv (cpu:=cpu) n F;refine⟨by rw[t],?_⟩;rw[t]
 have d:∀x:Int,x≠s.ab[i].ae[k].At->lU (iQ s.Heap cpu s.ab[i].ae[k].At).Live x=lU s.Heap.Live x:=λx P=>by
  refine sD n.live u.live λy hy=>?_;rw[T,jZ n.live F];grind
 have v:=kd m
 have J:∀(q:Nat)(a:q<s.ab[i].ae.length),q≠k->s.ab[i].ae[q].At≠s.ab[i].ae[k].At:=λq a w=>by
  have:=v;grind[List.pairwise_iff_getElem,Nat.lt_or_gt_of_ne]
 have U:=jb.1 λj f=>(b.each j f).av;refine qT b E b.words u Z Z Z ?_ (λc hc K=>?_) ?_
 ·refine⟨m.lay,m.names,by simp only[dA];rw[O];exact m.aD,λj f=>?_,λj f=>?_⟩
  ·have g:j<(s.ab[i].ae.eraseIdx k).length:=f;have z:(s.ab[i].ae.eraseIdx k).Pairwise λx y=>x.At<y.At:=List.Pairwise.sublist (Qh _ _) v
   have l:0<j->((s.ab[i].ae.eraseIdx k)[j-1]'Y).At<((s.ab[i].ae.eraseIdx k)[j]'g).At:=λh0=>by
    rw[Pq]at z;grind
   have A:(s.ab[i].ae.eraseIdx k)[j]'g∈s.ab[i].ae.eraseIdx k:=Pf g;obtain⟨q,a,w,V⟩:=Qc.1 A
   have L:∀y:Slab,y=s.ab[i].ae[q]->lU (iQ s.Heap cpu s.ab[i].ae[k].At).Live y.At=s.ab[i].Order∧∃M,bK s.Words s.ab[i].ax s.ab[i].bd y M:=λy W=>by
    subst W;have o:=m.av q a;exact⟨(d _ (J q a w)).trans o.live,o.chain⟩
   have B:=L _ V.symm;exact⟨B.1,l,B.2⟩
  have:=m.ns j f;unfold qs at this⊢;rcases this with h|⟨X,Q⟩
  ·exact .inl h
  refine .inr ⟨X,?_⟩;rw[Pn]at Q⊢;obtain⟨x,P,C⟩:=Q;obtain⟨q,a,rfl⟩:=Pg P;refine⟨s.ab[i].ae[q],?_,C⟩;simp only[dA];rw[Qc];refine⟨q,a,λe=>?_,Z⟩;subst e;have e1:=of_decide_eq_true C;grind
 ·obtain⟨j,f,N,rfl⟩:=K;have D:=(b.each j f).may;refine⟨D.lay,D.names,by simp only;rw[O];exact D.aD,λq a=>?_,D.ns⟩;have o:=D.av q a;exact⟨(d _ (mH b f E N (Pf a) r)).trans o.live,o.next,o.chain⟩
 grind[Lc,mX,dA,List.eraseIdx_sublist]
variable {u:aj×Int}
theorem EW(h:gx s a ((i:Int),(k:Int),0)):∃(c:kh s a i k)(b:List Int),bK s.Words (s.ab[i]'c.hi).ax (s.ab[i]'c.hi).bd ((s.ab[i]'c.hi).ae[k]'c.hk) b∧a∉b:=by
 have d:∀u,gx s a u->u=((i:Int),(k:Int),0)->∃(c:kh s a i k)(b:List Int),bK s.Words (s.ab[i]'c.hi).ax (s.ab[i]'c.hi).bd ((s.ab[i]'c.hi).ae[k]'c.hk) b∧a∉b:=λu f e=>by
  cases f<;>grind
 grind
theorem nt.j7(p:fT s)(h:nt s n cpu a u)(H:u.2=0):fT u.1:=by
 have y:=p.may;have g:=h.small p.bU;cases h with
 | ask h=>omega
 | none=>omega
 | @put i k h z e q r=>
   obtain⟨_,_,A⟩:=jj h;obtain⟨j,B,C,l⟩:=EW z;have b:=j.obj;rw[nc q r]at b;have v:=Ht y q r b C l
   refine⟨gj ?_ g,?_⟩<;>(
    unfold tC;split
    ·rename_i w;rw[PT]at w;have c:=w.1;unfold jH at c;simp only[Bool.and_eq_true,Bool.not_eq_true',decide_eq_false_iff_not]at c
     have m:∀(t:aj)(D:aA t)(o:i<t.ab.length)(f:aO)(d:t.ab[i]=f)(x:f=iW s.ab[i] k s.ab[i].ae[k] a)(E:t.Heap=s.Heap),aA ⟨t.Words,(ee t.Heap cpu s.ab[i].ae[k].At).2,t.ab.set i (dA f k)⟩:=λt D o f d x E=>by
      subst d;have F:k<t.ab[i].ae.length:=by rw[x];grind[iW,List.length_set]
      have G:t.ab[i].ae[k].At=s.ab[i].ae[k].At:=by
       grind[iW]
      grind[Hu]
     have:=m _ v (by grind) _ fy Z Z;simp only[List.set_set]at this;exact this
    exact v)
theorem mo.Ld{u:aj×Int×Int}(a:fT s)(h:mo s n cpu u)(b:u.2.2=0):fT u.1:=by
 have h':=h;cases h with
 | ask h=>grind
 | A9 h=>
   rcases h'.j7 a h with h|h<;>grind
theorem Hv(b:fT s){u:Heap×Int×Int}(h:cj s.Heap cpu o fl u)(c:u.2.2=0):fT (pq s u.1):=by
 have:=Dh (a:=⟨1,cpu,o,0,0,fl,⟨#[]⟩⟩) Z s _ b (eg.bt Z h);simp only[tI,if_pos c]at this;grind
theorem tN(b:aA s){q:Nat}(l:i<s.ab.length)(m:j<s.ab.length)(n:k<s.ab[i].ae.length)(o:q<s.ab[j].ae.length)(p:¬(i=j∧k=q))
 (r:fG s.ab[i].ax s.ab[i].bd s.ab[i].ae[k].At a=true) (t:fG s.ab[j].ax s.ab[j].bd s.ab[j].ae[q].At a=true):False:=by
 have c:=(b.each i l).may;have d:=(b.each j m).may
 have u:s.ab[i].ae[k].At≠s.ab[j].ae[q].At:=by
  by_cases e:i=j
  ·subst e;have f:=kd c;rw[Pq]at f;grind
  grind[mH,List.getElem_mem]
 obtain⟨A,g,v,w⟩:=fE b (Pf l) (Pf n);obtain⟨B,h,x,y⟩:=fE b (Pf m) (Pf o);have z:=fQ b.heap g h Y;rw[v,w,x,y]at z;obtain⟨C,D⟩:=lx c.lay r;obtain⟨E,F⟩:=lx d.lay t;omega
theorem Cg(j:aA s)(b:i<s.ab.length)(c:k<s.ab[i].ae.length)(h:fG s.ab[i].ax s.ab[i].bd s.ab[i].ae[k].At a=true):kh s a i k:=by
 refine⟨b,c,by grind[nc],λd f g=>?_⟩;cases e:kB s a d f<;>grind[kB,tN]
theorem Mc(c:aA s)(e:i<s.ab.length)(f:k<s.ab[i].ae.length)(h:fG s.ab[i].ax s.ab[i].bd s.ab[i].ae[k].At a=true){b:List Int}(g:bK s.Words s.ab[i].ax s.ab[i].bd s.ab[i].ae[k] b):
 (a∈b->gx s a (0,0,4))∧(a∉b->gx s a ((i:Int),(k:Int),0)):=
 ⟨λd=> .free (lV c) (Cg c e f h) g d,λd=> .hit (lV c) (Cg c e f h) g d⟩
theorem Aq(b:c∈s.ab){x:Slab}(d:x∈c.ae)(h:a / 16=x.At):ct s a=false:=by
 have:ji s (a / 16)=true:=by
  unfold ji;rw[Pn];refine⟨c,b,?_⟩;unfold nN;rw[Pn];exact⟨x,d,decide_eq_true h.symm⟩
 unfold ct<;>grind
structure Le(s:aj)(i k:Nat)(a:Int):Prop where
 hi:i<s.ab.length
 hk:k<s.ab[i].ae.length
 obj:fG s.ab[i].ax s.ab[i].bd s.ab[i].ae[k].At a=true
 off:∃out,bK s.Words s.ab[i].ax s.ab[i].bd s.ab[i].ae[k] out∧a∉out
theorem Le.find(h:Le s i k a)(c:aA s):gx s a ((i:Int),(k:Int),0):=by
 obtain⟨d,e,b⟩:=h.off;exact(Mc c h.hi h.hk h.obj e).2 b
theorem Ar(c:aA s)(a:i<s.ab.length)(b:n∈s.ab[i].Names):idxOf (c9 n) s.ab=(i:Int):=by
 refine jA a (dx.2 b) λj h d=>?_;cases e:c9 n s.ab[j]with
 | false=>rfl
 | true=>
   exfalso;have f:=dx.1 e;obtain⟨q,g,rfl⟩:=Pg b;refine((c.each i a).names.each q g).2.1 (PU _ ?_);unfold aR;rw[Py];exact⟨s.ab[j],PG.2 ⟨j,by omega,Z⟩,f⟩
theorem Ch(c:aA s)(d:i<s.ab.length)(g:k<s.ab[i].ae.length)(h:fG s.ab[i].ax s.ab[i].bd s.ab[i].ae[k].At a=true):ct s a=false:=by
 cases e:ct s a with
 | false=>rfl
 | true=>
   exfalso;obtain⟨m,p,n⟩:=gb e;have o:=(c.each i d).may;obtain⟨q,r⟩:=lx o.lay h;by_cases f:a / 16=s.ab[i].ae[k].At
   ·rw[Aq (Pf d) (Pf g) f]at e;grind
   obtain⟨j,t⟩:=fR m;obtain⟨b,hb,u,v⟩:=fE c (Pf d) (Pf g);have l:=(c.heap.live.all _ (Pf j));have w:=bP l.1.1 l.1.2;have:=fQ c.heap (Pf j) hb Y
   grind
theorem Ja(h:gx s a (0,0,4)):oF s a none:= .no h λi b c=>by grind
variable {x':Int->Prop}
def Gp(ws:List Int)(c:aO)(a:Int):Prop:=∃x∈c.ae,fG c.ax c.bd x.At a=true∧∃b,bK ws c.ax c.bd x b∧a∉b
inductive Src
 | obj (i:Nat)
 | pg (o:Int)
def fU(s:aj):Src->Int->Prop
 | .obj i,a=>∃c,s.ab[i]?=some c∧Gp s.Words c a
 | .pg o,a=>ct s a=true∧lU s.Heap.Live (a / 16)=o
def tO(s:aj)(i:Nat):Int:=((s.ab[i]?).map λc=>c.ax).getD 0
def jL(s:aj):Src->Int
 | .obj i=>tO s i
 | .pg o=>16*pw o
theorem Ci(i:fP s.Heap.Live):ct s a=true↔(0<=a∧a % 16=0)∧(∀c∈s.ab,∀x∈c.ae,x.At≠a / 16)∧∃b∈s.Heap.Live,b.At=a / 16:=by
 constructor
 ·intro h;obtain⟨d,f,m⟩:=gb h;obtain⟨g,e⟩:=fR d<;>grind[fR,List.getElem_mem,Aq]
 rintro⟨d,f,b,hb,e⟩
 have n:ji s (a / 16)=false:=by
  cases e:ji s (a / 16)with
  | false=>rfl
  | true=>
    exfalso;unfold ji at e;obtain⟨c,j,e⟩:=Pn.1 e;obtain⟨x,l,e⟩:=Pn.1 e;exact f c j x l (of_decide_eq_true e)
 have o:bx s.Heap.Live (a / 16)=true:=by
  obtain⟨k,g,rfl⟩:=Pg hb;exact(lg (jh i) g e).2
 unfold ct<;>grind
theorem kU(d:fP s.Heap.Live):fU s (.pg o) a↔(0<=a∧a % 16=0)∧(∀c∈s.ab,∀x∈c.ae,x.At≠a / 16)∧∃b∈s.Heap.Live,b.At=a / 16∧b.Order=o:=by
 constructor
 ·rintro⟨h,e⟩<;>grind[Ci,gD]
 rintro⟨f,g,b,hb,i,rfl⟩;exact⟨(Ci d).2 ⟨f,g,b,hb,i⟩,by grind[gD]⟩
theorem jT(b:i<s.ab.length):fU s (.obj i) a↔Gp s.Words s.ab[i] a:=by
 constructor
 ·rintro⟨c,e,h⟩<;>grind
 exact λh=>⟨_,Pp b,h⟩
theorem fU.lt(h:fU s (.obj i) a):i<s.ab.length:=by
 obtain⟨c,e,_⟩:=h<;>grind
theorem Me(b:i<s.ab.length):Gp s.Words s.ab[i] a↔∃k,Le s i k a:=by
 constructor
 ·rintro⟨x,c,d,e⟩;obtain⟨k,f,rfl⟩:=Pg c;exact⟨k,b,f,d,e⟩
 rintro⟨k,h⟩;exact⟨_,Pf h.hk,h.obj,h.off⟩
theorem Jb{d p s:Int}(b:1<=s)(a:d<p*s)(c:d % s=0):d+s<=p*s:=by
 have e:=PZ d s;have f:d / s<p:=QI Y a;have g:(d / s+1)*s<=p*s:=Qi Y Y
 grind
theorem As{d e s:Int}(b:1<=s)(c:d % s=0)(f:e % s=0)(h:d<e):d+s<=e:=by
 have g:=PZ d s;have i:=PZ e s
 have a:d / s<e / s:=by
  rcases Rc (d / s) (e / s)with a|a
  ·exact a
  have:=QT a (show 0<=s by omega);omega
 have j:=QT (show d / s+1<=e / s by omega) (show 0<=s by omega)
 grind
structure Nb(s:aj)(q:Src)(a:Int)(b:Block):Prop where
 mem:b∈s.Heap.Live
 lo:16*b.At<=a
 hi:a+jL s q<=16*(b.At+pw b.Order)
 ext:1<=jL s q
 what:(∃i,∃h:i<s.ab.length,q= .obj i∧jL s q=s.ab[i].ax∧(a-b.At*16) % s.ab[i].ax=0∧∃x∈s.ab[i].ae,x.At=b.At)∨(q= .pg b.Order∧a=16*b.At∧∀c∈s.ab,∀x∈c.ae,x.At≠b.At)
theorem jB(e:aA s){q:Src}(h:fU s q a):∃b,Nb s q a b:=by
 cases q with
 | obj i=>
   have d:=h.lt;obtain⟨x,f,g,_⟩:=(jT d).1 h;have m:=(e.each i d).may;have j:=bM m.lay;have n:=jl m.lay;obtain⟨b,hb,k,t⟩:=fE e (Pf d) f;have l:jL s (.obj i)=s.ab[i].ax:=by simp[jL,tO,d]
   unfold fG at g;simp only[Bool.and_eq_true,decide_eq_true_eq]at g;obtain⟨⟨u,r⟩,v⟩:=g;have w:=Jb Y r v;refine⟨b,hb,by omega,?_,by omega,.inl ⟨i,d,Z,l,by grind,x,f,k.symm⟩⟩;rw[l,k,t];obtain⟨p,y⟩:=bq (s.ab[i].bd*s.ab[i].ax);rw[y]at n w;grind[pw]
 | pg o=>
   obtain⟨u,r,b,hb,k,rfl⟩:=(kU e.heap.live).1 h;have j:=(e.heap.live.all b hb).1;have n:=bP j.1 j.2;have l:jL s (.pg b.Order)=16*pw b.Order:=Z;exact⟨b,hb,by omega,by omega,by omega,.inr ⟨Z,by omega,λc z x f=>by grind⟩⟩
theorem oQ(a:aA s)(b:i<s.ab.length)(c:j<s.ab.length){x y:Slab}(d:x∈s.ab[i].ae)(f:y∈s.ab[j].ae)(e:x.At=y.At):i=j:=by
 by_cases h:i=j<;>grind[absurd,mH]
theorem Hw(f:aA s){q r:Src}{z:Int}{b d:Block}(h:Nb s q a b)(k:Nb s r z d):q=r∧b.At=d.At∧(q=r->a=z∨a+jL s q<=z∨z+jL s r<=a)∨a+jL s q<=z∨z+jL s r<=a:=by
 by_cases e:b.At=d.At
 ·left;rcases h.what with⟨i,n,rfl,o,l,x,u,B⟩|⟨rfl,o,l⟩
  ·rcases k.what with⟨j,p,rfl,m,c,y,t,v⟩|⟨rfl,m,c⟩
   ·obtain rfl:=oQ f n p u t Y;have C:=bM (f.each i n).may.lay;refine⟨Z,e,λ_=>?_⟩;rw[o];rw[<-e]at c;rcases Int.lt_trichotomy a z with g|g|g
    ·have:=As Y l c Y;omega
    ·omega
    have:=As Y c l Y;omega
   grind
  rcases k.what with⟨j,p,rfl,m,c,y,t,v⟩|⟨rfl,m,c⟩
  ·grind
  have hb:b.Order=d.Order:=by
   have w:=gD f.heap.live h.mem;have A:=gD f.heap.live k.mem;grind
  grind
 right;have:=fQ f.heap h.mem k.mem e;have w:=h.lo;have A:=h.hi;have D:=k.lo;have E:=k.hi;omega
theorem rD(c:aA s){q r:Src}(h:fU s q a)(k:fU s r a):q=r:=by
 obtain⟨b,hb⟩:=jB c h;obtain⟨d,e⟩:=jB c k;have f:=hb.ext;have g:=e.ext;rcases Hw c hb e with h|h|h<;>grind
theorem Au(c:aA s){q r:Src}{z:Int}(h:fU s q a)(k:fU s r z)(e:a≠z):a+jL s q<=z∨z+jL s r<=a:=by
 obtain⟨b,hb⟩:=jB c h;obtain⟨d,f⟩:=jB c k;rcases Hw c hb f with⟨g,_,i⟩|h|h<;>grind
theorem jo(c:aA s){q:Src}(h:fU s q a):0<=a∧a+jL s q<=4096∧1<=jL s q:=by
 obtain⟨b,hb⟩:=jB c h;obtain⟨d,e,f,_⟩:=c.heap.live.all b hb.mem;have:=oP d.1 d.2 e.1 (show b.At<256 by omega) f;have g:=hb.lo;have i:=hb.hi;have j:=hb.ext;omega
def sJ(s:aj):List (List ByteArray×Int):=s.ab.map λc=>(c.Names,c.ax)
structure fV(s t:aj)(x:Int->Prop)(y:Src->Int->Prop):Prop where
 aw:∀q a,fU t q a↔(fU s q a∧¬x a)∨y q a
 words:∀q a,fU s q a->¬x a->t.Words[a.toNat]?=s.Words[a.toNat]?
 shape:sJ t=sJ s
 cpus:t.Heap.bl=s.Heap.bl
def tP:Int->Prop:=λ_=>False
def Be:Src->Int->Prop:=λ_ _=>False
theorem fV.refl(s:aj):fV s s tP Be:=⟨λq a=>by simp[tP,Be],λ_ _ _ _=>Z,Z,Z⟩
theorem fV.trans{t u:aj}{x:Int->Prop}{y c:Src->Int->Prop}(h:fV s t x y)(k:fV t u x' c):fV s u (λa=>x a∨x' a) (λq a=>(y q a∧¬x' a)∨c q a):=
 ⟨λq a=>by
  rw[k.aw,h.aw];grind,
  λq a d b=>by
   rw[k.words q a ((h.aw q a).2 (.inl ⟨d,λh=>b (.inl h)⟩)) λh=>b (.inr h)];exact h.words q a d λh=>b (.inl h),
  k.shape.trans h.shape,k.cpus.trans h.cpus⟩
theorem fV.congr{t:aj}{x:Int->Prop}{y b:Src->Int->Prop}(h:fV s t x y)(c:∀a,x a↔x' a)(d:∀q a,y q a↔b q a):fV s t x' b:=
 ⟨λq a=>by rw[h.aw,c,d],λq a e f=>h.words q a e (by grind),h.shape,h.cpus⟩
theorem Jc(s:aj)(i:Nat):tO s i=(((sJ s)[i]?).map λp=>p.2).getD 0:=by
 unfold tO sJ<;>grind
theorem fV.ext{t:aj}{x:Int->Prop}{y:Src->Int->Prop}(h:fV s t x y)(q:Src):jL t q=jL s q:=by
 cases q with
 | obj i=>simp only[jL,Jc,h.shape]
 | pg=>rfl
variable {ws M2:List Int}
theorem nQ{l:List α}{p:Nat}{x y:α}:y∈aP l p x↔y=x∨y∈l:=by
 unfold aP;rw[Po,Px,Px,List.mem_singleton];constructor
 ·grind
 rintro(rfl|hb)
 ·grind
 grind[List.take_append_drop]
theorem jU{h:Heap}{t:Int}{b:Block}:b∈dc h a o t↔b=⟨a,o,t⟩∨b∈h.Live:=nQ
theorem Dj(k:aA s){u:Heap×Int×Int}(f:cj s.Heap cpu o fl u)(g:u.2.2=0)(q:Src):¬fU s q (16*u.2.1):=λh=>by
 obtain⟨n,l,⟨ty,m,a⟩,d⟩:=f.from_ g;have c:=f.may g;obtain⟨b,hb⟩:=jB k h;have i:(⟨u.2.1,o,ty⟩:Block)∈u.1.Live:=by rw[a];exact jU.2 (.inl Z)
 have e:b∈u.1.Live:=by rw[a];exact jU.2 (.inr hb.mem)
 have p:=fQ c e i (d b hb.mem);have j:=(c.live.all _ i).1;have r:=bP j.1 j.2;have t:=hb.lo;have v:=hb.hi;have w:=hb.ext;grind
theorem Gq(v:aA s){u:Heap×Int×Int}(j:cj s.Heap cpu o fl u)(k:u.2.2=0):fV s (pq s u.1) tP (λq a=>q= .pg o∧a=16*u.2.1):=by
 obtain⟨w,l,⟨ty,y,d⟩,z⟩:=j.from_ k;have m:=j.may k;have A:=j.at_ k;refine⟨λq a=>?_,λ_ _ _ _=>Z,Z,l⟩;cases q with
 | obj i=>
   constructor
   ·exact λh=> .inl ⟨h,λh=>h⟩
   rintro(⟨h,_⟩|⟨h,_⟩)
   ·exact h
   grind
 | pg r=>
   rw[kU (s:=pq s u.1) m.live,kU w.live];constructor
   ·rintro⟨f,n,b,hb,p,t⟩;have g:b∈dc s.Heap u.2.1 o ty:=by rw[<-d];exact hb
    rcases jU.1 g with rfl|g
    ·grind
    exact .inl ⟨⟨f,n,b,g,p,t⟩,λh=>h⟩
   rintro(⟨⟨f,n,b,hb,p,t⟩,_⟩|⟨f,rfl⟩)
   ·exact⟨f,n,b,by show b∈u.1.Live;rw[d];grind[jU],p,t⟩
   injection f with f
   subst f;refine⟨⟨by omega,by omega⟩,λc B x C e=>?_,⟨u.2.1,r,ty⟩,?_,?_,Z⟩
   ·obtain⟨b,hb,D⟩:=mG v B C<;>grind
   ·show _∈u.1.Live
    rw[d];exact jU.2 (.inl Z)
   grind
theorem Jd(t:aA s)(u:0<=cpu∧cpu<s.Heap.bl)(o:ct s (a*16)=true):fV s (pq s (iQ s.Heap cpu a)) (λz=>z=a*16) Be:=by
 have c:=t.heap;obtain⟨d,y,_⟩:=gb o;rw[show a*16 / 16=a by omega]at d;have f:=rB c u d;obtain⟨v,p,A⟩:=mv (cpu:=cpu) c d;have B:fU s (.pg (lU s.Heap.Live (a*16 / 16))) (a*16):=⟨o,Z⟩;refine⟨λq z=>?_,λ_ _ _ _=>Z,Z,v⟩;simp only[Be,or_false];cases q with
 | obj i=>
   constructor
   ·refine λh=>⟨h,λe=>?_⟩;subst e;have h':fU s (.obj i) (a*16):=h;grind[fU,rD]
   exact λh=>h.1
 | pg r=>
   rw[kU (s:=pq s (iQ s.Heap cpu a)) f.live,kU c.live];constructor
   ·rintro⟨g,j,b,hb,k,l⟩;have m:b∈s.Heap.Live.eraseIdx (bB s.Heap.Live a):=by rw[<-p];exact hb
    obtain⟨n,w⟩:=(jZ c.live d).1 m;exact⟨⟨g,j,b,n,k,l⟩,by omega⟩
   rintro⟨⟨g,j,b,hb,k,l⟩,x⟩;refine⟨g,j,b,?_,k,l⟩;show b∈(iQ s.Heap cpu a).Live
   rw[p];exact(jZ c.live d).2 ⟨hb,by omega⟩
theorem Hx(h:s.ab[i]?=some c):fU s (.obj i) a↔Gp s.Words c a:=by
 constructor
 ·rintro⟨d,e,h'⟩<;>grind
 exact λh'=>⟨c,h,h'⟩
theorem qU{t:aj}{x y:Int->Prop}(g:aA s)(w:i<s.ab.length)(k:t.ab=s.ab.set i c')(z:c'.Names=s.ab[i].Names)(A:c'.ax=s.ab[i].ax)(c:t.Heap.bl=s.Heap.bl)
 (l:∀a,Gp t.Words c' a↔(Gp s.Words s.ab[i] a∧¬x a)∨y a) (m:∀a,x a->fU s (.obj i) a)
 (n:∀(j:Nat)(b:j<s.ab.length),j≠i->∀a,Gp t.Words s.ab[j] a↔Gp s.Words s.ab[j] a)
 (p:∀o a,fU t (.pg o) a↔fU s (.pg o) a)
 (r:∀q a,fU s q a->¬x a->t.Words[a.toNat]?=s.Words[a.toNat]?):fV s t x (λq a=>q= .obj i∧y a):=by
 refine⟨λq a=>?_,r,?_,c⟩
 ·cases q with
  | obj j=>
    by_cases e:j=i
    ·subst e<;>grind[Hx,List.getElem?_set_self,jT]
    have u:t.ab[j]?=s.ab[j]?:=by grind
    have v:¬(Src.obj j=Src.obj i):=λh=>e (Src.obj.inj h);by_cases b:j<s.ab.length
    ·rw[Hx (u.trans (Pp b)),n j b e,jT b];constructor
     ·refine λh=> .inl ⟨h,λf=>?_⟩;exact v (rD g ((jT b).2 h) (m a f))
     grind
    constructor
    ·rintro⟨d,B,_⟩<;>grind
    rintro(⟨h,_⟩|⟨h,_⟩)
    ·exact absurd h.lt b
    grind
  | pg o=>
    rw[p];grind[rD]
 unfold sJ;rw[k,QN];refine PK fy λj C D=>?_
 grind
theorem uV(h:∀x∈c.ae,∃b,bK ws c.ax c.bd x b∧bK M2 c.ax c.bd x b)(a:Int):Gp M2 c a↔Gp ws c a:=by
 constructor
 ·rintro⟨x,d,e,o,f,g⟩;obtain⟨b,i,j⟩:=h x d;exact⟨x,d,e,b,i,by rw[j.c7 f];exact g⟩
 rintro⟨x,d,e,o,f,g⟩;obtain⟨b,i,j⟩:=h x d;exact⟨x,d,e,b,j,by rw[i.c7 f];exact g⟩
theorem fF{l:List α}(c:k<l.length){y x:α}:x∈l.set k y↔x=y∨∃j,∃a:j<l.length,j≠k∧x=l[j]:=by
 constructor
 ·intro h;obtain⟨j,a,rfl⟩:=Pg h<;>grind
 rintro(rfl|⟨j,a,b,rfl⟩)
 ·grind[List.mem_iff_getElem,List.length_set]
 exact List.mem_iff_getElem.2 ⟨j,by grind,by grind⟩
theorem Hy(t:k<c.ae.length){y:Slab}(e:c'.ae=c.ae.set k y)(A:c'.ax=c.ax)(B:c'.bd=c.bd)
 (f:∀(j:Nat)(g:j<c.ae.length),j≠k->∃d,bK ws c.ax c.bd c.ae[j] d∧bK M2 c.ax c.bd c.ae[j] d)
 {o u:List Int} (C:bK ws c.ax c.bd c.ae[k] o) (i:bK M2 c.ax c.bd y u) (D:y.At=c.ae[k].At) {p r:Int->Prop}
 (q:∀a,fG c.ax c.bd c.ae[k].At a=true->(a∉u↔(a∉o∧¬p a)∨r a)) (E:∀a,p a∨r a->fG c.ax c.bd c.ae[k].At a=true)
 (G:∀(j:Nat)(g:j<c.ae.length),j≠k->∀a,fG c.ax c.bd c.ae[j].At a=true->fG c.ax c.bd c.ae[k].At a=true->False) (a:Int):
 Gp M2 c' a↔(Gp ws c a∧¬p a)∨r a:=by
 unfold Gp;rw[e,A,B];constructor
 ·rintro⟨x,l,m,d,s,n⟩;rcases(fF t).1 l with rfl|⟨j,g,b,rfl⟩
  ·rw[D]at m;rw[s.c7 i]at n;grind
  obtain⟨v,w,z⟩:=f j g b;refine .inl ⟨⟨_,Pf g,m,v,w,by rw[z.c7 s];exact n⟩,λH=>?_⟩
  grind
 rintro(⟨⟨x,l,m,d,s,n⟩,F⟩|h)
 ·obtain⟨j,g,rfl⟩:=Pg l;by_cases b:j=k
  ·subst b;rw[s.c7 C]at n;exact⟨y,(fF t).2 (.inl Z),by grind,u,i,(q a m).2 (.inl ⟨n,F⟩)⟩
  obtain⟨v,w,z⟩:=f j g b;exact⟨_,(fF t).2 (.inr ⟨j,g,b,Z⟩),m,v,z,by rw[w.c7 s];exact n⟩
 have m:=E a (.inr h);exact⟨y,(fF t).2 (.inl Z),by grind,u,i,(q a m).2 (.inr h)⟩
theorem Cj{ws:List Int}{size per:Int}{x:Slab}{c:List Int}(d:1<=size)(h:bK ws size per x c)(g:x.ai=per)(i:1<=per){a:Int}(e:fG size per x.At a=true):a∈c:=by
 rcases Classical.em (a∈c)with h'|h'
 ·exact h'
 exfalso;obtain⟨j,f,k,m,n⟩:=(ie Y).1 h
 have:=Ap (per:=per) d (l:=a::c) (Qj.2 ⟨h',f⟩) (λb hb=>by
  rcases Qr.1 hb with rfl|hb
  ·exact e
  grind)
 grind
theorem EX(f:aA s)(g:i<s.ab.length)(l:k<s.ab[i].ae.length){b:List Int}(d:bK s.Words s.ab[i].ax s.ab[i].bd s.ab[i].ae[k] b)(m:a∈b)(q:Src):¬fU s q a:=λh=>by
 have c:=d.2.2 a m;cases q with
 | obj j=>
   have n:=h.lt;obtain⟨x,p,v,o,t,u⟩:=(jT n).1 h;obtain⟨r,w,rfl⟩:=Pg p;by_cases e:i=j∧k=r
   ·obtain⟨rfl,rfl⟩:=e;rw[t.c7 d]at u;grind
   grind[tN]
 | pg o=>
   have:=Ch f g l c;rw[h.1]at this;grind
theorem tQ{cs:List aO}{z:Int}:(∀c∈cs,∀x∈c.ae,x.At≠z)↔z∉aG cs:=by
 unfold aG<;>grind
theorem Av{t:aj}(b:fP s.Heap.Live)(c:t.Heap.Live=s.Heap.Live)(d:aG t.ab=aG s.ab)(o a:Int):fU t (.pg o) a↔fU s (.pg o) a:=by
 simp_all[kU,tQ]
theorem uW{cs:List aO}(d:i<cs.length){z:Int}:z∈aG (cs.set i c')↔z∈mX c'∨∃j,∃e:j<cs.length,j≠i∧z∈mX cs[j]:=by
 rw[dU,List.mem_flatten];constructor
 ·rintro⟨L,f,b⟩;obtain⟨c,g,rfl⟩:=Pw.1 f;rcases(fF d).1 g with rfl|⟨j,e,a,rfl⟩<;>grind
 rintro(b|⟨j,e,a,b⟩)
 ·exact⟨_,Pw.2 ⟨c',(fF d).2 (.inl Z),Z⟩,b⟩
 exact⟨_,Pw.2 ⟨_,(fF d).2 (.inr ⟨j,e,a,Z⟩),Z⟩,b⟩
theorem Aw{cs:List aO}(a:i<cs.length){z:Int}:z∈aG cs↔z∈mX cs[i]∨∃j,∃b:j<cs.length,j≠i∧z∈mX cs[j]:=by
 have:=uW a (c':=cs[i]) (z:=z);simp_all
theorem rE{z:Int}:z∈mX c↔∃x∈c.ae,x.At=z:=by unfold mX<;>grind
theorem Ck(g:aA s){cpu:Nat}(d:i<s.ab.length)(f:k<s.ab[i].ae.length)(L:0<s.ab[i].ae[k].ai):
 fV s ⟨s.Words,s.Heap,s.ab.set i (dl s.ab[i] cpu k (s.Words.getD s.ab[i].ae[k].bR.toNat 0))⟩ tP (λq a=>q= .obj i∧a=s.ab[i].ae[k].bR)∧∀q,¬fU s q s.ab[i].ae[k].bR:=by
 have u:=(g.each i d).may;have M:=bM u.lay;have l:0<=s.ab[i].bd:=Y;obtain⟨F,v⟩:=(u.av k f).chain;obtain⟨G,w,B,C,z⟩:=(ie l).1 v;obtain⟨q,rest,N,D,O,H⟩:=G.head (λe=>by grind)
 have P:s.Words.getD s.ab[i].ae[k].bR.toNat 0=s.Words[q]:=by
  grind
 rw[D]at w B C z;simp only[List.length_cons]at B C;have I:=(Qj.1 w).1;have E:=z s.ab[i].ae[k].bR fy;have A:bK s.Words s.ab[i].ax s.ab[i].bd ⟨s.ab[i].ae[k].At,s.ab[i].ae[k].ai-1,s.Words[q]⟩ rest:=(ie (x:=⟨s.ab[i].ae[k].At,s.ab[i].ae[k].ai-1,s.Words[q]⟩) l).2 ⟨H,(Qj.1 w).2,by omega,by grind,λa Q=>z a (by grind)⟩
 have m:mX (dl s.ab[i] cpu k (s.Words.getD s.ab[i].ae[k].bR.toNat 0))=mX s.ab[i]:=by
  unfold mX dl;simp only[eR f];exact wh f Z
 refine⟨qU g d Z Z Z Z (λa=>?_) (λa h=>h.elim) (λj n b a=>Iff.rfl) (Av (t:=⟨s.Words,s.Heap,s.ab.set i (dl s.ab[i] cpu k (s.Words.getD s.ab[i].ae[k].bR.toNat 0))⟩) g.heap.live Z (gE d m)) (λ_ _ _ _=>Z),λr h=>EX g d f v (by grind) r h⟩;refine Hy (c:=s.ab[i]) (c':=dl s.ab[i] cpu k (s.Words.getD s.ab[i].ae[k].bR.toNat 0)) f (y:=⟨s.ab[i].ae[k].At,s.ab[i].ae[k].ai-1,s.Words[q]⟩) (by grind[dl,eR]) Z Z (λj n b=>?_) v A Z (p:=tP) (r:=λa=>a=s.ab[i].ae[k].bR) (λa h=>?_) (λa h=>?_) (λj n b a J K=>tN g d d n f (λe=>b e.2) J K) a
 ·obtain⟨o,h⟩:=(u.av j n).chain<;>grind
 ·rw[D];simp only[tP,not_false_iff,and_true,List.mem_cons,not_or];grind
 rcases h with h|rfl
 ·exact h.elim
 omega
theorem grow_step(r:aA s)(m:i<s.ab.length){u:Heap×Int×Int}(C:cj s.Heap cpu s.ab[i].Order 0 u)(D:u.2.2=0)(H:gI s.Words.length (16*u.2.1) s.ab[i].ax s.ab[i].bd):
 fV s ⟨df s.Words (16*u.2.1) s.ab[i].ax s.ab[i].bd,u.1,s.ab.set i (de s.ab[i] u.2.1)⟩ tP Be:=by
 have I:=(r.each i m).may;have V:=bM I.lay;obtain⟨W,M,J,K⟩:=Ao r m C D H;obtain⟨N,E,⟨ty,O,v⟩,F⟩:=C.from_ D;have l:=C.may D;have P:(⟨u.2.1,s.ab[i].Order,ty⟩:Block)∈u.1.Live:=by rw[v];exact jU.2 (.inl Z)
 have g:∀c∈s.ab,dr s c->∀a,Gp (df s.Words (16*u.2.1) s.ab[i].ax s.ab[i].bd) c a↔Gp s.Words c a:=λc H G a=>by
  refine uV (λx d=>?_) a;obtain⟨k,Q,rfl⟩:=Pg d;obtain⟨o,h⟩:=(G.av k Q).chain<;>grind
 refine(qU (t:=⟨df s.Words (16*u.2.1) s.ab[i].ax s.ab[i].bd,u.1,s.ab.set i (de s.ab[i] u.2.1)⟩) (x:=tP) (y:=λ_=>False) (c':=de s.ab[i] u.2.1) r m Z Z Z E (λa=>?_) (λa h=>h.elim) (λj L R a=>g _ (Pf L) (r.each j L).may a) (λo a=>?_) (λq a h _=>?_)).congr (λa=>Iff.rfl) (λq a=>by simp[Be])
 ·simp only[tP,not_false_iff,and_true,or_false];rw[<-g _ (Pf m) I];constructor
  ·rintro⟨x,d,n,o,p,w⟩;have A:fG s.ab[i].ax s.ab[i].bd x.At a=true:=n;have B:bK (df s.Words (16*u.2.1) s.ab[i].ax s.ab[i].bd) s.ab[i].ax s.ab[i].bd x o:=p;rcases nQ.1 d with rfl|d
   ·exact absurd (Cj Y B Z Y A) w
   exact⟨x,d,A,o,B,w⟩
  rintro⟨x,d,n,o,p,w⟩;exact⟨x,nQ.2 (.inr d),n,o,p,w⟩
 ·rw[kU (s:=⟨df s.Words (16*u.2.1) s.ab[i].ax s.ab[i].bd,u.1,s.ab.set i (de s.ab[i] u.2.1)⟩) l.live,kU N.live,tQ,tQ]
  have S:∀z,z∈aG (s.ab.set i (de s.ab[i] u.2.1))↔z=u.2.1∨z∈aG s.ab:=λz=>by
   have e:z∈mX (de s.ab[i] u.2.1)↔z=u.2.1∨z∈mX s.ab[i]:=by
    rw[rE,rE];constructor
    ·rintro⟨x,d,rfl⟩;rcases nQ.1 d with rfl|d<;>grind
    rintro(rfl|⟨x,d,rfl⟩)
    ·exact⟨_,nQ.2 (.inl Z),Z⟩
    exact⟨x,nQ.2 (.inr d),Z⟩
   rw[uW m,Aw m,e,or_assoc]
  rw[S];constructor
  ·rintro⟨n,p,b,hb,T,U⟩;refine⟨n,λh=>p (.inr h),b,?_,T,U⟩;have f:b∈dc s.Heap u.2.1 s.ab[i].Order ty:=by grind
   rcases jU.1 f with rfl|f<;>grind
  grind[jU]
 obtain⟨b,hb⟩:=jB r h;have f:b∈u.1.Live:=by rw[v];exact jU.2 (.inr hb.mem)
 have n:=fQ l f P (F b hb.mem);have p:=hb.lo;have w:=hb.hi;have X:=hb.ext;have h5:=(l.live.all b f).2.1;grind
theorem Lf(d:aA s)(f:i<s.ab.length)(u:k<s.ab[i].ae.length){m:List Int}(g:fG s.ab[i].ax s.ab[i].bd s.ab[i].ae[k].At a=true)(B:bK s.Words s.ab[i].ax s.ab[i].bd s.ab[i].ae[k] m)(v:a∉m):
 fV s ⟨s.Words.set a.toNat s.ab[i].ae[k].bR,s.Heap,s.ab.set i (iW s.ab[i] k s.ab[i].ae[k] a)⟩ (λz=>z=a) Be:=by
 have E:=(d.each i f).may;obtain⟨I,n,C⟩:=Hs d f u g B v;have w:s.ab[i].ae[k]∈s.ab[i].ae:=Pf u;have J:fU s (.obj i) a:=(jT f).2 ⟨_,w,g,m,B,v⟩;have A:mX (iW s.ab[i] k s.ab[i].ae[k] a)=mX s.ab[i]:=wh u Z;refine(qU (t:=⟨s.Words.set a.toNat s.ab[i].ae[k].bR,s.Heap,s.ab.set i (iW s.ab[i] k s.ab[i].ae[k] a)⟩) (x:=λz=>z=a) (y:=λ_=>False) (c':=iW s.ab[i] k s.ab[i].ae[k] a) d f Z Z Z Z (λz=>?_) (λz h=>by grind) (λj l b z=>?_) (Av (t:=⟨s.Words.set a.toNat s.ab[i].ae[k].bR,s.Heap,s.ab.set i (iW s.ab[i] k s.ab[i].ae[k] a)⟩) d.heap.live Z (gE f A)) (λq z h b=>?_)).congr (λz=>Iff.rfl) (λq z=>by simp[Be])
 ·refine Hy (c:=s.ab[i]) (c':=iW s.ab[i] k s.ab[i].ae[k] a) u (y:=⟨s.ab[i].ae[k].At,s.ab[i].ae[k].ai+1,a⟩) Z Z Z (λj l b=>?_) B C Z (p:=λz=>z=a) (r:=λ_=>False) (λz h=>?_) (λz h=>?_) (λj l b z F G=>tN d f f l u (λe=>b e.2) F G) z
  ·obtain⟨o,h⟩:=(E.av j l).chain<;>grind[List.getElem_mem,kd,List.pairwise_iff_getElem,Nat.lt_or_gt_of_ne]
  all_goals grind
 ·refine uV (λx D=>?_) z;obtain⟨r,H,rfl⟩:=Pg D;obtain⟨o,h⟩:=((d.each j l).may.av r H).chain;exact⟨o,h,n _ (Pf l) (d.each j l).may _ D (mH d l f b D w) o h⟩
 have K:=jo d h;grind
theorem mem_erase_iff{l:List α}{x:α}:x∈l.eraseIdx k↔∃j,∃a:j<l.length,j≠k∧l[j]=x:=Qc
theorem EY(r:aA s)(g:i<s.ab.length)(K:k<s.ab[i].ae.length)(T:s.ab[i].ae[k].ai=s.ab[i].bd)(n:0<=cpu∧cpu<s.Heap.bl):
 fV s ⟨s.Words,(ee s.Heap cpu s.ab[i].ae[k].At).2,s.ab.set i (dA s.ab[i] k)⟩ tP Be:=by
 have G:=(r.each i g).may;have U:=bM G.lay;have c:=r.heap;have p:s.ab[i].ae[k]∈s.ab[i].ae:=Pf K;obtain⟨V,v,w,L⟩:=fE r (Pf g) p
 have a:bx s.Heap.Live s.ab[i].ae[k].At=true:=by
  obtain⟨q,l,rfl⟩:=Pg v;exact(lg (jh c.live) l w).2
 have A:=rB c n a;obtain⟨M,N,W⟩:=mv (cpu:=cpu) c a;rw[mi (ch.2 c) n a]
 have B:∀(q:Nat)(l:q<s.ab[i].ae.length),q≠k->s.ab[i].ae[q].At≠s.ab[i].ae[k].At:=λq l C=>by
  have:=kd G;grind[kd,List.pairwise_iff_getElem,Nat.lt_or_gt_of_ne]
 refine(qU (t:=⟨s.Words,iQ s.Heap cpu s.ab[i].ae[k].At,s.ab.set i (dA s.ab[i] k)⟩) (x:=tP) (y:=λ_=>False) (c':=dA s.ab[i] k) r g Z Z Z M (λz=>?_) (λz h=>h.elim) (λj u B z=>Iff.rfl) (λo z=>?_) (λq z h _=>Z)).congr (λz=>Iff.rfl) (λq z=>by simp[Be])
 ·simp only[tP,not_false_iff,and_true,or_false];constructor
  ·rintro⟨x,d,m,o,f,D⟩;exact⟨x,PH d,m,o,f,D⟩
  rintro⟨x,d,m,o,f,D⟩;obtain⟨j,u,rfl⟩:=Pg d;by_cases e:j=k
  ·subst e<;>grind[absurd,Cj]
  exact⟨_,mem_erase_iff.2 ⟨j,u,e,Z⟩,m,o,f,D⟩
 rw[kU (s:=⟨s.Words,iQ s.Heap cpu s.ab[i].ae[k].At,s.ab.set i (dA s.ab[i] k)⟩) A.live,kU c.live,tQ,tQ]
 have O:∀y,y∈aG (s.ab.set i (dA s.ab[i] k))↔y∈aG s.ab∧y≠s.ab[i].ae[k].At:=λy=>by
  rw[uW g,Aw g,rE,rE];constructor
  ·rintro(⟨x,d,rfl⟩|⟨j,u,E,P⟩)
   ·obtain⟨q,l,C,rfl⟩:=mem_erase_iff.1 d<;>grind
   grind[rE,mH]
  rintro⟨⟨x,d,rfl⟩|⟨j,u,E,P⟩,H⟩
  ·obtain⟨q,l,rfl⟩:=Pg d;exact .inl ⟨_,mem_erase_iff.2 ⟨q,l,λe=>by grind,Z⟩,Z⟩
  grind
 have Q:s.ab[i].ae[k].At∈aG s.ab:=(Aw g).2 (.inl (rE.2 ⟨_,p,Z⟩));rw[O];constructor
 ·rintro⟨m,f,b,hb,I,J⟩;have F:b∈s.Heap.Live.eraseIdx (bB s.Heap.Live s.ab[i].ae[k].At):=by grind
  obtain⟨R,S⟩:=(jZ c.live a).1 F<;>grind
 rintro⟨m,f,b,hb,I,J⟩;refine⟨m,λh=>f h.1,b,?_,I,J⟩;show b∈(iQ s.Heap cpu s.ab[i].ae[k].At).Live
 rw[N];exact(jZ c.live a).2 ⟨hb,λe=>f (by grind)⟩
theorem EZ(b:aA s)(c:ct s a=true):∀i k,kB s a i k=false:=λi k=>by
 cases e:kB s a i k<;>grind[kB,Ch]
theorem mo.step{u:aj×Int×Int}(F:fT s)(h:mo s n cpu u)(G:u.2.2=0):∃i:Nat,idxOf (c9 n) s.ab=(i:Int)∧fV s u.1 tP (λq a=>q= .obj i∧a=u.2.1)∧∀q,¬fU s q u.2.1:=by
 have l:=F.may;cases h with
 | ask h=>grind
 | @A9 i m H e o I=>
   obtain⟨_,_,J⟩:=jj H;have C:=(l.each i o).may;have P:=bM C.lay;have b:cpu.toNat<s.ab[i].ao.length:=by have:=C.aD;omega
   cases I with
   | room _ _ p=>exact absurd G p
   | chain=>grind[kC]
   | @xF k D=>
     obtain⟨d,K,Q⟩:=Hr b D;obtain⟨r,w⟩:=Ck (cpu:=cpu.toNat) l o d K;refine⟨i,e,?_,?_⟩;all_goals grind[kC,aZ,jJ,eR]
   | @new v D E p f=>
     have L:=EU l o E p f;have r:=grow_step l o E p f;have g:=lD s.ab[i] v.2.1
     have d:eU s.ab[i] v.2.1<(de s.ab[i] v.2.1).ae.length:=by
      simp only[de];grind[de,bT]
     have y:(de s.ab[i] v.2.1).ae[eU s.ab[i] v.2.1]=⟨v.2.1,s.ab[i].bd,16*v.2.1⟩:=by
      have:=jP g (x:=(⟨v.2.1,s.ab[i].bd,16*v.2.1⟩:Slab));obtain⟨_,e⟩:=PF.1 this;exact e
     have z:∀(t:aj)(M:aA t)(A:i<t.ab.length)(c:aO)(j:t.ab[i]=c)(N:c=de s.ab[i] v.2.1)(B:eU s.ab[i] v.2.1<c.ae.length),fV t ⟨t.Words,t.Heap,t.ab.set i (dl c cpu.toNat (eU s.ab[i] v.2.1) (t.Words.getD c.ae[eU s.ab[i] v.2.1].bR.toNat 0))⟩ tP (λq a=>q= .obj i∧a=c.ae[eU s.ab[i] v.2.1].bR)∧∀q,¬fU t q c.ae[eU s.ab[i] v.2.1].bR:=λt M A c j N B=>by
      subst j<;>grind[de,eU,Ck]
     obtain⟨w,O⟩:=z _ L (by grind) _ fy Z d;simp only[List.set_set]at w;refine⟨i,e,?_,λq h=>?_⟩
     ·simp only[kC,aZ,jJ,eR d];exact(r.trans w).congr (λa=>by grind) (λq a=>by simp[tP,Be])
     simp only[kC,eR d]at h;exact O q ((r.aw q _).2 (.inl ⟨h,λh=>h⟩))
theorem nt.step(E:fT s)(h:nt s n cpu a u)(J:u.2=0):fV s u.1 (λz=>z=a) Be∧∃i:Nat,idxOf (c9 n) s.ab=(i:Int)∧fU s (.obj i) a:=by
 have x:=E.may;cases h with
 | ask h=>omega
 | none=>omega
 | @put i k h F e j l=>
   obtain⟨_,_,G⟩:=jj h;obtain⟨o,p,r,c⟩:=EW F;have b:=o.obj;rw[nc j l]at b;have H:=Ht x j l b r c;have y:=Lf x j l b r c;refine⟨?_,i,e,(jT j).2 ⟨_,Pf l,b,p,r,c⟩⟩;unfold tC;split
   ·rename_i A;rw[PT]at A;have d:=A.1;unfold jH at d;simp only[Bool.and_eq_true,Bool.not_eq_true',decide_eq_false_iff_not,decide_eq_true_eq]at d
    have v:∀(t:aj)(B:aA t)(f:i<t.ab.length)(m:aO)(g:t.ab[i]=m)(C:m=iW s.ab[i] k s.ab[i].ae[k] a)(I:t.Heap=s.Heap),fV t ⟨t.Words,(ee t.Heap cpu s.ab[i].ae[k].At).2,t.ab.set i (dA m k)⟩ tP Be:=λt B f m g C I=>by
     subst g;have w:k<t.ab[i].ae.length:=by rw[C];grind[iW,List.length_set]
     have K:t.ab[i].ae[k]=⟨s.ab[i].ae[k].At,s.ab[i].ae[k].ai+1,a⟩:=by
      grind[iW]
     have:=EY B f w (by grind) (cpu:=cpu) (by grind)
     grind
    have D:=v _ H (by grind) _ fy Z Z;simp only[List.set_set]at D;exact(y.trans D).congr (λz=>by simp[tP]) (λq z=>by grind)
   exact y
theorem Cl{n:Int}(h:n<=256):n<=16*pw (vO n):=by
 grind[pw,vO]
theorem dO.step{n:Int}{u:aj×Int×Int}(b:fT s)(h:dO s cpu n u)(d:u.2.2=0):∃q,fV s u.1 tP (λr a=>r=q∧a=u.2.1)∧(∀r,¬fU s r u.2.1)∧fT u.1∧1<=n∧
 ((∃i:Nat,q= .obj i∧n<=32∧idxOf (c9 (e8 n)) s.ab=(i:Int))∨(q= .pg (vO n)∧n<=256)):=by
 cases h with
 | bad|range|size=>simp at d
 | obj _ c j=>
   obtain⟨i,e,k,l⟩:=j.step b d;exact⟨.obj i,k,l,j.Ld b d,c.1,.inl ⟨i,Z,c.2,e⟩⟩
 | fault _ _ _ h=>grind
 | bt _ c f g=>exact⟨_,Gq b.may f g,Dj b.may f g,Hv b f g,by omega,.inr ⟨Z,c.2⟩⟩
theorem ks.step(b:fT s)(h:ks s cpu a u)(d:u.2=0):fV s u.1 (λz=>z=a) Be∧fT u.1:=by
 cases h with
 | bad|range|no=>simp at d
 | obj _ _ _ _ g=>exact⟨(g.step b d).1,g.j7 b d⟩
 | whole _ f _ i=>
   obtain⟨j,d,k⟩:=gb i;have e:a / 16*16=a:=Y;rw[mi (ch.2 b.may.heap) f j];have c:ct s (a / 16*16)=true:=by grind
   exact⟨(Jd b.may f c).congr (λz=>by rw[e]) λ_ _=>Iff.rfl,La b f c⟩
theorem ah.AJ{n:Nat}{L:Env}{t u q o ty e:Nat}{x y z:Value}[c:fA P ty m](f:fn.results= #[.cell t ty,.tmp u,.tmp q,.tmp o])(g:get L t=some (Pt b))(i:get L u=some x)(j:get L q=some y)(k:get L o=some z)(l:ay w b e cs)(p:Nat.beq cs.length m=true)(h:R (.returned (.tuple #[.agg cs.toArray,x,y,z])) w):ah n (bodyPost P fn R) .ret L w:=
 ⟨λa d=>⟨d.defers,_,by simpa using lG.results (rs:=[.cell t ty,.tmp u,.tmp q,.tmp o]) f (.cell c g l (PD p) (.tmp i (.tmp j (.tmp k .nil)))) d,h⟩⟩
def NH(lo:Nat)(u:aj×Int×List Int×Int)(v:Value)(w:World):Prop:=∃q A c,v= .tuple #[.agg (ar q).toArray,Iv u.2.1,.slice A u.2.2.1.length c,Iv u.2.2.2]∧gK w lo q u.1∧Own w lo 3 1 aT A u.2.2.1.length c u.2.2.1
def sI(a:ff):Prop:=∀(r:cc)(s:aj)(lo:Nat)(w:World),gK w lo r s->lo<=w.heap.size->fT s->nq w->
 aS prog 22 [.agg (ar r).toArray,.agg (pB a).toArray] w λv b=>∃u,fM s a u∧NH lo u v b
theorem Fc(a:ff)(y:a.Kind=3)(j:a.Name.size<=140737488351232):sI a:=by
 intro r s lo w F t G z;obtain⟨k,cpu,n,m,A,fl,x⟩:=a;simp only at y j⊢;subst y;have H:=G.bU;refine Wj func22 ntmps22 ?_;refine Ww λI R d B b=>?_;have S:=b.lt;refine SW.box Z Z λJ K f C c=>?_;obtain⟨d,b⟩:=bk f d b;have T:=c.lt;have c:ay _ J _ [Iv 3,Iv cpu,Iv n,Iv m,Iv A,Iv fl,.string x]:=c;refine SW.alloc Z λL K f l h=>?_;have D:=d.up l;obtain⟨d,b,c⟩:=aY f d b c;have M:L≠I:=Y;refine Wz ?_;refine Wk (xS r s x n m _ (F.rd.ext d) H j) λv U o N=>?_;obtain⟨u,O,q,rfl,i⟩:=N;have E:=fM.n6 (s:=s) (a:=⟨3,cpu,n,m,A,fl,x⟩) Z O;have i:=i.low (Pj t d.size);obtain⟨d,b,c,h⟩:=cG o d b c h;obtain⟨V,e⟩:=u;simp only at E i⊢;refine Wz ?_;refine Wh b (aB q) λP g b=>?_;obtain⟨h,d,i⟩:=aY g h d i;refine Wz ?_;refine Wh h (aB q) λQ g p=>?_;obtain⟨d,i⟩:=bk g d i;refine Wz ?_;exact ah.AJ Z Z Z Z Z p Z ⟨_,Z,d,_,E,q,none,0,Z,i,Own.cq _ _ _ _ _ _⟩
theorem Fe(a:ff)(z:a.Kind=5)(j:a.Name.size<=140737488351232):sI a:=by
 intro r s lo w F x G l;obtain⟨k,cpu,n,m,A,fl,y⟩:=a;simp only at z j⊢;subst z;have H:=G.bU;refine Wj func22 ntmps22 ?_;refine Ww λI S c B b=>?_;have T:=b.lt;refine SW.box Z Z λJ K f C d=>?_;obtain⟨c,b⟩:=bk f c b;have U:=d.lt;have d:ay _ J _ [Iv 5,Iv cpu,Iv n,Iv m,Iv A,Iv fl,.string y]:=d;refine SW.alloc Z λL K f o h=>?_;have D:=c.up o;obtain⟨c,b,d⟩:=aY f c b d;have M:L≠I:=Y;refine Wz ?_;refine Wk (rW r s y cpu _ (F.rd.ext c) H j (l.ext c)) λv V p O=>?_;obtain⟨u,P,q,rfl,i⟩:=O;have E:=fM.new (s:=s) (a:=⟨5,cpu,n,m,A,fl,y⟩) Z P;have i:=i.low (Pj x c.size);obtain⟨c,b,d,h⟩:=cG p c b d h;obtain⟨W,N,e⟩:=u;simp only at E i⊢;refine Wz ?_;refine Wh b (aB q) λQ g b=>?_;obtain⟨h,c,i⟩:=aY g h c i;refine Wz ?_;refine Wh h (aB q) λR g t=>?_;obtain⟨c,i⟩:=bk g c i;refine Wz ?_;exact ah.AJ Z Z Z Z Z t Z ⟨_,Z,c,_,E,q,none,0,Z,i,Own.cq _ _ _ _ _ _⟩
theorem Ff(a:ff)(A:a.Kind=6)(j:a.Name.size<=140737488351232)(l: -9223372036854775808<=a.At∧a.At<=9223372036854775807):sI a:=by
 intro r s lo w G x H B;obtain⟨k,cpu,n,m,y,fl,z⟩:=a;simp only at A j l⊢;subst A;have I:=H.bU;refine Wj func22 ntmps22 ?_;refine Ww λJ S d C b=>?_;have T:=b.lt;refine SW.box Z Z λK L f D c=>?_;obtain⟨d,b⟩:=bk f d b;have U:=c.lt;have c:ay _ K _ [Iv 6,Iv cpu,Iv n,Iv m,Iv y,Iv fl,.string z]:=c;refine SW.alloc Z λM L f o h=>?_;have E:=d.up o;obtain⟨d,b,c⟩:=aY f d b c;have N:M≠J:=Y;refine Wz ?_;refine Wk (tS r s z cpu y _ (G.rd.ext d) I j l) λv V p O=>?_;obtain⟨u,P,q,rfl,i⟩:=O;have F:=fM.drop (s:=s) (a:=⟨6,cpu,n,m,y,fl,z⟩) Z P;have i:=i.low (Pj x d.size);obtain⟨d,b,c,h⟩:=cG p d b c h;obtain⟨W,e⟩:=u;simp only at F i⊢;refine Wz ?_;refine Wh b (aB q) λQ g b=>?_;obtain⟨h,d,i⟩:=aY g h d i;refine Wz ?_;refine Wh h (aB q) λR g t=>?_;obtain⟨d,i⟩:=bk g d i;refine Wz ?_;exact ah.AJ Z Z Z Z Z t Z ⟨_,Z,d,_,F,q,none,0,Z,i,Own.cq _ _ _ _ _ _⟩
theorem Fg(a:ff)(z:a.Kind=7)(j:a.Name.size<=140737488351232):sI a:=by
 intro r s lo w F x G A;obtain⟨k,cpu,n,m,B,fl,t⟩:=a;simp only at z j⊢;subst z;have H:=G.bU;refine Wj func22 ntmps22 ?_;refine Ww λI Q d C b=>?_;have R:=b.lt;refine SW.box Z Z λJ K f D c=>?_;obtain⟨d,b⟩:=bk f d b;have S:=c.lt;have c:ay _ J _ [Iv 7,Iv cpu,Iv n,Iv m,Iv B,Iv fl,.string t]:=c;refine SW.alloc Z λL K f l h=>?_;have E:=d.up l;obtain⟨d,b,c⟩:=aY f d b c;have M:L≠I:=Y;refine Wz ?_;refine Wk (Gg r s t _ (F.rd.ext d) H j) λv T o N=>?_;obtain⟨q,rfl,i⟩:=N;have y:=fM.shrink (s:=s) (a:=⟨7,cpu,n,m,B,fl,t⟩) Z;generalize jI s t=u at y i⊢;have i:=i.low (Pj x d.size);obtain⟨d,b,c,h⟩:=cG o d b c h;obtain⟨U,e⟩:=u;simp only at y i⊢;refine Wz ?_;refine Wh b (aB q) λO g b=>?_;obtain⟨h,d,i⟩:=aY g h d i;refine Wz ?_;refine Wh h (aB q) λP g p=>?_;obtain⟨d,i⟩:=bk g d i;refine Wz ?_;exact ah.AJ Z Z Z Z Z p Z ⟨_,Z,d,_,y,q,none,0,Z,i,Own.cq _ _ _ _ _ _⟩
theorem Dr(a:ff)(C:a.Kind=15)(o:a.Name.size<=140737488351232):sI a:=by
 intro r s lo w I p J t;obtain⟨k,cpu,n,m,D,fl,B⟩:=a;simp only at C o⊢;subst C;have K:=J.bU;refine Wj func22 ntmps22 ?_;refine Ww λL V d E b=>?_;have W:=b.lt;refine SW.box Z Z λM O h F f=>?_;obtain⟨d,b⟩:=bk h d b;have X:=f.lt;have f:ay _ M _ [Iv 15,Iv cpu,Iv n,Iv m,Iv D,Iv fl,.string B]:=f;refine SW.alloc Z λP O h x i=>?_;have G:=d.up x;obtain⟨d,b,f⟩:=aY h d b f;have Q:P≠L:=Y;refine Wz ?_;refine Wk (Dq r s B cpu n _ (I.rd.ext d) K o (t.ext d)) λv w7 y R=>?_;obtain⟨u,S,q,A,c,rfl,j,l⟩:=R;have H:=fM.bulk (s:=s) (a:=⟨15,cpu,n,m,D,fl,B⟩) Z S;have j:=j.low (Pj p d.size);have l:=l.low (Pj p d.size);obtain⟨d,b,f,i⟩:=cG y d b f i;obtain⟨u1,N,e⟩:=u;simp only at H j l⊢;refine Wz ?_;refine Wh b (aB q) λT g b=>?_;obtain⟨i,d,j,l⟩:=cG g i d j l;refine Wz ?_;refine Wh i (aB q) λU g z=>?_;obtain⟨d,j,l⟩:=aY g d j l;refine Wz ?_;exact ah.AJ Z Z Z Z Z z Z ⟨_,Z,d,_,H,q,A,c,Z,j,l⟩
variable {f:Int} {q:Src}
theorem Gr(f:aA s)(v:fU s q a)(w:∀b:Int,0<=b->¬(a<=b∧b<a+jL s q)->ws[b.toNat]?=s.Words[b.toNat]?)(m:i<s.ab.length)(r:k<s.ab[i].ae.length){g:List Int}(y:bK s.Words s.ab[i].ax s.ab[i].bd s.ab[i].ae[k] g):bK ws s.ab[i].ax s.ab[i].bd s.ab[i].ae[k] g:=by
 have t:=(f.each i m).may;have J:=bM t.lay;obtain⟨z,A,B,C,u⟩:=(ie Y).1 y;refine(ie Y).2 ⟨z.congr λb hb D=>w b D λn=>?_,A,B,C,u⟩;have c:=u b hb;obtain⟨K,L⟩:=lx t.lay c;obtain⟨d,l⟩:=jB f v;obtain⟨M,o,N,O⟩:=fE f (Pf m) (Pf r);have P:=l.lo;have Q:=l.hi;by_cases e:d.At=s.ab[i].ae[k].At
 ·rcases l.what with⟨j,E,rfl,F,p,x,G,H⟩|⟨_,_,p⟩
  ·obtain rfl:=oQ f E m G (Pf r) (H.trans e);rw[F]at n;unfold fG at c;simp only[Bool.and_eq_true,decide_eq_true_eq]at c;obtain⟨⟨R,S⟩,I⟩:=c;rw[e]at p;rcases Rc a b with h|h
   ·have:=As Y p I Y;omega
   grind[EX]
  grind
 have:=fQ f.heap l.mem o Y
 grind
theorem Ax(c:aA s)(n:fU s q a)(y:ws.length=4096)(A:∀b:Int,0<=b->¬(a<=b∧b<a+jL s q)->ws[b.toNat]?=s.Words[b.toNat]?):
 aA ⟨ws,s.Heap,s.ab⟩∧fV s ⟨ws,s.Heap,s.ab⟩ (λz=>z=a) (λr z=>r=q∧z=a):=by
 have p:=λ{i k:Nat}(m:i<s.ab.length)(g:k<s.ab[i].ae.length){f:List Int}(t:bK s.Words s.ab[i].ax s.ab[i].bd s.ab[i].ae[k] f)=>Gr c n A m g t;refine⟨⟨y,c.heap,c.most,λi m=>?_⟩,λr z=>?_,λr z h u=>?_,Z,Z⟩
 ·have d:=c.each i m;refine⟨⟨d.may.lay,d.may.names,d.may.aD,λk g=>?_,d.may.ns⟩,d.size,d.names,d.av⟩;have v:=d.may.av k g;obtain⟨f,t⟩:=v.chain;exact⟨v.live,v.next,f,p m g t⟩
 ·have w:fU ⟨ws,s.Heap,s.ab⟩ r z↔fU s r z:=by
   cases r with
   | pg o=>exact Iff.rfl
   | obj j=>
     by_cases l:j<s.ab.length
     ·rw[jT (s:=⟨ws,s.Heap,s.ab⟩) l,jT l];refine uV (λx B=>?_) z;obtain⟨k,g,rfl⟩:=Pg B;obtain⟨o,h⟩:=((c.each j l).may.av k g).chain<;>grind
     exact⟨λh=>absurd h.lt l,λh=>absurd h.lt l⟩
  rw[w];constructor
  ·intro h;by_cases e:z=a
   ·subst e;exact .inr ⟨rD c h n,Z⟩
   grind
  grind
 have C:=jo c h;have D:=Au c h n u;grind
theorem sE(c:aA s)(d:fU s q a)(f:∀i(b:i<s.ab.length),q= .obj i->oE s.ab[i]=true){z:Int×Int}(h:iV s a z):z=(jL s q,0):=by
 cases q with
 | obj i=>
   have b:=d.lt;obtain⟨k,g⟩:=(Me b).1 ((jT b).1 d);have j:=oF.yes (g.find c) b (f i b Z);have:=h.c7 (.obj (lV c) b j);grind[lV,jL,tO]
 | pg o=>
   have e:=d.1;have l:gx s a (0,0,4):= .none (lV c) (EZ c e);have:=h.c7 (.whole (lV c) (Ja l) e);rw[this];unfold iU;rw[if_pos e,d.2]
   rfl
theorem Hz{l:List Int}{t k:Int}(a:0<=t)(b:0<=f)(c:0<=k)(d:t+k<=l.length)(e:f+k<=l.length):Aa l t f k=oM l t.toNat f.toNat k.toNat:=by
 unfold Aa<;>grind
theorem kY.step{n:Int}{u:aj×Int×Int}(V:fT s)(D:fU s q a)(W:∀i(X:i<s.ab.length),q= .obj i->oE s.ab[i]=true)
 (hz:∀i:Nat,n<=32->idxOf (c9 (e8 n)) s.ab=(i:Int)->n<=tO s i) (h:kY s cpu a n u) (h0:u.2.2=0):
 (u=(s,a,0)∧n<=jL s q)∨∃r,fV s u.1 (λz=>z=a) (λp z=>p=r∧z=u.2.1)∧fT u.1∧n<=jL s r∧1<=n∧(∀p,¬fU s p u.2.1)∧u.1.Words[u.2.1.toNat]?=s.Words[a.toNat]?∧
   ((∃i:Nat,r= .obj i∧n<=32∧idxOf (c9 (e8 n)) s.ab=(i:Int))∨(r= .pg (vO n)∧n<=256)):=by
 have I:=V.may;have zc:=jo I D;cases h with
 | size _ H=>grind
 | range=>grind
 | fault _ _ _ _ _ H=>grind
 | free _ _ _ _ _ _ _ H=>grind
 | @stay z h H hc J=>
   rw[sE I D W h]at J;grind
 | @ok z v w h H hc J hv K L M=>
   have ez:=sE I D W h;subst ez;right;obtain⟨r,x,N,E,O,m⟩:=hv.step V K;have j:=E.may;obtain⟨c,P⟩:=bq v.2.1;simp only at J L⊢;rw[P]at x N L⊢;have y:fU v.1 r c:=(x.aw r c).2 (.inr ⟨Z,Z⟩);have Q:fU v.1 q a:=(x.aw q a).2 (.inl ⟨D,λh=>h⟩);have A:a≠c:=λe=>N q (e▸D)
   have R:n<=jL s r:=by
    rcases m with⟨i,rfl,F,X⟩|⟨rfl,S⟩
    ·exact hz i F X
    exact Cl S
   have er:=x.ext r;have zd:=x.ext q;have ze:=jo j y;have zf:=Au j Q y A;have za:=j.words;have B:=E.bU.small;have C:Aa v.1.Words c a (jL s q)=oM v.1.Words c.toNat a.toNat (jL s q).toNat:=Hz Y Y Y Y Y;have zg:=uR (l:=v.1.Words) (t:=c.toNat) (f:=a.toNat) (k:=(jL s q).toNat) Y Y;have o:=I2 (l:=v.1.Words) (t:=c.toNat) (f:=a.toNat) (k:=(jL s q).toNat) Y Y
   obtain⟨G,ht⟩:=Ax j y (ws:=Aa v.1.Words c a (jL s q)) (by rw[C];omega) (λb hb zh=>by
    rw[C,o];rcases PJ b.toNat c.toNat with g|g
    ·rw[if_pos g]
    rw[if_neg Y,if_neg Y])
   have T:fT (Bc v.1 c a (jL s q)):=⟨gj G ⟨by simp only[Bc];grind,B.heap,B.aV,B.each⟩,G⟩;obtain⟨h3,U⟩:=L.step T M;have d:=(x.trans ht).trans h3;have zb:fU w.1 r c:=(d.aw r c).2 (.inr (.inl ⟨.inr ⟨Z,Z⟩,λe=>A e.symm⟩))|>λh=>h
   refine⟨r,⟨λp z=>?_,λp z h hx=>?_,d.shape,d.cpus⟩,U,R,O,N,?_,m⟩
   ·rw[d.aw];simp only[tP,Be,false_or,or_false];constructor;all_goals grind
   ·refine d.words p z h λe=>?_;rcases e with(e|e)|e
    ·exact e
    all_goals grind
   have e1:=h3.words r c ((ht.aw r c).2 (.inr ⟨Z,Z⟩)) (λe=>A e.symm);rw[e1];show(Aa v.1.Words c a (jL s q))[c.toNat]?=_
   rw[C,o,if_neg Y,if_pos Y,Qy,Q8];exact x.words q a D λh=>h
theorem Lo(l:List Int)(t f k:Int):(Aa l t f k).length<=l.length:=by
 unfold Aa;split
 ·rw[uR Y Y];grind
 grind
theorem Cr(h:s.bU)(t f k:Int):(Bc s t f k).bU:=by
 have:=Lo s.Words t f k;have a:=h.small.words;exact⟨⟨by grind[Bc],h.small.heap,h.small.aV,h.small.each⟩,h.bA,h.av,h.names⟩
theorem Gz(r:cc)(s:aj)(cpu a n:Int)(w:World)(hr:mB w r s)(hI:fT s)(ha: -9223372036854775808<=a∧a<=9223372036854775807)(hS:jD w)(za:nq w):
 aS prog 26 [.agg (ar r).toArray,Iv cpu,Iv a,Iv n] w λv w'=>∃u,kY s cpu a n u∧qW w.heap.size u v w':=by
 have hf:=hI.bU;have hs:=hf.small;have hM:=hI.may;have ec:=hr.heap.cpus;refine Wj func26 ntmps26 ?_;refine Ww λb4 w1 b zl f=>?_;have l4:=f.lt;refine SW.alloc Z λb8 w2 N zb d=>?_;have zm:w.heap.size<=b8:=Pj b.size zb;(replace b:=Ext.trans b N;replace f:=f.ext N);have l8:=d.lt;refine Wz ?_;refine Wk (EB r s a _ (hr.ext b) hf ha (hS.ext b)) λv w3 H o=>?_;obtain⟨u,T,rfl⟩:=o;(replace b:=Ext.trans b H;replace f:=f.ext H;replace d:=d.ext H);by_cases x:u.2=0;rotate_left
 ·have O:=kY.size (cpu:=cpu) (n:=n) T x;obtain⟨z,e⟩:=u;simp only at x O⊢;refine Wz ?_;refine Wh d (aB .zero) λU g j=>?_;have b:=jc g b;refine Wz ?_;exact ah.cb Z Z Z Z j Z ⟨_,Z,b,_,O,qW.zero _ _ _⟩
 by_cases L:j1 s cpu∧1<=n;rotate_left
 ·have O:=kY.range T x L;obtain⟨z,e⟩:=u;simp only at x O⊢;subst x;unfold j1 at L;have zc:cpu<0∨(0<=cpu∧s.Heap.bl<=cpu)∨((0<=cpu∧cpu<s.Heap.bl)∧n<1):=Y;rw[<-ec]at zc;rcases zc with h|h|h
  all_goals refine Wz ?_
  all_goals
   refine Wh d (aB .zero) λU g j=>?_;have b:=jc g b;refine Wz ?_;exact ah.cb Z Z Z Z j Z ⟨_,Z,b,_,O,qW.zero _ _ _⟩
 have zd:=L.1;have zn:=L.2;unfold j1 at zd;rw[<-ec]at zd;by_cases V:n<=u.1
 ·have O:=kY.stay T x L V;obtain⟨z,e⟩:=u;simp only at x V⊢;subst x;refine Wz ?_;refine Wk (lm r s _ (hr.ext b) hs) λv w9 I o=>?_;obtain⟨p,cs',rfl,ze,_⟩:=o;have hP:=ze.nb.low b.size;(replace b:=Ext.trans b I;replace f:=f.ext I;replace d:=d.ext I);refine Wz ?_;refine Wh d (aB p) λU g j=>?_;obtain⟨b,hP⟩:=bk g b hP;refine Wz ?_;exact ah.cb Z Z Z Z j Z ⟨_,Z,b,_,O,p,Z,hP⟩
 have C:=λv o P=>kY.fault (v:=v) T x L V o P;have y:=λv u o P Q h1=>kY.free (v:=v) (u:=u) T x L V o P Q h1;have l:=λv u o P Q h1=>kY.ok (v:=v) (u:=u) T x L V o P Q h1;obtain⟨z,e⟩:=u;simp only at x V C y l⊢;subst x;refine Wz ?_;refine Wk (AF r s cpu n _ (hr.ext b) hf (hS.ext b) (za.ext b)) λv w4 J o=>?_;obtain⟨v,o,q,rfl,A⟩:=o;replace A:=A.low b.size;(replace b:=Ext.trans b J;replace f:=f.ext J;replace d:=d.ext J);replace C:=C v o;replace y:=λu=>y v u o;replace l:=λu=>l v u o;have D:=λP=>o.step hI P;obtain⟨t,R,e⟩:=v;simp only at C y l D A⊢;refine Wz ?_;have l8:=d.lt;have l4:=f.lt;refine Wr (aB q) λK w2 E S k=>?_;have zi:w.heap.size<=K:=Pj b.size S;replace b:=Ext.trans b E;replace f:=f.ext E;replace d:=d.ext E;replace A:=A.ext E;have zo:=k.lt;by_cases x:e=0;rotate_left
 ·refine Wz ?_;refine Wh d (aB .zero) λU g j=>?_;have b:=jc g b;refine Wz ?_;exact ah.cb Z Z Z Z j Z ⟨_,Z,b,_,C x,qW.zero _ _ _⟩
 obtain⟨_,_,_,zj,_,_⟩:=D x;replace y:=λu=>y u x;replace l:=λu=>l u x;subst x;have zf:=zj.bU;have m1:=zf.small.words;have wl:=A.words.len;have n8:b8≠K:=Y;have n4:b4≠K:=Y;refine Wz ?_;refine Wk (KW q.Words.A q.Words.n q.Words.c t.Words R a z _ A.words.sl Y A.words.JY) λv w5 B o=>?_
 have zk:∃X m c e1,v= .tuple #[.slice X m c,Iv e1]∧Own w5 w.heap.size 3 1 aT X m c (Aa t.Words R a z):=by
  unfold we at o;unfold Aa;by_cases h:0<=R∧0<=a∧0<=z∧R+z<=t.Words.length∧a+z<=t.Words.length
  ·rw[if_pos Y]at o;obtain⟨X,c,rfl,W⟩:=o;rw[if_pos h];exact⟨X,_,c,0,Z,W.low b.size⟩
  rw[if_neg Y]at o;rw[if_neg h];exact⟨none,0,0,1,o,Own.cq _ _ _ _ _ _⟩
 obtain⟨X,m,c,e1,rfl,W⟩:=zk;(replace b:=Ext.trans b B;replace f:=f.ext B;replace d:=d.ext B;replace k:=k.ext B;replace A:=A.ext B);refine Wz ?_;refine We (i:=0) k λw5 g F=>?_;obtain⟨d,f,b,A,W⟩:=dz g d f b A W;have k:ay w5 K 37 (ar ⟨⟨X,m,c⟩,q.Heap,q.ab⟩):=F;have zg:gK w5 w.heap.size ⟨⟨X,m,c⟩,q.Heap,q.ab⟩ (Bc t R a z):=⟨W,A.heap,A.aV⟩;refine Wz ?_;refine Wk (Cq _ (Bc t R a z) cpu a _ zg.rd (Cr zf R a z) ha (hS.ext b)) λv w6 G o=>?_;obtain⟨u,zh,p,rfl,M⟩:=o;replace M:=M.low b.size;(replace b:=Ext.trans b G;replace f:=f.ext G;replace d:=d.ext G;replace k:=k.ext G);replace y:=y u zh;replace l:=l u zh;obtain⟨t2,e2⟩:=u;simp only at y l M⊢;refine Wz ?_;refine Wh k (aB p) λU g k=>?_;obtain⟨d,b,M⟩:=aY g d b M;by_cases x:e2=0
 ·replace l:=l x;subst x;refine Wz ?_;refine Wh d (aB p) λU g j=>?_;obtain⟨b,M⟩:=bk g b M;refine Wz ?_;exact ah.cb Z Z Z Z j Z ⟨_,Z,b,_,l,p,Z,M⟩
 refine Wz ?_;refine Wh d (aB .zero) λU g j=>?_;have b:=jc g b;refine Wz ?_;exact ah.cb Z Z Z Z j Z ⟨_,Z,b,_,y x,qW.zero _ _ _⟩
variable {t:TypeId}
def kS:ByteArray:=⟨#[107]⟩
section
variable {P:Program}{L:Env}{w:World}{d:Option Nat}{T:TypeId}{pos:String}{af:Array Edge}{g:Option (Nat×Bool)}
theorem Bg[c:Bs P t]{x e:Operand}{s r:ByteArray}{j:Int}(h:cg L x=some (.string s))(b:cg L e=some (Iv j))(i:0<=j)(k:j<=s.size)(l:s.extract 0 j.toNat=r):
 St P ⟨d,.slice t x none (some e) none,T,pos,af,g⟩ L w (.string r):=
 ⟨λ_ a f o _=>by
  subst l;have m:=f.eval h;have n:=f.eval b;generalize a.eval=ρ at*;simp[execOp,m,n,Instr.sliceAt,Instr.slice,Instr.sliceBounds,Instr.sliceBound,asIntOf,run_underlying c.mg,i,k]⟩
end
theorem Jm(h:1<=n.size):decide (n.extract 0 1=kS)=mf n:=by
 obtain⟨⟨l⟩⟩:=n;cases l with
 | nil=>simp[ByteArray.size]at h
 | cons a l=>
   have e:((⟨⟨a::l⟩⟩:ByteArray).extract 0 1)=⟨#[a]⟩:=by
    apply ByteArray.ext
    simp_all
   rw[e];have b:mf ⟨⟨a::l⟩⟩=decide (a=107):=by simp[mf,Bool.beq_eq_decide_eq]
   rw[b];grind[decide_eq_false,kS]
theorem tT(n:ByteArray)(w:World)(i:n.size<=140737488351232):
 aS prog 161 [.string n,.string kS] w λv _=>v= .bool (mf n):=by
 have d:(kS.size:Int)=1:=Z;refine Wj func161 ntmps161 ?_;have f:=Ext.refl w;rcases Ps n.size with b|b
 ·have e:mf n=false:=by
   obtain⟨⟨l⟩⟩:=n;cases l with
   | nil=>rfl
   | cons a l=>simp[ByteArray.size]at b
  rw[e];repeat'(first|refine Wz ?_|refine SW.st (lA Z) Z ?_)
  exact ah.aF Z Z ⟨_,Z,f,Z⟩
 obtain⟨x,g⟩:=bq (n.extract 0 1);rw[<-Jm b,g];obtain⟨p,h⟩:=Ni kS;rw[<-h]at d⊢;have c:n.extract 0 (p.size:Int).toNat=x:=by rw[d];exact g
 repeat'(first|refine Wz ?_|refine SW.st (lA Z) Z ?_|(refine SW.st (Bg Z Z Y Y c) Z ?_)|(refine SW.st (jt Z Z) Z ?_))
 exact ah.aF Z Z ⟨_,Z,f,Z⟩
theorem Bh(n:ByteArray)(w:World)(c:n.size<=140737488351232):
 aS prog 78 [.string n,.string kS] w λv _=>v= .bool (mf n):=by
 refine Wj func78 ntmps78 ?_;have b:=Ext.refl w;repeat'(first|refine Wz ?_|(refine Wc (tT n _ c) λd a=>?_;have b:=b.trans a))
 exact ah.aF rfl rfl ⟨_,rfl,b,rfl⟩
theorem Lq(r:cc)(s:aj)(a:ff)(lo:Nat)(w:World)(z:gK w lo r s)(I:lo<=w.heap.size)(U:fT s):
 aS prog 21 [.agg (ar r).toArray,.agg (pB a).toArray] w λv w'=>∃u,qQ s a u∧∃q,v= .tuple #[.agg (ar q).toArray,Iv u.2]∧gK w' lo q u.1:=by
 obtain⟨k,cpu,n,m,i,fl,J⟩:=a;have V:=U.bU;have W:=V.small;have hM:=U.may;refine Wj func21 ntmps21 ?_;refine Ww λb2 w1 c C d=>?_;have l2:=d.lt;refine SW.box Z Z λb3 K l D h=>?_;have X:=c.up D;obtain⟨c,d⟩:=bk l c d;have l3:=h.lt;have h:ay _ b3 _ [Iv k,Iv cpu,Iv n,Iv m,Iv i,Iv fl,.string J]:=h;refine SW.alloc Z λb4 K l E f=>?_;have za:=c.up E;obtain⟨c,d,h⟩:=aY l c d h;have L:b4≠b2:=Y;by_cases A:0<=i∧i<256
 ·obtain⟨M,N⟩:=A;have A:0<=i∧i<256:=⟨M,N⟩;refine Wz ?_;refine Wk (ru r s (i*16) _ (z.rd.ext c) W hM Y) λv w6 O P=>?_;obtain⟨ix,rfl,zc⟩:=P;obtain⟨c,d,h,f⟩:=cG O c d h f;cases Q:ct s (i*16)
  ·have b:=z.ext c;repeat'(first|refine Wz ?_|(refine CW.bQ Z ?_))
   refine Wh f (aB r) λG g y=>?_;obtain⟨c,b⟩:=bk g c b;refine Wz ?_;exact ah.a9 Z Z Z y Z ⟨_,Z,c,_,.no A Q,r,Z,b⟩
  repeat'(first|refine Wz ?_|(refine CW.bo Z ?_)|refine Wm ((e7 d)) ?_)
  refine Wk (xQ r.Heap s.Heap cpu i _ (z.rd.heap.ext c) W.heap V.bA Y) λv G R P=>?_;obtain⟨H,rfl,j⟩:=P;have j:=j.low (Pj I c.size);obtain⟨c,d,h,f⟩:=cG R c d h f;have t:=λB=>qQ.ok (s:=s) (a:=⟨k,cpu,n,m,i,fl,J⟩) A Q B;have x:=λB=>qQ.fault (s:=s) (a:=⟨k,cpu,n,m,i,fl,J⟩) A Q B;simp only at t x;generalize ee s.Heap cpu i=u at j t x⊢;obtain⟨e,u1⟩:=u;simp only at j t x⊢;by_cases B:e=0
  ·subst B;refine Wz ?_;have b:=z.ext c;refine Wr (bw H) λb8 K o p S=>?_;have F:=c.up p;obtain⟨c,d,h,f,j,b⟩:=fi o c d h f j b;refine Wz ?_;refine SW.ib 1 d Z Z Z (PE Z) (bw H) (ar ⟨r.Words,H,r.ab⟩) Z λzd zb T=>?_;have hG:=d.gr T;have f:=f.grown T (by simpa using L);have c:=c.own C T;obtain⟨j,b⟩:=bk hG j b;refine Wz ?_;refine Wh f (aB ⟨r.Words,H,r.ab⟩) λG g y=>?_;obtain⟨c,j,b⟩:=aY g c j b;refine Wz ?_;exact ah.a9 Z Z Z y Z ⟨_,Z,c,_,t Z,⟨r.Words,H,r.ab⟩,Z,b.words,j,b.aV⟩
  refine Wz ?_;have b:=z.ext c;refine Wr (bw H) λb8 K o p S=>?_;have F:=c.up p;obtain⟨c,d,h,f,j,b⟩:=fi o c d h f j b;refine Wz ?_;refine Wh f (aB r) λG g y=>?_;obtain⟨c,b⟩:=bk g c b;refine Wz ?_;exact ah.a9 Z Z Z y Z ⟨_,Z,c,_,x B,r,Z,b⟩
 have hc:i<0∨(0<=i∧256<=i):=Y;rcases hc with h2|h2
 all_goals refine Wz ?_
 all_goals
  have b:=z.ext c;refine Wh f (aB r) λG g y=>?_;obtain⟨c,b⟩:=bk g c b;refine Wz ?_;exact ah.a9 Z Z Z y Z ⟨_,Z,c,_,.range A,r,Z,b⟩
theorem Fi(a:ff)(F:a.Kind=4)(t:a.Name.size<=140737488351232):sI a:=by
 intro r s lo w G B Q H;obtain⟨k,cpu,n,m,I,fl,o⟩:=a;simp only at F t⊢;subst F;have R:=Q.bU;refine Wj func22 ntmps22 ?_;refine Ww λS J f K b=>?_;have l2:=b.lt;refine SW.box Z Z λb3 T h L c=>?_;obtain⟨f,b⟩:=bk h f b;have l3:=c.lt;refine SW.alloc Z λU T h y d=>?_;have z:=f.up y;obtain⟨f,b,c⟩:=aY h f b c;have V:U≠S:=Y;obtain⟨q,C⟩:=bq (mf o)
 have M:∀D,aS prog 78 [.string o,.string kS] D λv _=>v= .bool q:=λD=>by
  rw[<-C];exact Bh o D t
 cases q
 ·repeat'(first|refine Wy ?_|refine Wm ((λ_ _=>b.cell)) ?_|refine Wl (c.cell (i:=0) (v:=Iv 4) Z) ?_|refine Wl (c.cell (i:=6) (v:= .string o) Z) ?_|(refine Wc (M _) λJ j=>?_;obtain⟨f,b,c,d⟩:=cG j f b c d))
  refine Wk (Fh r s o _ (G.rd.ext f) R t) λv w7 A W=>?_;obtain⟨u,N,q,rfl,p⟩:=W;have O:=fM.lF (s:=s) (a:=⟨4,cpu,n,m,I,fl,o⟩) Z C N;have p:=p.low (Pj B f.size);obtain⟨f,b,c,d⟩:=cG A f b c d;obtain⟨u1,e⟩:=u;simp only at O p⊢;repeat'(first|refine Wy ?_|fail);refine Wh b (aB q) λX g b=>?_;obtain⟨d,f,p⟩:=aY g d f p;repeat'(first|refine Wy ?_|refine Wm ((λ_ _=>b.cell)) ?_)
  refine Wh d (aB q) λE g l=>?_;obtain⟨f,p⟩:=bk g f p;repeat'(first|refine Wy ?_|fail);exact ah.AJ Z Z Z Z Z l Z ⟨_,Z,f,_,O,q,none,0,Z,p,Own.cq _ _ _ _ _ _⟩
 repeat'(first|refine Wy ?_|refine Wm ((λ_ _=>b.cell)) ?_|refine Wl (c.cell (i:=0) (v:=Iv 4) Z) ?_|refine Wl (c.cell (i:=6) (v:= .string o) Z) ?_|(refine Wc (M _) λJ j=>?_;obtain⟨f,b,c,d⟩:=cG j f b c d))
 refine Wg d (aB r) λE l P=>?_;have hG:=d.gr P;have x:=(G.ext f);have f:=f.own z P;(have x:=x.aQ hG Z);repeat'(first|refine Wy ?_|fail);exact ah.AJ Z Z Z Z Z l Z ⟨_,Z,f,_,fM.form (s:=s) (a:=⟨4,cpu,n,m,I,fl,o⟩) Z C,r,none,0,Z,x,Own.cq _ _ _ _ _ _⟩
theorem Fj{a:ff}(h:(3<=a.Kind∧a.Kind<=7)∨a.Kind=15)(c:a.Name.size<=140737488351232)(b: -9223372036854775808<=a.At∧a.At<=9223372036854775807):sI a:=by
 rcases(show a.Kind=3∨a.Kind=4∨a.Kind=5∨a.Kind=6∨a.Kind=7∨a.Kind=15 by omega)with h|h|h|h|h|h
 ·grind[Fc]
 all_goals grind[Fi,Fe,Ff,Fg,Dr]
theorem qX(e:Int)(s:aj):tI e s s=s:=by unfold tI<;>grind
theorem Ml(a:ff)(zp:a.Name.size<=140737488351232)(U: -9223372036854775808<=a.At∧a.At<=9223372036854775807):rz fT a:=by
 intro r s lo w Q M hI hS W;have hC:=λh=>Fj (a:=a) h zp U;obtain⟨k,cpu,n,m,P,fl,V⟩:=a;simp only at U hC;have hf:=hI.bU;have hs:=hf.small;have hM:=hI.may;refine Wj func9 ntmps9 ?_;refine Ww λb2 w1 A zq b=>?_;have l2:=b.lt;refine SW.box Z Z λb3 w2 R zg E=>?_;have zr:=A.up zg;obtain⟨A,b⟩:=bk R A b;have l3:=E.lt;refine SW.alloc Z λb4 w2 R zh f=>?_;have zs:=A.up zh;obtain⟨A,b,E⟩:=aY R A b E;have l4:=f.lt;refine SW.alloc Z λb5 w2 R zi d=>?_;have zt:=A.up zi;obtain⟨A,b,E,f⟩:=cG R A b E f;have l5:=d.lt;refine Wz ?_;refine Wr (aB r) λb6 w2 za zj o=>?_;have ze:=A.up zj;obtain⟨A,b,E,f,d⟩:=dz za A b E f d;have l6:=o.lt;refine Wz ?_;refine Wr (pC ⟨0,0,.nil⟩) λS w2 za zk j=>?_;have zu:=A.up zk;obtain⟨A,b,E,f,d,o⟩:=fi za A b E f d o;have zl:b2≠b6:=Y;have zm:b4≠b6:=Y;have zv:b2≠b4:=Y;have zw:b5≠S:=Y;repeat(first|refine SW.nil ?_|refine ah.seq ?_|refine CW.seq ?_|refine CW.region ?_|refine SW.st (aI Z) Z ?_)
 refine SW.st (aJ Z (E.cell (i:=0) (v:=Iv k) Z)) Z (SW.nil (ah.seq ?_))
 obtain⟨K,hK⟩:∃K:Env->World->Prop,K=λL' w'=>∃(q:cc)(x:Ac)(t:aj)(y:kT),eA L' [(2,Pt b2),(4,Pt b4),(5,Pt b5),(6,Pt b6),(7,Pt S)]∧Ext w w'∧
  ay w' b2 37 (ar r)∧ay w' b4 37 (ar .zero)∧ay w' b5 49 (dE ⟨0,0,.nil⟩)∧ay w' b6 37 (ar q)∧ay w' S 49 (dE x)∧gK w' lo r s∧gK w' lo q t∧jK w' lo x y∧eg s ⟨k,cpu,n,m,P,fl,V⟩ (tI y.Code s t,y):=⟨_,Z⟩
 refine CW.block (CW.vE K ?_ ?_)
 ·rcases(show((3<=k∧k<=7)∨k=15)∨(k=8∨k=11∨k=13∨k=14)∨(k=2∨k=9)∨k=10∨k=1∨k=12∨(k<1∨15<k)by omega)with hk|hk|hk|hk|hk|hk|hk
  ·have zn:=λw' N=>hC hk r s lo w' (Q.ext N) (Pj M N.size) hI (W.ext N);have zo:=λu G=>eg.aV (s:=s) (a:=⟨k,cpu,n,m,P,fl,V⟩) (u:=u) hk G;rcases(show k=3∨k=4∨k=5∨k=6∨k=7∨k=15 by omega)with rfl|rfl|rfl|rfl|rfl|rfl
   all_goals refine Wz ?_
   all_goals
    refine Wk (zn _ A) λv w7 D O=>?_;obtain⟨u,G,q,X,c,rfl,C,hX⟩:=O;obtain⟨A,b,f,d,o,j⟩:=fi D A b f d o j;have z:=Q.ext A;have F:=zo u G;obtain⟨t,p,l,e⟩:=u;simp only at F C hX⊢;refine Wz ?_;refine Wh o (aB q) λzd g o=>?_;obtain⟨b,f,A,d,j,z,C,hX⟩:=nS g b f A d j z C hX;refine Wz ?_;refine We (i:=1) j λI g B=>?_;obtain⟨d,A,b,f,o,z,C,hX⟩:=nS g d A b f o z C hX;have j:ay _ S 49 (dE ⟨0,p,.nil⟩):=B;refine Wz ?_;refine We (i:=2) j λI g B=>?_;obtain⟨d,A,b,f,o,z,C,hX⟩:=nS g d A b f o z C hX;have j:ay _ S 49 (dE ⟨0,p,⟨X,l.length,c⟩⟩):=B;refine Wz ?_;refine We (i:=0) j λI g B=>?_;obtain⟨d,A,b,f,o,z,C,hX⟩:=nS g d A b f o z C hX;have j:ay _ S 49 (dE ⟨e,p,⟨X,l.length,c⟩⟩):=B;refine Wz ?_;exact ah.fW (by rw[hK];exact⟨q,⟨e,p,⟨X,l.length,c⟩⟩,t,⟨e,p,l⟩,⟨Z,Z,Z,Z,Z,trivial⟩,A,b,f,d,o,j,z,C,⟨Z,Z,hX⟩,F⟩)
  ·rcases hk with rfl|rfl|rfl|rfl
   all_goals refine Wz ?_
   focus
    refine Wk (AF r s cpu n _ (Q.rd.ext A) hf (hS.ext A) (W.ext A)) λv w7 D O=>?_;obtain⟨u,G,q,rfl,C⟩:=O;have C:=C.low (Pj M A.size);have F:=eg.jn (s:=s) (a:=⟨8,cpu,n,m,P,fl,V⟩) Z G
   rotate_left
   focus
    refine Wk (Gz r s cpu P n _ (Q.rd.ext A) hI U (hS.ext A) (W.ext A)) λv w7 D O=>?_;obtain⟨u,G,q,rfl,C⟩:=O;have C:=C.low (Pj M A.size);have F:=eg.gz (s:=s) (a:=⟨11,cpu,n,m,P,fl,V⟩) Z G
   rotate_left
   focus
    refine Wk (Fb r s ⟨13,cpu,n,m,P,fl,V⟩ lo _ (Q.ext A) (Pj M A.size) hI U) λv w7 D O=>?_;obtain⟨u,G,q,rfl,C⟩:=O;have F:=eg.word (s:=s) (a:=⟨13,cpu,n,m,P,fl,V⟩) fy G
   rotate_left
   focus
    refine Wk (Fb r s ⟨14,cpu,n,m,P,fl,V⟩ lo _ (Q.ext A) (Pj M A.size) hI U) λv w7 D O=>?_;obtain⟨u,G,q,rfl,C⟩:=O;have F:=eg.word (s:=s) (a:=⟨14,cpu,n,m,P,fl,V⟩) fy G
   rotate_left
   all_goals
    obtain⟨A,b,f,d,o,j⟩:=fi D A b f d o j;have z:=Q.ext A;obtain⟨t,p,e⟩:=u;simp only at F C⊢;refine Wz ?_;refine Wh o (aB q) λzd g o=>?_;obtain⟨b,f,A,d,j,z,C⟩:=iX g b f A d j z C;refine Wz ?_;refine We (i:=1) j λI g B=>?_;obtain⟨d,A,b,f,o,z,C⟩:=iX g d A b f o z C;have j:ay _ S 49 (dE ⟨0,p,.nil⟩):=B;refine Wz ?_;refine We (i:=0) j λI g B=>?_;obtain⟨d,A,b,f,o,z,C⟩:=iX g d A b f o z C;have j:ay _ S 49 (dE ⟨e,p,.nil⟩):=B;refine Wz ?_;exact ah.fW (by rw[hK];exact⟨q,⟨e,p,.nil⟩,t,⟨e,p,[]⟩,⟨Z,Z,Z,Z,Z,trivial⟩,A,b,f,d,o,j,z,C,jK.plain _ _ _ _,F⟩)
  ·rcases hk with rfl|rfl
   all_goals refine Wz ?_
   focus
    refine Wk (Lq r s ⟨2,cpu,n,m,P,fl,V⟩ lo _ (Q.ext A) (Pj M A.size) hI) λv w7 D O=>?_;obtain⟨u,G,q,rfl,C⟩:=O;have F:=eg.pL (s:=s) (a:=⟨2,cpu,n,m,P,fl,V⟩) Z G
   rotate_left
   focus
    refine Wk (Cq r s cpu P _ (Q.rd.ext A) hf U (hS.ext A)) λv w7 D O=>?_;obtain⟨u,G,q,rfl,C⟩:=O;have C:=C.low (Pj M A.size);have F:=eg.nj (s:=s) (a:=⟨9,cpu,n,m,P,fl,V⟩) Z G
   rotate_left
   all_goals
    obtain⟨A,b,f,d,o,j⟩:=fi D A b f d o j;have z:=Q.ext A;obtain⟨t,e⟩:=u;simp only at F C⊢;refine Wz ?_;refine Wh o (aB q) λzd g o=>?_;obtain⟨b,f,A,d,j,z,C⟩:=iX g b f A d j z C;refine Wz ?_;refine We (i:=0) j λI g B=>?_;obtain⟨d,A,b,f,o,z,C⟩:=iX g d A b f o z C;have j:ay _ S 49 (dE ⟨e,0,.nil⟩):=B;refine Wz ?_;exact ah.fW (by rw[hK];exact⟨q,⟨e,0,.nil⟩,t,⟨e,0,[]⟩,⟨Z,Z,Z,Z,Z,trivial⟩,A,b,f,d,o,j,z,C,jK.plain _ _ _ _,F⟩)
  ·subst hk;refine Wz ?_;refine Wk (EB r s P _ (Q.rd.ext A) hf U (hS.ext A)) λv w7 D O=>?_;obtain⟨u,G,rfl⟩:=O;obtain⟨A,b,f,d,o,j⟩:=fi D A b f d o j;have z:=Q.ext A;have F:=eg.nk (s:=s) (a:=⟨10,cpu,n,m,P,fl,V⟩) Z G;obtain⟨p,e⟩:=u;simp only at F⊢;refine Wz ?_;refine We (i:=1) j λI g B=>?_;obtain⟨d,A,b,f,o,z⟩:=fi g d A b f o z;have j:ay _ S 49 (dE ⟨0,p,.nil⟩):=B;refine Wz ?_;refine We (i:=0) j λI g B=>?_;obtain⟨d,A,b,f,o,z⟩:=fi g d A b f o z;have j:ay _ S 49 (dE ⟨e,p,.nil⟩):=B;refine Wz ?_;exact ah.fW (by rw[hK];exact⟨r,⟨e,p,.nil⟩,s,⟨e,p,[]⟩,⟨Z,Z,Z,Z,Z,trivial⟩,A,b,f,d,o,j,z,z,jK.plain _ _ _ _,by rw[qX];exact F⟩)
  ·subst hk;repeat'(first|refine Wz ?_|refine Wm ((e7 b)) ?_)
   refine Wk (ry r.Heap s.Heap cpu n fl _ (Q.rd.heap.ext A) hs.heap hf.bA (W.ext A)) λv w7 D O=>?_;obtain⟨u,G,H,rfl,L⟩:=O;have L:=L.low (Pj M A.size);obtain⟨A,b,f,d,o,j⟩:=fi D A b f d o j;have z:=Q.ext A;have F:=eg.bt (s:=s) (a:=⟨1,cpu,n,m,P,fl,V⟩) Z G;obtain⟨h',p,e⟩:=u;simp only at L F⊢;refine Wz ?_;refine SW.ib 1 o Z Z Z (PE Z) (bw H) (ar ⟨r.Words,H,r.ab⟩) Z λzd T hg=>?_;have hG:=o.gr hg;have b:=b.grown hg (by simpa using zl);have f:=f.grown hg (by simpa using zm);have A:=A.own ze hg;obtain⟨d,j,z,L⟩:=cG hG d j z L;have o:=T;refine Wz ?_;refine We (i:=1) j λI g B=>?_;obtain⟨d,A,b,f,o,z,L⟩:=iX g d A b f o z L;have j:ay _ S 49 (dE ⟨0,p,.nil⟩):=B;refine Wz ?_;refine We (i:=0) j λI g B=>?_;obtain⟨d,A,b,f,o,z,L⟩:=iX g d A b f o z L;have j:ay _ S 49 (dE ⟨e,p,.nil⟩):=B;refine Wz ?_;exact ah.fW (by rw[hK];exact⟨⟨r.Words,H,r.ab⟩,⟨e,p,.nil⟩,pq s h',⟨e,p,[]⟩,⟨Z,Z,Z,Z,Z,trivial⟩,A,b,f,d,o,j,z,⟨z.words,L,z.aV⟩,jK.plain _ _ _ _,F⟩)
  ·subst hk;repeat'(first|refine Wz ?_|refine Wm ((e7 b)) ?_)
   refine Wk (I3 r.Heap s.Heap _ (Q.rd.heap.ext A) hs.heap hf.bA) λv w7 D O=>?_;obtain⟨H,rfl,L⟩:=O;have L:=L.low (Pj M A.size);obtain⟨A,b,f,d,o,j⟩:=fi D A b f d o j;have z:=Q.ext A;have F:=eg.drain (s:=s) (a:=⟨12,cpu,n,m,P,fl,V⟩) Z;obtain⟨u,G⟩:=bq (mc s.Heap);rw[G]at F L⊢;obtain⟨e,h'⟩:=u;simp only at L F⊢;refine Wz ?_;refine SW.ib 1 o Z Z Z (PE Z) (bw H) (ar ⟨r.Words,H,r.ab⟩) Z λzd T hg=>?_;have hG:=o.gr hg;have b:=b.grown hg (by simpa using zl);have f:=f.grown hg (by simpa using zm);have A:=A.own ze hg;obtain⟨d,j,z,L⟩:=cG hG d j z L;have o:=T;refine Wz ?_;refine We (i:=0) j λI g B=>?_;obtain⟨d,A,b,f,o,z,L⟩:=iX g d A b f o z L;have j:ay _ S 49 (dE ⟨e,0,.nil⟩):=B;refine Wz ?_;exact ah.fW (by rw[hK];exact⟨⟨r.Words,H,r.ab⟩,⟨e,0,.nil⟩,pq s h',⟨e,0,[]⟩,⟨Z,Z,Z,Z,Z,trivial⟩,A,b,f,d,o,j,z,⟨z.words,L,z.aV⟩,jK.plain _ _ _ _,F⟩)
  have F:=eg.Gh (s:=s) (a:=⟨k,cpu,n,m,P,fl,V⟩) hk;have z:=Q.ext A;refine Wz ?_;refine We (i:=0) j λI g B=>?_;obtain⟨d,A,b,f,o,z⟩:=fi g d A b f o z;have j:ay _ S 49 (dE ⟨2,0,.nil⟩):=B;refine Wz ?_;exact ah.fW (by rw[hK];exact⟨r,⟨2,0,.nil⟩,s,⟨2,0,[]⟩,⟨Z,Z,Z,Z,Z,trivial⟩,A,b,f,d,o,j,z,z,jK.plain _ _ _ _,by rw[qX];exact F⟩)
 subst hK;rintro L' w' ⟨q,x,t,y,jw,A,b,f,d,o,j,z,C,N,F⟩;refine ah.sub jw ?_;have zx:=N.code;by_cases he:y.Code=0
 ·rw[tI,if_pos he]at F;refine Wz ?_;refine CW.iF 2 3 (λw2=>ay w2 S 49 (dE x)) mixed bm λw1 zb zf=>?_;obtain⟨A,b,f,d,o,j,C,N⟩:=nS zb A b f d o j C N;refine Wf ?_;refine Wi 1 [] zf Z (cv Z Z ((λ_ _=>j.cell))) (λw2 hS=>cv Z Z ((λ_ _=>hS.cell))) ?_;refine SF.eW ?_;refine Wh f (aB q) λw8 g J=>?_;obtain⟨A,d,j,C,N⟩:=dz g A d j C N;have hS:=j;refine SW.nil (ah.sg hS ?_);refine SG.dQ ?_;refine Wh d (pC x) λw9 g zc=>?_;obtain⟨A,J,C,N⟩:=cG g A J C N;refine Wz ?_;exact ah.Hm Z Z Z J zc Z Z ⟨_,Z,A,_,F,q,x,Z,C,N⟩
 rw[tI,if_neg he]at F;refine Wz ?_;refine CW.iF 2 3 (λw2=>ay w2 S 49 (dE x)) mixed bm λw1 zb zf=>?_;obtain⟨A,b,f,d,o,j,z,N⟩:=nS zb A b f d o j z N;refine Wf ?_;refine Wi 1 [] zf Z (cv Z Z ((λ_ _=>j.cell))) (λw2 hS=>cv Z Z ((λ_ _=>hS.cell))) ?_;refine SF.eW ?_;refine Wh f (aB r) λw8 g J=>?_;obtain⟨A,d,j,z,N⟩:=dz g A d j z N;have hS:=j;refine SW.nil (ah.sg hS ?_);refine SG.dQ ?_;refine Wh d (pC x) λw9 g zc=>?_;obtain⟨A,J,z,N⟩:=cG g A J z N;refine Wz ?_;exact ah.Hm Z Z Z J zc Z Z ⟨_,Z,A,_,F,r,x,Z,z,N⟩
theorem Gs(b:aA s)(f:i<s.ab.length):aA (aZ s i (s.Heap,gR s.ab[i]))∧fV s (aZ s i (s.Heap,gR s.ab[i])) tP Be:=by
 have e:=(b.each i f).may;have d:mX (gR s.ab[i])=mX s.ab[i]:=Z;refine⟨qT b f b.words b.heap Z Z Z ?_ (λc o m=>?_) (by simp only[aZ];rw[gE f d];exact jb.1 λj g=>(b.each j g).av),?_⟩
 ·refine⟨e.lay,e.names,by simp only[gR,List.length_replicate];exact e.aD,λk l=>⟨(e.av k l).live,(e.av k l).next,(e.av k l).chain⟩,λk l=>?_⟩;left;simp[gR]
 ·obtain⟨j,g,_,rfl⟩:=m;exact(b.each j g).may.same Z Z
 refine(qU (t:=aZ s i (s.Heap,gR s.ab[i])) (x:=tP) (y:=λ_=>False) (c':=gR s.ab[i]) b f Z Z Z Z (λa=>?_) (λa h=>h.elim) (λj g n a=>Iff.rfl) (Av (t:=aZ s i (s.Heap,gR s.ab[i])) b.heap.live Z (gE f d)) (λ_ _ _ _=>Z)).congr (λa=>Iff.rfl) (λq a=>by simp[Be]);simp only[tP,not_false_iff,and_true,or_false];exact Iff.rfl
theorem mw:∀(k:Nat)(h:Heap)(c:aO),(∀j x,k<=j->c.ae[j]?=some x->x.ai≠c.bd)->∀x∈(di k (h,c)).2.ae,x.ai≠c.bd
 | 0,h,c,hk,x,hx=>by
   obtain⟨j,b,rfl⟩:=Pg hx;exact hk j _ (PL _) (Pp b)
 | k+1,h,c,hk,x,hx=>by
   by_cases d:k<c.ae.length
   ·by_cases e:c.ae[k].ai=c.bd
    ·rw[nK d e]at hx;refine mw k _ (dA c k) (λj y b a=>?_) x hx;simp only[dA]at a⊢;rw[List.getElem?_eraseIdx_of_ge b]at a;exact hk (j+1) y Y a
    rw[mm d e]at hx;refine mw k _ c (λj y b a=>?_) x hx;by_cases f:j=k
    ·subst f;rw[Pp d]at a;injection a with a
     rw[<-a];exact e
    exact hk j y Y a
   have e:di (k+1) (h,c)=di k (h,c):=by simp only[di,d,dite_false]
   rw[e]at hx;refine mw k _ c (λj y b a=>?_) x hx;rw[QJ Y]at a;cases a
theorem mx:∀(k:Nat){s:aj}{i:Nat}{c:aO},aA s->s.ab[i]?=some c->(∀x∈c.ao,x= -1)->aA (aZ s i (di k (s.Heap,c)))∧fV s (aZ s i (di k (s.Heap,c))) tP Be
 | 0,s,i,c,hM,hc,ha=>by
   obtain⟨f,rfl⟩:=PF.1 hc;have e:aZ s i (di 0 (s.Heap,s.ab[i]))=s:=by simp only[di,aZ,List.set_getElem_self]
   rw[e];exact⟨hM,.refl s⟩
 | k+1,s,i,c,hM,hc,ha=>by
   obtain⟨f,rfl⟩:=PF.1 hc;by_cases d:k<s.ab[i].ae.length
   ·by_cases e:s.ab[i].ae[k].ai=s.ab[i].bd
    ·have g:(0:Int)<=0∧0<s.Heap.bl:=by have:=hM.heap.cpus;omega
     have m:s.ab[i].ae[k].At∉s.ab[i].ao:=λh=>by
      have l:=ha _ h;obtain⟨b,hb,o⟩:=mG hM (Pf f) (Pf d);have:=(hM.heap.live.all b hb).2.1;omega
     have l:=(Hu hM f d m (cpu:=0) g).2;have n:=EY hM f d e (cpu:=0) g;rw[nK d e];have j:=mx k (s:=⟨s.Words,(ee s.Heap 0 s.ab[i].ae[k].At).2,s.ab.set i (dA s.ab[i] k)⟩) (i:=i) (c:=dA s.ab[i] k) l (QB f) ha;simp only[aZ,List.set_set]at j⊢;exact⟨j.1,(n.trans j.2).congr (λa=>by simp[tP]) (λq a=>by simp[tP,Be])⟩
    rw[mm d e];exact mx k hM hc ha
   have e:di (k+1) (s.Heap,s.ab[i])=di k (s.Heap,s.ab[i]):=by simp only[di,d,dite_false]
   rw[e];exact mx k hM hc ha
theorem vx(g:fT s)(w:(jI s n).2=0):fV s (jI s n).1 tP Be∧fT (jI s n).1∧∃i:Nat,∃b:i<s.ab.length,idxOf (c9 n) s.ab=(i:Int)∧∀c,(jI s n).1.ab[i]?=some c->∀x∈c.ae,x.ai≠s.ab[i].bd:=by
 have o:=g.may;by_cases h:ga s n 0=0
 ·obtain⟨_,r,_⟩:=jj h;obtain⟨i,b,_,_,d⟩:=eK r;rw[pA h b d];obtain⟨t,u⟩:=Gs o b;have k:=mx s.ab[i].ae.length (s:=aZ s i (s.Heap,gR s.ab[i])) (i:=i) (c:=gR s.ab[i]) t (by simp only[aZ];grind) (λx m=>by simp only[gR]at m;grind);have e:=na s.ab[i].ae.length (p:=(s.Heap,gR s.ab[i])) g.bU.Lu (g.bU.ID b).idle;have f:=qE g.bU.small i e.1 e.2;simp only[aZ,List.set_set]at k f⊢;refine⟨(u.trans k.2).congr (λa=>by grind) (λq a=>by grind),⟨gj k.1 f,k.1⟩,i,b,d,λc l x m=>?_⟩;rw[QB b]at l;injection l with l
  subst l;exact mw s.ab[i].ae.length s.Heap (gR s.ab[i]) (λj y z v=>by simp only[gR]at v;grind) x m
 grind[sC,absurd]
theorem Mf(c:aA s){cpu:Nat}(b:i<s.ab.length)(d:cpu<s.ab[i].ao.length){m:Option He×Int}(g:mb s s.ab[i] cpu m):mo s (qK s.ab[i]) cpu (kC s i cpu m)∧idxOf (c9 (qK s.ab[i])) s.ab=(i:Int):=by
 have e:=(c.each i b).may;have h:=e.names;have f:qK s.ab[i]∈s.ab[i].Names:=by simp[qK,h]
 have a:=Ar c b f;refine⟨.A9 (F6 (lV c) ?_ ?_) a b g,a⟩
 ·rw[Pn];exact⟨_,Pf b,dx.2 f⟩
 have:=e.aD;omega
theorem j2.step{cpu:Nat}{l:List Int}{u:aj×List Int×Int}(h:j2 i cpu k s l u):fT s->(∀c:i<s.ab.length,cpu<s.ab[i].ao.length)->u.2.2=0->
 ∃m:List Int,u.2.1=l++m∧m.Nodup∧m.length=k∧(∀a∈m,∀q,¬fU s q a)∧fV s u.1 tP (λq a=>q= .obj i∧a∈m)∧fT u.1:=by
 induction h with
 | @done s l=>exact λb _ _=>⟨[],by simp,by simp,Z,by simp,(fV.refl s).congr (λa=>Iff.rfl) (λq a=>by simp[Be]),b⟩
 | bad c f h=>
   intro b o t;exfalso;cases f<;>grind
 | @more k s l M u c f h A=>
   intro b o t;obtain⟨v,w⟩:=Mf b.may c (o c) f;obtain⟨j,G,d,x⟩:=v.step b Z;have n:=v.Ld b Z;obtain rfl:i=j:=Y;have B:kC s i cpu (some M,0)=(qO s i cpu M,(ey M.c M.k).bR,0):=Z;rw[B]at d x n;simp only at d x n
   have p:∀g:i<(qO s i cpu M).ab.length,cpu<(qO s i cpu M).ab[i].ao.length:=λg=>by
    have e:((qO s i cpu M).ab[i].ao.length:Int)=(qO s i cpu M).Heap.bl:=(n.may.each i g).may.aD;have y:=(b.may.each i c).may.aD;have:=o c;have C:=d.cpus;grind
   obtain⟨m,H,y,C,z,D,E⟩:=A n p t;refine⟨(ey M.c M.k).bR::m,by grind,Qj.2 ⟨λf=>z _ f (.obj i) ((d.aw _ _).2 (.inr ⟨Z,Z⟩)),y⟩,by grind,λa r q F=>?_,?_,E⟩
   ·rcases Qr.1 r with rfl|r
    ·grind
    exact z a r q ((d.aw q a).2 (.inl ⟨F,λh=>h⟩))
   refine(d.trans D).congr (λa=>by grind) (λq a=>?_);simp only[tP,not_false_iff,and_true,List.mem_cons];grind
theorem kb.step{many:Int}{u:aj×List Int×Int}(b:fT s)(h:kb s n cpu many u)(d:u.2.2=0):
 ∃i:Nat,idxOf (c9 n) s.ab=(i:Int)∧u.2.1.Nodup∧(u.2.1.length:Int)=many∧(∀a∈u.2.1,∀q,¬fU s q a)∧fV s u.1 tP (λq a=>q= .obj i∧a∈u.2.1)∧fT u.1:=by
 cases h with
 | ask h=>grind
 | range=>grind
 | @A9 i _ h k e f=>
   obtain⟨_,_,g⟩:=jj h;obtain⟨m,c,l,o,p,r,t⟩:=f.step b (λj=>by have:=(b.may.each i j).may.aD;omega) d;rw[Qb]at c;rw[c];grind
def Nc(l:List (List ByteArray×Int)):Prop:=∀j,j<6->∃p∈l,vK p.1 (fm (kP j))=true∧p.2=kP j
def kV(s:aj):Prop:=Nc (sJ s)
theorem kV.sJ{t:aj}(h:kV s)(e:sJ t=sJ s):kV t:=by grind[kV]
theorem kV.at_(a:aA s)(h:kV s)(b:j<6):∃i:Nat,idxOf (c9 (fm (kP j))) s.ab=(i:Int)∧tO s i=kP j:=by
 obtain⟨p,d,e,k⟩:=h j b;obtain⟨c,f,rfl⟩:=Pw.1 d;obtain⟨i,g,rfl⟩:=Pg f;exact⟨i,Ar a g (dx.1 e),by grind[tO,List.getElem?_eq_getElem]⟩
theorem HA:kP 0=1∧kP 1=2∧kP 2=4∧kP 3=8∧kP 4=16∧kP 5=32:=by decide
theorem Ay(b:aA s)(h:kV s){n:Int}(f:n<=32):∃i:Nat,idxOf (c9 (e8 n)) s.ab=(i:Int)∧n<=tO s i:=by
 have a:∃j,j<6∧e8 n=fm (kP j)∧n<=kP j:=by
  obtain⟨g,k,l,m,o,p⟩:=HA<;>grind[HA,e8]
 obtain⟨j,c,e,d⟩:=a;obtain⟨i,q,r⟩:=h.at_ b c<;>grind
theorem Cm{u:Int×Int×Int}(h:gx s a u)(e:u.2.2=0):∃i:Nat,∃j:i<s.ab.length,u.1=(i:Int)∧fU s (.obj i) a:=by
 cases h with
 | bad|none|free=>simp at e
 | @hit i k c h b f g=>
   have d:=b.obj;rw[nc b.hi b.hk]at d;exact⟨i,b.hi,Z,(jT b.hi).2 ⟨_,Pf b.hk,d,c,f,g⟩⟩
theorem Je(h:oF s a (some i)):∃b:i<s.ab.length,fU s (.obj i) a∧oE s.ab[i]=true:=by
 cases h with
 | yes c b d=>
   obtain⟨j,f,e,g⟩:=Cm c Z<;>grind
theorem Az{z:Int×Int}(f:aA s)(h:iV s a z)(g:z.2=0):∃q,fU s q a∧(∀i(b:i<s.ab.length),q= .obj i->oE s.ab[i]=true):=by
 cases h with
 | bad=>omega
 | no=>omega
 | obj _ b c=>
   obtain⟨_,k,l⟩:=Je c<;>grind
 | whole _ _ d=>exact⟨.pg _,⟨d,Z⟩,λj m e=>by cases e⟩
theorem E0{b:Int}(h:0<=a)(hb:0<b):a % b<=a:=by
 have c:=PZ a b;have d:=Qm (show 0<=b by omega) (Qt h (show 0<=b by omega));omega
theorem AA(a:c∈s.ab):∃i,∃b:i<s.ab.length,s.ab[i]=c:=Pg a
theorem vy(f:aA s)(h:fw s a true):∃q b,fU s q b∧b<=a∧a<b+jL s q:=by
 generalize e:true=t at h;cases h with
 | out=>cases e
 | @oK c x u A o m p B=>
   have C:u.2.2=0:=of_decide_eq_true e.symm;obtain⟨i,L,_,z⟩:=Cm B C;obtain⟨j,r,rfl⟩:=AA o;have D:=bM (f.each j r).may.lay;unfold gV at p;have m1:=Rg (a-x.At*16) (show s.ab[j].ax≠0 by omega);have M:=QW (a-x.At*16) (show 0<s.ab[j].ax by omega);have N:=E0 (a:=a-x.At*16) (b:=s.ab[j].ax) Y Y;refine⟨.obj i,_,z,by omega,?_⟩;obtain⟨d,l⟩:=jB f z;have O:=l.lo;have P:=l.hi;have Q:=l.ext;obtain⟨E,g,F,R⟩:=fE f (Pf r) m
   have v:d.At=x.At:=by
    rcases Classical.em (d.At=x.At)with h|h
    ·exact h
    have:=fQ f.heap l.mem g Y
    grind
   rcases l.what with⟨k,G,n,H,I,y,J,K⟩|⟨n,_,_⟩
   ·injection n with n
    subst n;obtain rfl:=oQ f G r J m (K.trans v)<;>grind
   grind
 | bt A S=>
   unfold qP at e;obtain⟨b,hb,w⟩:=Pn.1 e.symm;rw[PT,decide_eq_true_eq,decide_eq_true_eq]at w;have D:=(f.heap.live.all b hb).2.1;refine⟨.pg b.Order,16*b.At,(kU f.heap.live).2 ⟨by omega,λc o x m F=>?_,b,hb,by omega,Z⟩,by omega,?_⟩
   ·obtain⟨E,g,H,I⟩:=fE f o m;have T:=gD f.heap.live hb;have U:=gD f.heap.live g;grind[gD,gV]
   grind[jL]
theorem fw.c7(l:aA s){x y:Bool}(h:fw s a x)(k:fw s a y):x=y:=by
 cases h with
 | out h=>cases k<;>grind
 | @oK c x u h q r w t=>cases k with
   | out h'=>omega
   | @oK c' v B _ e f m n=>
     unfold gV at w m;obtain⟨b,hb,C,D⟩:=fE l q r;obtain⟨d,z,E,F⟩:=fE l e f
     have g:x.At=v.At:=by
      rcases Classical.em (x.At=v.At)with h|h
      ·exact h
      have:=fQ l.heap hb z Y
      grind
     obtain⟨i,o,rfl⟩:=AA q;obtain⟨j,p,rfl⟩:=AA e;obtain rfl:=oQ l o p r f g;rw[g]at t;rw[t.c7 n]
   | bt _ A=>grind
 | bt h A=>cases k<;>grind
theorem ni.c7(c:aA s){a:ff}{u v:aj×Int×Int}(h:ni s a u)(k:ni s a v):u=v:=by
 cases h with
 | no h=>cases k with
   | no=>rfl
   | read h'|range h'|write h'=>cases h.c7 c h'
 | read h e=>cases k with
   | no h'=>cases h.c7 c h'
   | read=>rfl
   | range _ b|write _ b=>omega
 | range h e f=>cases k with
   | no h'=>cases h.c7 c h'
   | read _ b=>omega
   | range=>rfl
   | write _ _ d=>grind
 | write h e f=>cases k with
   | no h'=>cases h.c7 c h'
   | read _ b=>omega
   | range _ _ d=>grind
   | write=>rfl
theorem Jf(d:fT s){b m:Int}(f:fU s q b)(i:b<=a)(j:a<b+jL s q):fT ⟨s.Words.set a.toNat m,s.Heap,s.ab⟩∧fV s ⟨s.Words.set a.toNat m,s.Heap,s.ab⟩ (λz=>z=b) (λr z=>r=q∧z=b):=by
 have e:=d.may;have k:=jo e f
 obtain⟨g,h⟩:=Ax e f (ws:=s.Words.set a.toNat m) (by rw[PS];exact e.words) (λc l n=>by
  grind)
 exact⟨⟨gj g ⟨by simp only[List.length_set];exact d.bU.small.words,d.bU.small.heap,d.bU.small.aV,d.bU.small.each⟩,g⟩,h⟩
theorem ni.j7(c:fT s){a:ff}{u:aj×Int×Int}(h:ni s a u):fT u.1∧sJ u.1=sJ s:=by
 cases h with
 | no|read|range=>exact⟨c,Z⟩
 | write h=>
   obtain⟨q,b,d,e,f⟩:=vy c.may h;exact⟨(Jf c d e f).1,Z⟩
theorem kY.j7(b:fT s)(g:kV s){n:Int}{u:aj×Int×Int}(h:kY s cpu a n u)(k:u.2.2=0):fT u.1∧sJ u.1=sJ s:=by
 have c:∃z,iV s a z∧z.2=0:=by
  cases h<;>grind
 obtain⟨z,l,d⟩:=c;obtain⟨q,m,o⟩:=Az b.may l d
 rcases h.step b m o (λi p t=>by
  obtain⟨j,e,f⟩:=Ay b.may g p<;>grind) k with⟨rfl,_⟩|⟨r,e,f,_⟩
 ·grind
 exact⟨f,e.shape⟩
theorem Nh{x S:Int}(b:1<=S)(c:16*x+(j:Int)*S<=a)(d:a<=16*x+(j:Int)*S+S-1):a-(a-x*16) % S=16*x+(j:Int)*S:=by
 have e:a-x*16=(a-16*x-(j:Int)*S)+S*(j:Int):=by grind
 rw[e,Int.add_mul_emod_self_left,Int.emod_eq_of_lt Y Y];omega
theorem Mj(c:aA s)(g:i<s.ab.length){x:Slab}(p:x∈s.ab[i].ae)(k:gV s.ab[i] x a)
 (r:∀j:Nat,(j:Int)<s.ab[i].bd->¬(16*x.At+(j:Int)*s.ab[i].ax<=a∧a<=16*x.At+(j:Int)*s.ab[i].ax+s.ab[i].ax-1)):gx s (a-(a-x.At*16) % s.ab[i].ax) (0,0,4):=by
 have u:=bM (c.each i g).may.lay;unfold gV at k;have m1:=Rg (a-x.At*16) (show s.ab[i].ax≠0 by omega);have v:=QW (a-x.At*16) (show 0<s.ab[i].ax by omega);have w:=E0 (a:=a-x.At*16) (b:=s.ab[i].ax) Y Y;refine .none (lV c) λf l=>?_;cases e:kB s (a-(a-x.At*16) % s.ab[i].ax) f l with
 | false=>rfl
 | true=>
   exfalso;unfold kB at e;split at e
   ·rename_i m;split at e
    ·rename_i q;obtain⟨y,z⟩:=lx (c.each f m).may.lay e;obtain⟨A,n,B,C⟩:=fE c (Pf g) p;obtain⟨D,o,E,F⟩:=fE c (Pf m) (Pf q)
     have d:s.ab[f].ae[l].At=x.At:=by
      rcases Classical.em (s.ab[f].ae[l].At=x.At)with h|h
      ·exact h
      have:=fQ c.heap n o Y
      grind
     obtain rfl:=oQ c g m p (Pf q) d.symm;unfold fG at e;rw[d]at e;simp only[Bool.and_eq_true,decide_eq_true_eq]at e;obtain⟨⟨t,G⟩,H⟩:=e;have I:=PZ (a-(a-x.At*16) % s.ab[i].ax-x.At*16) s.ab[i].ax;have J:=Qt t (show 0<=s.ab[i].ax by omega)
     grind[Int.ediv_lt_of_lt_mul,Int.eq_ofNat_of_zero_le,Int.mul_comm]
    grind
   grind
theorem r3(r:cc)(s:aj)(a:Int)(w:World)(U:mB w r s)(hf:s.bU)(J:aA s)(ha: -9223372036854775808<=a∧a<=9223372036854775807):
 aS prog 52 [.agg (ar r).toArray,Iv a] w λv _=>∃b,fw s a b∧v= .bool b:=by
 refine Wj func52 ntmps52 ?_;refine Ww λH t g zj d=>?_;have hs:=hf.small;obtain⟨cs,T⟩:=U.aV;obtain⟨z1,z2⟩:=T.len;have zl:=J.words;have m3:=hs.aV;have m5:=hs.heap.live;have zm:=U.heap.live.len;have zn:=U.heap.live.base;have hA:=T.row.base;refine Wz ?_
 refine CW.loop (λi:Nat=>[(1,Iv a),(2,Pt H),(5,Iv (i:Int))])
  (λi n=>i<=r.ab.n∧Ext w n∧ay n H 37 (ar r)∧∀(j:Nat)(h:j<s.ab.length),j<i->∀x∈s.ab[j].ae,¬gV s.ab[j] x a) (λi=>r.ab.n-i) 0
  ⟨Z,Z,Z,trivial⟩ ⟨by omega,g,d,λj h h'=>by omega⟩ ?_
 rintro i n ⟨hk,g,d,hI⟩;by_cases zb:i<r.ab.n
 ·have zc:i<cs.length:=Y;have y:i<s.ab.length:=Y;have C:=T.each.get i zc y;have sm:=hs.each _ (Pf y);have K:=(J.each i y).may;obtain⟨l1,l2,l3⟩:=bM K.lay;have zo:=jl K.lay;have eS:=C.size;have eP:=C.per;have eO:=C.order;have n2:=C.av.len;have m2:=sm.av;have hS:1<=cs[i].ax∧cs[i].ax<=64:=Y;have hO:0<=cs[i].Order∧cs[i].Order<=4:=Y;have hp:=bP hO.1 hO.2;have zp:=C.av.base;have I:∀n,aS prog 123 [Iv cs[i].Order] n λv _=>v=Iv (pw cs[i].Order):=λn=>dk _ Y n;obtain⟨p,o⟩:=bq (pw cs[i].Order);rw[o]at I hp;repeat'(first|refine Wz ?_|refine Wo g ((T.row.all zb)) ?_)
  refine Wr (ox _) λb6 w2 z V l=>?_;have zk:=g.up V;obtain⟨g,d⟩:=bk z g d;refine Wz ?_
  refine CW.loop (λk:Nat=>[(1,Iv a),(2,Pt H),(5,Iv (i:Int)),(6,Pt b6),(7,Iv (k:Int))])
   (λk n=>k<=cs[i].ae.n∧Ext w n∧ay n H 37 (ar r)∧ay n b6 58 (cr cs[i])∧∀(j:Nat)(h:j<s.ab[i].ae.length),j<k->¬gV s.ab[i] s.ab[i].ae[j] a) (λk=>cs[i].ae.n-k) 0
   ⟨Z,Z,Z,Z,Z,trivial⟩ ⟨by omega,g,d,l,λj h h'=>by omega⟩ ?_
  rintro k n ⟨zq,g,d,l,hJ⟩;by_cases L:k<cs[i].ae.n
  ·have M:k<s.ab[i].ae.length:=Y;obtain⟨x,N⟩:=bq (s.ab[i].ae[k]);have D:x∈s.ab[i].ae:=by rw[<-N];exact Pf M
   have gS:=C.av.all L;rw[N]at gS;have ht:=(K.mX (J.heap)) x D;obtain⟨bs,A⟩:=bq (decide (16*x.At<=a∧a<=16*x.At+16*p-1))
   have c2:∀n,aS prog 40 [Iv a,Iv (16*x.At),Iv (16*x.At+16*p-1)] n λv _=>v= .bool bs:=λn=>by
    have:=bE a (16*x.At) (16*x.At+16*p-1) n;rwa[A]at this
   cases bs
   ·have E:¬gV s.ab[i] x a:=λh=>by
     unfold gV at h;rw[<-eO,o]at h;exact of_decide_eq_false A ⟨h.1,by omega⟩
    refine Wz ?_;(apply CW.dF mixed;(·kernel_rfl);rotate_left;intro t f;obtain⟨g,d,l⟩:=aY f g d l;rotate_right);repeat'(first|refine Wz ?_|(refine CW.bQ Z ?_)|refine Wn g (gS 0 (Iv x.At) Z) ?_|refine SW.ba Z Z (λt f=>(I _)) ?_|refine SW.ba Z Z (λt f=>(c2 _)) ?_|exact SW.br Z)
    skip
    exact ah.again (k+1) ⟨Z,Z,Z,Z,Z,trivial⟩ Y ⟨by omega,g,d,l,λj h h'=>by
     by_cases e:j=k
     ·subst e;rw[N];exact E
     exact hJ j h Y⟩
   have zd:=of_decide_eq_true A
   have E:gV s.ab[i] x a:=by
    unfold gV;rw[<-eO,o];exact⟨zd.1,by omega⟩
   have hb:0<=a∧a<s.Words.length:=by
    obtain⟨b0,ze,W,e2⟩:=fE J (Pf y) D;obtain⟨O,q2,q3,_⟩:=J.heap.live.all b0 ze;have:=oP O.1 O.2 q2.1 (show b0.At<256 by omega) q3;rw[W,e2,<-eO,o]at this;omega
   refine Wz ?_;(apply CW.dF mixed;(·kernel_rfl);rotate_left;intro t f;obtain⟨g,d,l⟩:=aY f g d l;rotate_right);repeat'(first|refine Wz ?_|(refine CW.bo Z ?_)|refine Wn g (gS 0 (Iv x.At) Z) ?_|refine SW.ba Z Z (λt f=>(I _)) ?_|refine SW.ba Z Z (λt f=>(c2 _)) ?_|exact SW.br Z)
   skip
   refine CW.loop (λj:Nat=>[(1,Iv a),(2,Pt H),(5,Iv (i:Int)),(6,Pt b6),(7,Iv (k:Int)),(8,Iv (j:Int))])
    (λj n=>(j:Int)<=cs[i].bd∧Ext w n∧ay n H 37 (ar r)∧ay n b6 58 (cr cs[i])∧∀m:Nat,m<j->¬(16*x.At+(m:Int)*cs[i].ax<=a∧a<=16*x.At+(m:Int)*cs[i].ax+cs[i].ax-1)) (λj=>cs[i].bd.toNat-j) 0
    ⟨Z,Z,Z,Z,Z,Z,trivial⟩ ⟨by omega,g,d,l,λm h=>by omega⟩ ?_
   rintro j n ⟨hj,g,d,l,X⟩;by_cases zr:(j:Int)<cs[i].bd
   ·have zs:0<=(j:Int)*cs[i].ax:=Qm Y Y;have zt:(j:Int)*cs[i].ax<=64*64:=Int.mul_le_mul Y Y Y Y;obtain⟨bj,P⟩:=bq (decide (16*x.At+(j:Int)*cs[i].ax<=a∧a<=16*x.At+(j:Int)*cs[i].ax+cs[i].ax-1))
    have c2:∀n,aS prog 40 [Iv a,Iv (16*x.At+(j:Int)*cs[i].ax),Iv (16*x.At+(j:Int)*cs[i].ax+cs[i].ax-1)] n λv _=>v= .bool bj:=λn=>by
     have:=bE a (16*x.At+(j:Int)*cs[i].ax) (16*x.At+(j:Int)*cs[i].ax+cs[i].ax-1) n;rwa[P]at this
    refine Wz ?_;(apply CW.dF mixed;(·kernel_rfl);rotate_left;intro t f;obtain⟨g,d,l⟩:=aY f g d l;rotate_right);repeat'(first|refine Wz ?_|refine Wn g (gS 0 (Iv x.At) Z) ?_|exact SW.br Z)
    cases bj
    ·have hn:¬(16*x.At+(j:Int)*cs[i].ax<=a∧a<=16*x.At+(j:Int)*cs[i].ax+cs[i].ax-1):=of_decide_eq_false P;repeat'(first|refine Wz ?_|(refine Wc (c2 _) λt f=>?_;obtain⟨g,d,l⟩:=aY f g d l))
     exact ah.again (j+1) ⟨Z,Z,Z,Z,Z,Z,trivial⟩ Y ⟨by omega,g,d,l,λm h=>by
      by_cases e:m=j
      ·subst e;exact hn
      exact X m Y⟩
    have hd:=of_decide_eq_true P;have hg:=Nh (a:=a) (x:=x.At) (S:=cs[i].ax) (j:=j) hS.1 Y Y;repeat'(first|refine Wz ?_|(refine Wc (c2 _) λt f=>?_;obtain⟨g,d,l⟩:=aY f g d l))
    refine Wk (qH r s (16*x.At+(j:Int)*cs[i].ax) _ (U.ext g) hf) λv w4 z hv=>?_;obtain⟨u,hu,rfl⟩:=hv;obtain⟨u1,u2,u3⟩:=u;simp only[qG];obtain⟨g,d,l⟩:=aY z g d l;have zf:gx s (a-(a-x.At*16) % s.ab[i].ax) (u1,u2,u3):=by rw[<-eS,hg];exact hu
    have F:=fw.oK hb (Pf y) D E zf;simp only at F;by_cases h0:u3=0
    ·refine Wz ?_;exact ah.aF Z Z ⟨_,Z,g,_,F,by simp[h0]⟩
    refine Wz ?_;exact ah.aF Z Z ⟨_,Z,g,_,F,by simp[h0]⟩
   have hu:=Mj J y D E (λm hm=>by
    rw[<-eS];exact X m Y)
   have F:=fw.oK hb (Pf y) D E hu;refine Wz ?_;exact ah.aF Z Z ⟨_,Z,g,_,F,Z⟩
  refine Wz ?_
  exact ah.again (i+1) ⟨Z,Z,Z,trivial⟩ Y ⟨by omega,g,d,λj h h'=>by
   by_cases e:j=i
   ·subst e;intro x N;obtain⟨q,hq,rfl⟩:=Pg N;exact hJ q hq Y
   exact hI j h Y⟩
 have za:∀c∈s.ab,∀x∈c.ae,¬gV c x a:=λc T x N=>by
  obtain⟨j,hj,rfl⟩:=Pg T;exact hI j hj Y x N
 refine Wz ?_
 refine CW.loop (λk:Nat=>[(1,Iv a),(2,Pt H),(13,Iv (k:Int))])
  (λk n=>k<=r.Heap.Live.n∧Ext w n∧ay n H 37 (ar r)∧∀(j:Nat)(h:j<s.Heap.Live.length),j<k->¬(16*s.Heap.Live[j].At<=a∧a<=16*(s.Heap.Live[j].At+pw s.Heap.Live[j].Order)-1)) (λk=>r.Heap.Live.n-k) 0
  ⟨Z,Z,Z,trivial⟩ ⟨by omega,g,d,λj h h'=>by omega⟩ ?_
 rintro k n ⟨zu,g,d,X⟩;by_cases L:k<r.Heap.Live.n
 ·have M:k<s.Heap.Live.length:=Y;obtain⟨b,Q⟩:=bq (s.Heap.Live[k]);have G:b∈s.Heap.Live:=by rw[<-Q];exact Pf M
  have gB:=U.heap.live.all L;rw[Q]at gB;obtain⟨O,q2,q3,_⟩:=J.heap.live.all b G;have zg:=oP O.1 O.2 q2.1 (show b.At<256 by omega) q3;have I:∀n,aS prog 123 [Iv b.Order] n λv _=>v=Iv (pw b.Order):=λn=>dk _ Y n;have zh:=bP O.1 O.2;obtain⟨p,o⟩:=bq (pw b.Order);rw[o]at I zg zh;obtain⟨bs,A⟩:=bq (decide (16*b.At<=a∧a<=16*(b.At+p)-1))
  have c2:∀n,aS prog 40 [Iv a,Iv (16*b.At),Iv (16*(b.At+p)-1)] n λv _=>v= .bool bs:=λn=>by
   have:=bE a (16*b.At) (16*(b.At+p)-1) n;rwa[A]at this
  repeat'(first|refine Wz ?_|refine Wo g gB ?_)
  refine Wr (gG.one (enc:=aL) _) λzv w2 z R B=>?_;have zi:=g.up R;obtain⟨g,d⟩:=bk z g d;refine Wz ?_;cases bs
  ·have hn:¬(16*b.At<=a∧a<=16*(b.At+p)-1):=of_decide_eq_false A;(apply CW.dF mixed;(·kernel_rfl);rotate_left;intro t f;obtain⟨g,d,B⟩:=aY f g d B;rotate_right);repeat'(first|refine Wz ?_|refine SW.ba Z Z (λt f=>(I _)) ?_|refine SW.ba Z Z (λt f=>(c2 _)) ?_|exact SW.br Z)
   skip
   exact ah.again (k+1) ⟨Z,Z,Z,trivial⟩ Y ⟨by omega,g,d,λj h h'=>by
    by_cases e:j=k
    ·subst e;rw[Q,o];exact hn
    exact X j h Y⟩
  have hd:=of_decide_eq_true A;have F:=fw.bt (a:=a) ⟨by omega,by omega⟩ za
  have W:qP s.Heap.Live (a / 16)=true:=by
   unfold qP;rw[Pn];refine⟨b,G,?_⟩;rw[PT,decide_eq_true_eq,decide_eq_true_eq,o];omega
  rw[W]at F;refine fq ?_;repeat'(first|refine Wz ?_|refine SW.ba Z Z (λt f=>(I _)) ?_|refine SW.ba Z Z (λt f=>(c2 _)) ?_|(refine SW.br λt f=>?_;obtain⟨g,d,B⟩:=aY f g d B))
  skip;exact ah.aF Z Z ⟨_,Z,g,_,F,Z⟩
 have F:fw s a false:=by
  by_cases hb:0<=a∧a<s.Words.length
  ·have:=fw.bt hb za
   have W:qP s.Heap.Live (a / 16)=false:=by
    cases e:qP s.Heap.Live (a / 16)with
    | false=>rfl
    | true=>
      exfalso;unfold qP at e;obtain⟨b,G,e⟩:=Pn.1 e;rw[PT,decide_eq_true_eq,decide_eq_true_eq]at e;obtain⟨j,hj,rfl⟩:=Pg G;exact X j hj Y ⟨by omega,by omega⟩
   rwa[W]at this
  exact .out hb
 refine Wz ?_;exact ah.aF Z Z ⟨_,Z,g,_,F,Z⟩
theorem Dm(t:fT s){n:Int}{v:aj×Int×Int}(h:dO s cpu n v)(p:v.2.2=0){b:Int}(r:fU s q a)(z:a<=b)(A:b<a+jL s q):
 v.1.Words[b.toNat]?=s.Words[b.toNat]?:=by
 have j:=t.may;have B:=jo j r;cases h with
 | bad|range|size=>simp at p
 | fault _ _ _ c=>grind
 | bt=>rfl
 | obj _ _ w=>
   cases w with
   | ask h=>grind
   | @A9 i m C e x y=>
     cases y with
     | room _ _ c=>exact absurd p c
     | chain=>grind[kC]
     | xF=>rfl
     | @new u D k c l=>
       obtain⟨d,g⟩:=jB j r;obtain⟨_,_,⟨ty,_,f⟩,o⟩:=k.from_ c;have:=fQ (k.may c) (a:=d) (b:=⟨u.2.1,s.ab[i].Order,ty⟩) (by rw[f];exact jU.2 (.inr g.mem)) (by rw[f];exact jU.2 (.inl Z)) (o d g.mem);have E:=g.lo;have F:=g.hi;simp only at this;exact(Ao j x k c l).1 b Y Y
def Bf(l m:List Int)(t f j:Nat):List Int:=l.take t++(m.drop f).take j++l.drop (t+j)
theorem Nf(l m:List Int)(t f:Nat):Bf l m t f 0=l:=by simp[Bf]
theorem Lm{l m:List Int}{t f:Nat}(d:t+j<l.length)(e:f+j<m.length):(Bf l m t f j).set (t+j) (m[f+j])=Bf l m t f (j+1):=by
 refine Q4 λi=>?_;have a:(l.take t).length=t:=by grind
 have b:((m.drop f).take j).length=j:=by grind
 have c:((m.drop f).take (j+1)).length=j+1:=by grind
 simp only[Bf,List.getElem?_set,List.getElem?_append,List.length_append,List.getElem?_take,List.getElem?_drop,a,b,c,List.length_drop]
 grind
theorem Ln{l m:List Int}{t f:Nat}(h:∀i,i<k->l[f+i]?=m[f+i]?):Bf l m t f k=oM l t f k:=by
 have:(m.drop f).take k=(l.drop f).take k:=by
  refine Q4 λi=>?_
  grind
 grind[Bf,oM]
structure OK(s:aj)(a z:Int)(t:aj)(to:Int):Prop where
 a0:0<=a∧a+z<=4096
 O2:0<=to∧to+z<=4096
 z0:0<=z
 ls:s.Words.length=4096
 lt:t.Words.length=4096
 sys:fT t
 O3:Aa t.Words to a z=Bf t.Words s.Words to.toNat a.toNat z.toNat
theorem Mi(k:fT s)(x:kV s){n:Int}{z:Int×Int}{v:aj×Int×Int}(h:iV s a z)(y:z.2=0)(A:¬n<=z.1)(t:dO s cpu n v)(u:v.2.2=0):OK s a z.1 v.1 v.2.1:=by
 have d:=k.may;obtain⟨q,l,B⟩:=Az d h y;have C:=sE d l B h;subst C;obtain⟨r,w,J,c,D,e⟩:=t.step k u;have E:=jo d l;have m:fU v.1 r v.2.1:=(w.aw r _).2 (.inr ⟨Z,Z⟩)
 have F:n<=jL s r:=by
  rcases e with⟨i,rfl,f,G⟩|⟨rfl,o⟩
  ·obtain⟨j,K,H⟩:=Ay d x f;obtain rfl:i=j:=Y;exact H
  exact Cl o
 have L:=w.ext r;have I:=jo c.may m;have g:=c.may.words;have p:=d.words;simp only at A⊢;refine⟨by omega,by omega,by omega,p,g,c,?_⟩;rw[Hz Y Y Y Y Y,Ln];intro i G;have:=Dm k t u l (b:=a+i) Y Y
 grind
theorem AH (r:cc) (s:aj) (cpu a n:Int) (w:World) (hr:mB w r s) (hI:fT s) (hN:kV s) (ha : -9223372036854775808<=a∧a<=9223372036854775807) :
 aS prog 50 [.agg (ar r).toArray,.int .i64 cpu,.int .i64 a,.int .i64 n] w λv w' => ∃ u,kY s cpu a n u∧qW w.heap.size u v w':=by
 have hf:=hI.bU;have hs:=hf.small;have hM:=hI.may;have ec:=hr.heap.cpus;have OL:=hM.heap.cpus;refine tV func50 rfl ntmps50 rfl ?_;refine CW.seq (CW.region (SW.box rfl rfl λb4 w1 hw OM tU => ?_));have l4:=tU.lt;refine SW.alloc rfl λb8 w2 N6 N7 lE => ?_;have EL:w.heap.size<=b8:=Pj hw.size N7;(replace hw:=Ext.trans hw N6;replace tU:=tU.ext N6);clear N6;have l8:=lE.lt;refine Wz ?_;refine SW.call rfl rfl (vm r s a _ (hr.ext hw) hf ha) λv w3 NL hv => ?_;obtain ⟨u,hu,rfl⟩:=hv;(replace hw:=Ext.trans hw NL;replace tU:=tU.ext NL;replace lE:=lE.ext NL);clear NL;obtain ⟨ic,N8⟩ : ∃ ic,decide (0<=cpu∧cpu<=r.Heap.bl-1)=ic:=⟨_,rfl⟩
 have cI:∀ w',aS prog 40 [.int .i64 cpu,.int .i64 0,.int .i64 (r.Heap.bl-1)] w' λv _=>v = .bool ic:=λw'=>by
  have:=bE cpu 0 (r.Heap.bl-1) w';rwa [N8] at this
 by_cases he:u.2=0;rotate_left
 ·have hR:=kY.size (cpu:=cpu) (n:=n) hu he;obtain ⟨z,e⟩:=u;simp only at he hR ⊢;refine Wz ?_;refine SW.dY lE rfl rfl rfl rfl (aB .zero) λw7 AI hg => ?_;replace hw:=hw.own EL hg;refine Wz ?_;exact ah.cb rfl rfl rfl rfl AI rfl ⟨_,rfl,hw,_,hR,qW.zero _ _ _⟩
 by_cases hc:j1 s cpu∧1<=n;rotate_left
 ·have hR:=kY.range hu he hc;obtain ⟨z,e⟩:=u;simp only at he hR ⊢;subst he;unfold j1 at hc
  have ON:ic=false∨(ic=true∧n<1):=by
   cases ic
   ·exact .inl rfl
   ·have:=of_decide_eq_true N8;exact .inr ⟨rfl,by omega⟩
  rcases ON with rfl|⟨rfl,h⟩
  all_goals repeat' (first|refine Wz ?_|refine SW.want rfl rfl ?_|refine SW.skip rfl rfl rfl rfl ?_|(refine SW.call rfl rfl (cI _) ?_;intro v w1 pP hv;subst hv;replace hw:=Ext.trans hw pP;replace tU:=tU.ext pP;replace lE:=lE.ext pP;clear pP))
  all_goals
   refine SW.dY lE rfl rfl rfl rfl (aB .zero) λw7 AI hg => ?_;replace hw:=hw.own EL hg;refine Wz ?_;exact ah.cb rfl rfl rfl rfl AI rfl ⟨_,rfl,hw,_,hR,qW.zero _ _ _⟩
 have Oq:=hc.1;have O4:=hc.2;unfold j1 at Oq;rw [<- ec] at Oq;obtain rfl:ic=true:=by rw [<- N8];exact decide_eq_true (by omega)
 by_cases hn:n<=u.1
 ·have hR:=kY.stay hu he hc hn;obtain ⟨z,e⟩:=u;simp only at he hn ⊢;subst he;repeat' (first|refine Wz ?_|refine SW.want rfl rfl ?_|(refine SW.call rfl rfl (cI _) ?_;intro v w1 pP hv;subst hv;replace hw:=Ext.trans hw pP;replace tU:=tU.ext pP;replace lE:=lE.ext pP;clear pP))
  refine SW.call rfl rfl (cX r s _ (hr.ext hw) hs) λv w9 NM hv => ?_;obtain ⟨p,cs',rfl,Ot,_⟩:=hv;have hP:=Ot.nb.low hw.size;(replace hw:=Ext.trans hw NM;replace tU:=tU.ext NM;replace lE:=lE.ext NM);clear NM Ot;refine Wz ?_;refine SW.dY lE rfl rfl rfl rfl (aB p) λw7 AI hg => ?_;have hG:=lE.gr hg;replace hw:=hw.own EL hg;(replace hP:=hP.aQ hG rfl);refine Wz ?_;exact ah.cb rfl rfl rfl rfl AI rfl ⟨_,rfl,hw,_,hR,p,rfl,hP⟩
 have ND:=λv hv h0=>kY.fault (v:=v) hu he hc hn hv h0;have Js:=λv u hv h0 N9 h1=>kY.free (v:=v) (u:=u) hu he hc hn hv h0 N9 h1;have Ju:=λv u hv h0 N9 h1=>kY.ok (v:=v) (u:=u) hu he hc hn hv h0 N9 h1;have Lp:=λv (hv:dO s cpu n v) h0=>Mi (v:=v) hI hN hu he hn hv h0;obtain ⟨z,e⟩:=u;simp only at he hn ND Js Ju Lp ⊢;subst he;repeat' (first|refine Wz ?_|refine SW.want rfl rfl ?_|(refine SW.call rfl rfl (cI _) ?_;intro v w1 pP hv;subst hv;replace hw:=Ext.trans hw pP;replace tU:=tU.ext pP;replace lE:=lE.ext pP;clear pP))
 refine SW.call rfl rfl (rZ r s cpu n _ (hr.ext hw) hf) λv w4 NN hv => ?_;obtain ⟨v,hv,q,rfl,hq⟩:=hv;replace hq:=hq.low hw.size;(replace hw:=Ext.trans hw NN;replace tU:=tU.ext NN;replace lE:=lE.ext NN);clear NN;replace ND:=ND v hv;replace Js:=λu=>Js v u hv;replace Ju:=λu=>Ju v u hv;replace Lp:=Lp v hv;obtain ⟨t,to,e⟩:=v;simp only at ND Js Ju Lp hq ⊢;refine Wz ?_;have l8:=lE.lt;have l4:=tU.lt;refine SW.alloc rfl λNE w1 pP ME rH => ?_;skip;refine SW.dY rH rfl rfl rfl rfl (aB q) λw2 Fa hg => ?_;have NF:=pP.own ME hg;have Ou:w.heap.size<=NE:=Pj hw.size ME;replace hw:=Ext.trans hw NF;replace tU:=tU.ext NF;replace lE:=lE.ext NF;replace hq:=hq.ext NF;replace rH:=Fa;clear Fa pP hg NF;have O5:=rH.lt;by_cases he:e=0;rotate_left
 ·refine Wz ?_;refine SW.dY lE rfl rfl rfl rfl (aB .zero) λw7 AI hg => ?_;replace hw:=hw.own EL hg;refine Wz ?_;exact ah.cb rfl rfl rfl rfl AI rfl ⟨_,rfl,hw,_,ND he,qW.zero _ _ _⟩
 replace Js:=λu=>Js u he;replace Ju:=λu=>Ju u he;obtain ⟨a0,t0,z0,O6,O7,OO,Ov⟩:=Lp he;subst he;have OP:=OO.bU;have n8:b8≠NE:=by omega
 have n4:b4≠NE:=by omega
 obtain ⟨an,rfl⟩:=Pm a0.1;obtain ⟨tn,rfl⟩:=Pm t0.1;obtain ⟨zn,rfl⟩:=Pm z0;simp only [Int.toNat_natCast,Int.ofNat_eq_natCast] at Ov;have O8:=hr.words.len;have O9:=hq.own.words.len;have Pa:=hr.words.base;have Pb:=hq.own.words.sl.base;refine Wz ?_
 refine CW.loop (λj:Nat=>[(1,.int .i64 cpu),(2,.int .i64 (an:Int)),(4,.pointer (some ⟨b4,0,none⟩)),(8,.pointer (some ⟨b8,0,none⟩)),(11,.int .i64 (zn:Int)),(13,.pointer (some ⟨NE,0,none⟩)),(14,.int .i64 (tn:Int)),(15,.int .i64 (j:Int))])
  (λj w'=>j<=zn∧Ext w w'∧ay w' b4 37 (ar r)∧ay w' b8 37 (ar .zero)∧ay w' NE 37 (ar q)∧kX w' w.heap.size q ⟨Bf t.Words s.Words tn an j,t.Heap,t.ab⟩) (λj=>zn-j) 0
  ⟨rfl,rfl,rfl,rfl,rfl,rfl,rfl,rfl,trivial⟩ ⟨PL _,hw,tU,lE,rH,by rw [Nf];exact hq⟩ ?_
 clear hw tU lE rH hq;rintro j w' ⟨hj,hw,tU,lE,rH,hq⟩;by_cases Pc:j<zn
 ·have Pd:an+j<s.Words.length:=by omega
  have OQ:an+j<r.Words.n:=by omega
  have g1:=hr.words.one OQ (congrArg aT (rfl:s.Words[an+j]=s.Words[an+j]));have Oa:=Lm (l:=t.Words) (m:=s.Words) (t:=tn) (f:=an) (j:=j) (by omega) (by omega);refine Wz ?_;refine CW.any 12 mixed (cy (by kernel_rfl)) rfl λw1 pP OR => ?_;replace hw:=Ext.trans hw pP;replace tU:=tU.ext pP;replace lE:=lE.ext pP;replace rH:=rH.ext pP;replace hq:=hq.ext pP;clear pP;refine Wa ?_;refine Wu 11 OR rfl (bX hw rfl g1) ?_;refine SA.done (by kernel_rfl) ?_;refine Wz ?_;refine SW.j3 (tn+j) hq.own.words rfl rfl (by omega) λw7 Ow hg => ?_;have hG:=hq.own.words.gr hg;replace hw:=au hw hg (Ph _) hq.own.words.az;rw [Oa] at Ow;have OS:kX w7 w.heap.size q ⟨Bf t.Words s.Words tn an (j+1),t.Heap,t.ab⟩:=hq.words Ow hg;(replace tU:=tU.aQ hG rfl;replace lE:=lE.aQ hG rfl;replace rH:=rH.aQ hG rfl);refine Wz ?_;exact ah.again (j+1) ⟨rfl,rfl,rfl,rfl,rfl,rfl,rfl,rfl,trivial⟩ (by omega) ⟨by omega,hw,tU,lE,rH,OS⟩
 ·obtain rfl:j=zn:=by omega
  rw [<- Ov] at hq;replace hq:gK w' w.heap.size q (Bc t tn an j):=hq.own;refine Wz ?_;refine SW.call rfl rfl (vB _ (Bc t tn an j) cpu an _ hq.rd (Cr OP _ _ _) ha) λv w6 NG hv => ?_;obtain ⟨u,Ox,p,rfl,hp⟩:=hv;replace hp:=hp.low hw.size;(replace hw:=Ext.trans hw NG;replace tU:=tU.ext NG;replace lE:=lE.ext NG;replace rH:=rH.ext NG);clear NG hq;replace Js:=Js u Ox;replace Ju:=Ju u Ox;obtain ⟨t2,e2⟩:=u;simp only at Js Ju hp ⊢;refine Wz ?_;refine SW.dY rH rfl rfl rfl rfl (aB p) λw7 Fa hg => ?_;have hG:=rH.gr hg;replace lE:=lE.grown hg (by simpa using n8);replace hw:=hw.own (Pj EL (by omega)) hg;(replace hp:=hp.aQ hG rfl);replace rH:=Fa;clear Fa hG hg;by_cases he:e2=0
  ·replace Ju:=Ju he;subst he;refine Wz ?_;refine SW.dY lE rfl rfl rfl rfl (aB p) λw7 AI hg => ?_;have hG:=lE.gr hg;replace hw:=hw.own EL hg;(replace hp:=hp.aQ hG rfl);refine Wz ?_;exact ah.cb rfl rfl rfl rfl AI rfl ⟨_,rfl,hw,_,Ju,p,rfl,hp⟩
  ·refine Wz ?_;refine SW.dY lE rfl rfl rfl rfl (aB .zero) λw7 AI hg => ?_;replace hw:=hw.own EL hg;refine Wz ?_;exact ah.cb rfl rfl rfl rfl AI rfl ⟨_,rfl,hw,_,Js he,qW.zero _ _ _⟩
theorem Jg{a b:ByteArray}(h:cu a b=false)(c:a≠b):cu b a=true:=by
 have:=uh b a;grind
theorem nodup_iff{a l:List α}(c:a.Nodup):(∀(k:Nat)(h:k<l.length),l[k]∉a++l.take k)↔(a++l).Nodup:=by
 constructor
 ·intro h
  have b:∀k,k<=l.length->(a++l.take k).Nodup:=by
   intro k;induction k<;>grind[List.take_succ_eq_append_getElem,List.append_assoc,List.nodup_append,List.mem_singleton]
  have:=b _ (Ph _);grind
 intro h k d f;have e:l=l.take k++l[k]::l.drop (k+1):=by simp
 grind
theorem vz:(∀(i:Nat)(h:i<s.ab.length)(k:Nat)(hk:k<s.ab[i].Names.length),s.ab[i].Names[k]∉aR (s.ab.take i)++s.ab[i].Names.take k)↔(aR s.ab).Nodup:=by
 have step:∀i(h:i<s.ab.length),aR (s.ab.take (i+1))=aR (s.ab.take i)++s.ab[i].Names:=λi h=>by
  grind[aR,List.take_succ_eq_append_getElem]
 constructor
 ·intro h
  have key:∀k,k<=s.ab.length->(aR (s.ab.take k)).Nodup:=by
   intro k;induction k<;>grind[aR,step,nodup_iff]
  have:=key _ (Ph _);grind
 intro h i hi
 have N4:∀k,(aR (s.ab.take k)).Nodup:=λk=>by
  grind[aR,List.take_append_drop,List.nodup_append]
 grind[nodup_iff,step]
theorem HB{cs:List aO}(h:cs.any (c9 n)=false):n∉aR cs:=λa=>by
 unfold aR at a<;>grind[aR,c9,List.any_eq_true,dx]
theorem ly(cs:List aO):aR cs=(cs.map λc=>c.Names).flatten:=by unfold aR<;>grind
theorem Lg(o:aA s)(O:dW n=true)(L:s.ab.any (c9 n)=false)(D:i<s.ab.length):aA ⟨s.Words,s.Heap,s.ab.set i (db s.ab[i] n)⟩:=by
 have C:=tw s.ab[i].Names n;have v:=(o.each i D).names.iy;have w:=HB L;have M:n∉s.ab[i].Names:=λh=>w (by unfold aR<;>grind)
 have E:(aR (s.ab.set i (db s.ab[i] n))).Nodup:=by
  have I:=vz.1 λj p k l=>((o.each j p).names.each k l).2.1;have u:s.ab=s.ab.take i++s.ab[i]::s.ab.drop (i+1):=by simp
  have J:s.ab.set i (db s.ab[i] n)=s.ab.take i++db s.ab[i] n::s.ab.drop (i+1):=by grind
  have P:aR s.ab=(aR (s.ab.take i)++s.ab[i].Names.take (jv s.ab[i].Names n))++(s.ab[i].Names.drop (jv s.ab[i].Names n)++aR (s.ab.drop (i+1))):=by
   conv=>lhs;rw[u]
   rw[ly,ly,ly,PO,QZ,Qs,Qz];simp only[List.append_assoc];grind[List.append_assoc,List.take,List.take_append_drop]
  have Q:aR (s.ab.set i (db s.ab[i] n))=(aR (s.ab.take i)++s.ab[i].Names.take (jv s.ab[i].Names n))++n::(s.ab[i].Names.drop (jv s.ab[i].Names n)++aR (s.ab.drop (i+1))):=by
   rw[J,ly,ly,ly,PO,QZ,Qs,Qz];simp only[db,aP,List.append_assoc,List.cons_append,List.nil_append,List.singleton_append]
  grind
 have r:∀(j:Nat)(p:j<(s.ab.set i (db s.ab[i] n)).length),(s.ab.set i (db s.ab[i] n))[j]=if i=j then db s.ab[i] n else s.ab[j]'(by grind):=λj p=>by grind
 have x:mX (db s.ab[i] n)=mX s.ab[i]:=Z;have F:=jb (s:=⟨s.Words,s.Heap,s.ab.set i (db s.ab[i] n)⟩).2 (by simp only;rw[gE D x];exact jb.1 λj p=>(o.each j p).av);have G:=vz (s:=⟨s.Words,s.Heap,s.ab.set i (db s.ab[i] n)⟩).2 E;refine⟨o.words,o.heap,by simp only[List.length_set];exact o.most,λj p=>?_⟩;have y:j<s.ab.length:=by grind
 have f:=o.each j y;refine⟨?_,λk l=>?_,⟨λk l=>⟨?_,G j p k l,?_⟩⟩,F j p⟩
 ·simp only[r];split
  ·rename_i e;subst e;exact⟨f.may.lay,by grind[db,bT],f.may.aD,λk l=>⟨(f.may.av k l).live,(f.may.av k l).next,(f.may.av k l).chain⟩,f.may.ns⟩
  exact f.may.same Z Z
 ·have e:∀(m:Nat)(z:m<s.ab.length),((s.ab.set i (db s.ab[i] n))[m]'(by grind)).ax=s.ab[m].ax:=λm z=>by
   rw[r];split
   ·rename_i e;subst e;rfl
   rfl
  simp only;rw[e k Y,e j y];exact f.size k l
 ·have H:∀(c:aO)(A:c=if i=j then db s.ab[i] n else s.ab[j])(a:k<c.Names.length),dW c.Names[k]=true:=λc A a=>by
   have z:=Pf a;subst A;by_cases e:i=j
   ·subst e;simp only[if_true]at z⊢;rcases nQ.1 z with h|h
    ·grind
    obtain⟨q,N,J⟩:=Pg h;have:=((o.each i D).names.each q N).1;grind
   simp only[if_neg e]at z⊢;exact(f.names.each k (by grind)).1
  grind
 intro I
 have H:∀(c:aO)(A:c=if i=j then db s.ab[i] n else s.ab[j])(a:k<c.Names.length),cu (c.Names[k-1]'Y) c.Names[k]=true:=λc A a=>by
  subst A;by_cases e:i=j
  ·subst e;simp only[if_true]at a⊢;have B:k-1<(aP s.ab[i].Names (jv s.ab[i].Names n) n).length:=by have:k<(aP s.ab[i].Names (jv s.ab[i].Names n) n).length:=a;omega
   show cu ((aP s.ab[i].Names (jv s.ab[i].Names n) n)[k-1]'B) ((aP s.ab[i].Names (jv s.ab[i].Names n) n)[k]'a)=true
   rcases rC C B with⟨g,K,u⟩|⟨K,u⟩|⟨g,K,u⟩
   ·rcases rC C a with⟨t,d,b⟩|⟨d,b⟩|⟨t,d,b⟩
    ·rw[u,b];exact v _ _ g t Y
    all_goals grind[CU]
   ·rcases rC C a with⟨t,d,b⟩|⟨d,b⟩|⟨t,d,b⟩<;>grind[rC,Jg,LQ,List.getElem_mem]
   rcases rC C a with⟨t,d,b⟩|⟨d,b⟩|⟨t,d,b⟩
   ·omega
   ·omega
   rw[u,b];exact v _ _ g t Y
  simp only[if_neg e]at a⊢;exact(f.names.each k a).2.2 I
 grind
theorem Jh{z:Int}(h:1<=z∧z<=64):cJ z=((cJ z).1,(cJ z).2.1,0):=by
 unfold cJ<;>grind
theorem Lh(f:aA s)(q:dW n=true)(l:s.ab.any (c9 n)=false){z:Int}(m:1<=z∧z<=64)(o:∀j(h:j<s.ab.length),s.ab[j].ax≠z)(r:s.ab.length<20):aA ⟨s.Words,s.Heap,s.ab++[dh s n z]⟩:=by
 have p:=f.heap.cpus;have i:=HB l;refine⟨f.words,f.heap,by grind,λj h=>?_⟩;simp only[List.length_append,List.length_singleton]at h;have a:∀(k:Nat)(c:k<s.ab.length),(s.ab++[dh s n z])[k]'(by grind)=s.ab[k]:=λk c=>P2 c;have d:∀k,k<=s.ab.length->(s.ab++[dh s n z]).take k=s.ab.take k:=λk c=>PQ c;by_cases e:j<s.ab.length
 ·have g:=f.each j e;refine⟨?_,λk c=>?_,?_,?_⟩
  ·simp only[a j e];exact g.may.same Z Z
  ·simp only[a j e,a k Y];exact g.size k c
  ·simp only[a j e,d j Y];exact g.names
  simp only[a j e,d j Y];exact g.av
 obtain rfl:j=s.ab.length:=Y;have b:(s.ab++[dh s n z])[s.ab.length]'fy=dh s n z:=by simp
 refine⟨?_,λk c=>?_,?_,?_⟩
 ·simp only[b];refine⟨Jh m,by simp[dh],?_,λk c=>by grind[dh],λk c=> .inl (by simp[dh])⟩;simp only[dh,List.length_replicate];grind
 ·simp only[b,a k c];exact o k c
 ·simp only[b,d _ (Nat.le_refl _),List.take_length];refine⟨λk c=>?_⟩;simp only[dh,List.length_singleton]at c;obtain rfl:k=0:=Y
  grind[dh]
 simp only[b];intro k c<;>grind[dh]
theorem mj.j7(t:fT s){align:Int}(h:mj s n size align u)(y:u.2=0):fT u.1∧(kV s->kV u.1):=by
 have v:=t.may;have a:=h.small t.bU.small;cases h with
 | bad|form|range|kA|full=>simp at y
 | @xF i _ d w l m x B=>
   have:=Lg v d.1 l m;refine⟨⟨gj this a,this⟩,λo j q=>?_⟩;obtain⟨p,r,f,g⟩:=o j q;obtain⟨c,b,rfl⟩:=Pw.1 r;obtain⟨k,A,rfl⟩:=Pg b;by_cases e:k=i
   ·subst e;refine⟨((db s.ab[k] n).Names,(db s.ab[k] n).ax),Pw.2 ⟨db s.ab[k] n,(fF m).2 (.inl Z),Z⟩,?_,g⟩;exact dx.2 (nQ.2 (.inr (dx.1 f)))
   exact⟨_,Pw.2 ⟨s.ab[k],(fF m).2 (.inr ⟨k,A,e,Z⟩),Z⟩,f,g⟩
 | new _ d w l x b=>
   have C:=v8 d.2 w;have:=Lh v d.1 l (z:=lY size align) Y x b;refine⟨⟨gj this a,this⟩,λo j q=>?_⟩;obtain⟨p,r,f,g⟩:=o j q;obtain⟨c,b,rfl⟩:=Pw.1 r;exact⟨_,Pw.2 ⟨c,PU _ b,Z⟩,f,g⟩
variable {cpus least:Int}
theorem Gu{p:Nat->Bool}{b c d:Int}(h:∀k:Nat,p k=true->(k=0∨p (k-1)=false)->(k:Int)=a∨(k:Int)=b∨(k:Int)=c∨(k:Int)=d):
 ∀k:Nat,(runs p k).length<=(if a<(k:Int)then 1 else 0)+(if b<(k:Int)then 1 else 0)+(if c<(k:Int)then 1 else 0)+(if d<(k:Int)then 1 else 0)
 | 0=>by simp[runs]
 | k+1=>by
   have n:=Gu h k;have f:∀x:Int,(if x<(k:Int)then 1 else 0)<=(if x<((k+1:Nat):Int)then 1 else 0):=λx=>by grind
   have g:∀x:Int,(k:Int)=x->(if x<(k:Int)then 1 else 0)+1<=(if x<((k+1:Nat):Int)then 1 else 0):=λx e=>by grind
   have o:=f a;have q:=f b;have s:=f c;have md:=f d;cases m:p k
   ·grind[runs]
   by_cases j:0<k∧p (k-1)=true
   ·have e:runs p (k+1)=bump (runs p k):=by simp_all[runs,if_true,if_pos]
    obtain⟨l,r,t,_⟩:=(re p k).last j.1 j.2<;>grind[re,lK,List.length_append,List.length_singleton]
   have e:runs p (k+1)=runs p k++[⟨(k:Int),1⟩]:=by simp_all[runs,if_true,if_neg]
   have i:=h k m (by grind);rw[e];simp only[List.length_append,List.length_singleton];rcases i with e|e|e|e<;>have:=g _ e<;>omega
def pO(l:List Region):Nat->List Block
 | 0=>[]
 | p+1=>if dq l p then pO l p++[bC p]else pO l p
theorem AB(l:List Region):∀p:Nat,∀b∈pO l p,0<=b.At∧b.At<(p:Int)∧b.Order=0
 | 0=>by simp[pO]
 | p+1=>λb hb=>by
   unfold pO at hb;split at hb
   ·rcases Px.1 hb with hb|hb
    ·have:=AB l p b hb;omega
    simp only[List.mem_singleton]at hb;subst hb;refine⟨?_,?_,Z⟩<;>simp only[bC]<;>omega
   have:=AB l p b hb;omega
theorem Li(l:List Region){p:Nat}(c:p<256):nG (pO l p) (bC p):=by
 refine⟨by simp[bC],by grind[bC],by grind[bC,im],⟨by grind[bC],by grind[bC,im],?_⟩,λx a=>?_⟩
 ·unfold gQ;rw[PA];intro x a;have:=AB l p x a;rw[this.2.2,im];intro b;simp only[bC,Bool.and_eq_true,decide_eq_true_eq]at b;grind
 have:=AB l p x a;grind[AB,im]
theorem E4{t:Int}(h:eu f t):bV (gn f t).2∧(gn f t).2.aE=f∧(gn f t).2.To=t∧(gn f t).2.ai=[]:=by
 rw[jd h];have h':=h;unfold eu at h';refine⟨⟨h,by grind,λx b=>?_,λi a=>by grind,λi a=>by grind⟩,Z,Z,Z⟩
 grind[iu]
theorem E5{l:List Region}{split:Int}(b:eu 0 split):∀p:Nat,p<=256->oy (fa l split p) (pO l p)∧(fa l split p).1.To=split
 | 0,_=>by
   have a:eu split 256:=by grind[eu]
   obtain⟨d,e,c,k⟩:=E4 b;obtain⟨f,g,h,m⟩:=E4 a;refine⟨⟨d,f,e,c.trans g.symm,h,λi=>?_⟩,c⟩
   grind[fa,pO]
 | p+1,hp=>by
   obtain⟨D,j⟩:=E5 b p Y;have hb:=D.back (Li l Y);rw[fa,pO];cases n:dq l p
   ·grind
   simp only[if_true]
   grind[k9,fa,eI,bC,trans]
theorem Mg{l:List Region}{split:Int}(a:lC split least cpus):bf (sv (fa l split 256) least cpus):=by
 obtain⟨D,c⟩:=E5 (l:=l) a.1 256 (Ph _);refine oO (s:=fa l split 256) Z D.vs (kc.nil _ _) ⟨least,least,Z,a.2.1,a.2.1⟩ a.2.2 (Dg (by simp[sv]) (by simp[sv])) λi=>?_;have e:=Am D.vs i;have d:∀b:Bool,b.toNat<=1:=λb=>by cases b<;>simp
 have f:=d (ed (fa l split 256).1.ai i||ed (fa l split 256).2.ai i);have g:jE [] i=0:=Z;unfold qS<;>grind[qS,sv,wg]
def jq(h:Heap)(i:Nat):aO:=⟨[fm (kP i)],kP i,(cJ (kP i)).2.1,(cJ (kP i)).1,[],List.replicate h.bl.toNat (-1)⟩
structure AD(h:Heap)(j:Nat)(s:aj):Prop where
 words:s.Words=List.replicate 4096 0
 heap:s.Heap=h
 aV:s.ab=(List.range j).map (jq h)
theorem On{P:Nat->Prop}(a:P 0)(b:P 1)(c:P 2)(d:P 3)(e:P 4)(f:P 5)(h:i<6):P i:=by
 grind
theorem Cn(h:i<6):dW (fm (kP i))=true:=On (P:=λi=>dW (fm (kP i))=true) ir ir ir ir ir ir h
theorem MC(h:i<6)(a:j<i):kP j≠kP i:=by
 have:∀i,i<6->∀j,j<i->kP j≠kP i:=by unfold kP;decide
 grind
theorem Dk(h:i<6)(a:j<i):fm (kP j)≠fm (kP i):=by
 have:∀i,i<6->∀j,j<i->fm (kP j)≠fm (kP i):=by unfold kP;decide
 grind
theorem Co{h:Heap}(p:bf h)(y:j<=6)(f:AD h j s):aA s:=by
 refine⟨by rw[f.words,QK],by rw[f.heap];exact p,by rw[f.aV];grind,λi d=>?_⟩;have r:i<j:=by rw[f.aV]at d;grind
 have g:∀(k:Nat)(a:k<s.ab.length),s.ab[k]=jq h k:=λk a=>by
  have:s.ab[k]=((List.range j).map (jq h))[k]'(by rw[f.aV]at a;exact a):=by congr 1;exact f.aV
  grind
 have t:=p.cpus;refine⟨⟨?_,?_,?_,λk a=>?_,λk a=>?_⟩,λk a=>?_,⟨λk a=>?_⟩,λk a=>?_⟩
 ·rw[g i d];exact On (P:=λi=>cJ (jq h i).ax=((jq h i).Order,(jq h i).bd,0)) Z Z Z Z Z Z (show i<6 by omega)
 ·grind[jq]
 ·rw[g i d,f.heap];grind[jq]
 ·grind[jq]
 ·left
  grind[jq]
 ·rw[g i d,g k Y];exact MC Y a
 ·have l:∀(c:aO)(e:c=jq h i)(a:k<c.Names.length)(b:List ByteArray),(∀n∈b,n≠fm (kP i))->dW c.Names[k]=true∧c.Names[k]∉b++c.Names.take k∧(0<k->cu (c.Names[k-1]'Y) c.Names[k]=true):=λc e a b u=>by
   subst e;have m:k=0:=by grind[jq]
   subst m;simp only[jq,List.getElem_cons_zero,List.take_zero,List.append_nil];exact⟨Cn Y,λv=>u _ v Z,λh=>by omega⟩
  refine l _ (g i d) a _ λn o=>?_;unfold aR at o;obtain⟨c,w,o⟩:=Py.1 o;obtain⟨q,x,rfl⟩:=Pg w;simp only[List.length_take]at x;grind[List.length_take,jq,List.mem_singleton,Dk]
 grind[jq]
theorem Gv{h:Heap}(l:bf h)(b:j<6)(f:AD h j s)(m:mj s (fm (kP j)) (kP j) 1 u):AD h (j+1) u.1:=by
 have o:=Co l Y f;obtain⟨_,_,p,v⟩:=G8 b;have i:lY (kP j) 1=kP j:=by grind[lY]
 have k:∀c∈s.ab,∃q,q<j∧c=jq h q:=λc d=>by
  rw[f.aV]at d;grind
 have a:=mj.new (s:=s) (n:=fm (kP j)) (size:=kP j) (align:=1) (lV o) ⟨Cn b,.inl Z⟩ ⟨p,by omega⟩ (by
  rw[PA];intro c d;obtain⟨q,g,rfl⟩:=k c d;have:=Dk b g;grind[Dk,c9,vK,jq]) (λq g=>by
  obtain⟨t,r,e⟩:=k _ (Pf g);rw[e,i];exact MC b r) (by rw[f.aV];grind)
 rw[m.c7 a];refine⟨f.words,f.heap,?_⟩;simp only[i];rw[List.range_succ,PO,<-f.aV];congr 1
 simp only[dh,List.map_cons,List.map_nil,jq,f.heap]
theorem Gw{h:Heap}(a:bf h)(x:nL (AY h) j s):j<=6->AD h j s:=by
 induction x with
 | zero=>exact λ_=>⟨Z,Z,Z⟩
 | succ m b c=>grind[Gv]
theorem qQ.c7{a:ff}{v:aj×Int}(h:qQ s a u)(k:qQ s a v):u=v:=by
 cases h with
 | range h=>cases k<;>grind
 | no h b=>cases k<;>grind
 | ok h b c=>cases k<;>grind
 | fault h b c=>cases k<;>grind
theorem eg.c7(d:aA s){a:ff}{u v:aj×kT}(h:eg s a u)(k:eg s a v):u=v:=by
 cases h with
 | bt c h=>cases k with
   | bt _ h'=>rw[h.c7 h']
   | pL b|drain b|jn b|nj b|nk b|aV b|gz b|word b|Gh b=>omega
 | pL c h=>cases k with
   | pL _ h'=>rw[h.c7 h']
   | bt b|drain b|jn b|nj b|nk b|aV b|gz b|word b|Gh b=>omega
 | drain c=>cases k<;>grind
 | jn c h=>cases k with
   | jn _ h'=>rw[h.c7 h']
   | bt b|pL b|drain b|nj b|nk b|aV b|gz b|word b|Gh b=>omega
 | nj c h=>cases k with
   | nj _ h'=>rw[h.c7 h']
   | bt b|pL b|drain b|jn b|nk b|aV b|gz b|word b|Gh b=>omega
 | nk c h=>cases k with
   | nk _ h'=>rw[h.c7 h']
   | bt b|pL b|drain b|jn b|nj b|aV b|gz b|word b|Gh b=>omega
 | aV c h=>cases k with
   | aV _ h'=>rw[h.c7 h']
   | bt b|pL b|drain b|jn b|nj b|nk b|gz b|word b|Gh b=>omega
 | gz c h=>cases k with
   | gz _ h'=>rw[h.c7 h']
   | bt b|pL b|drain b|jn b|nj b|nk b|aV b|word b|Gh b=>omega
 | word c h=>cases k with
   | word _ h'=>rw[h.c7 d h']
   | bt b|pL b|drain b|jn b|nj b|nk b|aV b|gz b|Gh b=>omega
 | Gh c=>cases k<;>grind
structure my(s:aj):Prop where
 sys:fT s
 named:kV s
theorem my.sJ{t:aj}(h:my s)(a:fT t)(e:sJ t=sJ s):my t:=⟨a,h.named.sJ e⟩
theorem my.ok{t:aj}(h:my s){e:Int}(k:e=0->my t):my (tI e s t):=by
 unfold tI<;>grind
theorem eg.j7{a:ff}(k:a.Kind≠4){u:aj×kT}(b:my s)(h:eg s a u):my u.1:=by
 have d:=b.sys;have h':=h;cases h with
 | bt g h=>exact b.ok λe=>b.sJ (Hv d h e) Z
 | pL g h=>
   have:=ER g s _ d h';refine b.ok λe=>?_;cases h with
   | range|no=>omega
   | fault _ _ j=>omega
   | ok h l j=>exact b.sJ this Z
 | drain g=>
   have:=Di g s _ d h';refine b.ok λe=>b.sJ ?_ Z;simp only[tI,if_pos e]at this;grind
 | jn g h=>
   refine b.ok λe=>?_;obtain⟨q,c,_,f,_⟩:=h.step d e;exact b.sJ f c.shape
 | nj g h=>
   refine b.ok λe=>?_;obtain⟨c,f⟩:=h.step d e;exact b.sJ f c.shape
 | nk=>exact b
 | Gh=>exact b
 | gz g h=>
   refine b.ok λe=>?_;obtain⟨c,f⟩:=h.j7 d b.named e;exact b.sJ c f
 | word g h=>
   obtain⟨c,f⟩:=h.j7 d;exact b.ok λe=>b.sJ c f
 | aV g h=>
   cases h with
   | form i|lF i=>omega
   | n6 _ h=>
     refine b.ok λe=>?_;obtain⟨c,f⟩:=h.j7 d e;exact⟨c,f b.named⟩
   | new _ h=>
     refine b.ok λe=>?_;obtain⟨_,_,c,_⟩:=h.step d e;exact b.sJ (h.Ld d e) c.shape
   | drop _ h=>
     refine b.ok λe=>?_;exact b.sJ (h.j7 d e) (h.step d e).1.shape
   | shrink=>
     refine b.ok λe=>?_;obtain⟨c,f,_⟩:=vx d e;exact b.sJ f c.shape
   | bulk _ h=>
     refine b.ok λe=>?_;obtain⟨_,_,_,_,_,c,f⟩:=h.step d e;exact b.sJ f c.shape
theorem E1{a:ff}(b:a.Kind≠4):qR my a:=λs u c h=>h.j7 b c
theorem rz.named{a:ff}(h:rz fT a):rz my a:=λr s lo w d c e f b=>h r s lo w d c e.sys f b
section
variable {s:aj}{a:ff}{u:aj×kT}
theorem eg.OJ(b:(3<=a.Kind∧a.Kind<=7)∨a.Kind=15)(h:eg s a u):∃v,fM s a v∧u=(tI v.2.2.2 s v.1,⟨v.2.2.2,v.2.1,v.2.2.1⟩):=by cases h<;>first|exact⟨_,‹_›,Z⟩|(exfalso;omega)
end
def Lj:List (List ByteArray×Int):=[([fm 1],1),([fm 2],2),([fm 4],4),([fm 8],8),([fm 16],16),([fm 32],32)]
theorem Jj{h:Heap}(f:AD h 6 s):sJ s=Lj:=by
 unfold sJ;rw[f.aV,List.map_map];have e:((λc:aO=>(c.Names,c.ax))∘jq h)=λi=>([fm (kP i)],kP i):=Z;rw[e];decide+kernel
def MB(i j:Nat):Nat:=if j<i then j else j+1
theorem Gt(h:j<k):MB i j<MB i k:=by unfold MB<;>grind
theorem get_erase{l:List α}(h:j<(l.eraseIdx i).length):∃h':MB i j<l.length,(l.eraseIdx i)[j]=l[MB i j]:=by
 have a:=h;rw[P7]at a;unfold MB<;>grind
theorem E2{l:List α}(a:k<m)(b:k<l.length):l[k]∈l.take m:=
 List.mem_iff_getElem.2 ⟨k,by grind,by grind⟩
theorem sG{l:List α}{x:α}(h:x∈(l.eraseIdx i).take j):x∈l.take (MB i j):=by
 obtain⟨m,a,rfl⟩:=Pg h;simp only[List.length_take]at a;rw[PY];obtain⟨b,e⟩:=get_erase (l:=l) (i:=i) (j:=m) Y<;>grind[get_erase,E2,Gt]
theorem dr.of{t:aj}(h:dr s c)(b:t.Heap=s.Heap)(d:t.Words=s.Words):dr t c:=
 ⟨h.lay,h.names,by rw[b];exact h.aD,λi a=>⟨by rw[b];exact(h.av i a).live,(h.av i a).next,by rw[d];exact(h.av i a).chain⟩,h.ns⟩
theorem Ji(n:aA s)(i:Nat):aA ⟨s.Words,s.Heap,s.ab.eraseIdx i⟩:=by
 refine⟨n.words,n.heap,Pj (Qd _ _) n.most,λj o=>?_⟩;obtain⟨u,e⟩:=get_erase (l:=s.ab) (i:=i) (j:=j) o;have h:=n.each _ u
 have p:∀c,c=s.ab[MB i j]->dr s c∧pj (aR ((s.ab.eraseIdx i).take j)) c.Names∧rp (aG ((s.ab.eraseIdx i).take j)) c.ae:=by
  rintro _ rfl;refine⟨h.may,⟨λk q=>?_⟩,λk q f=>?_⟩
  ·obtain⟨a,b,d⟩:=h.names.each k q;refine⟨a,λf=>b ?_,d⟩;rcases Px.1 f with f|f
   ·obtain⟨c,r,t⟩:=Py.1 f;exact PU _ (Py.2 ⟨c,sG r,t⟩)
   grind
  refine h.av k q ?_;rcases Px.1 f with f|f
  ·obtain⟨c,r,t⟩:=Py.1 f;exact PU _ (Py.2 ⟨c,sG r,t⟩)
  grind
 obtain⟨v,w,x⟩:=p _ e;refine⟨v.of Z Z,λm f=>?_,w,x⟩;have g:m<(s.ab.eraseIdx i).length:=Qx f o;obtain⟨z,y⟩:=get_erase (l:=s.ab) (i:=i) (j:=m) g;show((s.ab.eraseIdx i)[m]'g).ax≠((s.ab.eraseIdx i)[j]'o).ax
 rw[e,y];exact h.size _ (Gt f)
theorem E3(z:aA s)(O:i<s.ab.length)(P:1<s.ab[i].Names.length):aA (aZ s i (s.Heap,du s.ab[i] k)):=by
 have q:∀(j:Nat)(u:j<s.ab.length)(f:j<(s.ab.set i (du s.ab[i] k)).length),(s.ab.set i (du s.ab[i] k))[j]=if i=j then du s.ab[i] k else s.ab[j]:=λj u f=>P4 _
 have v:∀(j:Nat)(u:j<s.ab.length)(f:j<(s.ab.set i (du s.ab[i] k)).length),(s.ab.set i (du s.ab[i] k))[j].ax=s.ab[j].ax∧(s.ab.set i (du s.ab[i] k))[j].ae=s.ab[j].ae∧∀y∈(s.ab.set i (du s.ab[i] k))[j].Names,y∈s.ab[j].Names:=λj u f=>by
  rw[q j u f];split
  ·rename_i e;subst e;exact⟨Z,Z,λy o=>PH o⟩
  grind
 have r:∀(j:Nat)(c:aO),c∈(s.ab.set i (du s.ab[i] k)).take j->∃d∈s.ab.take j,c.ae=d.ae∧∀y∈c.Names,y∈d.Names:=λj c w=>by
  obtain⟨m,g,rfl⟩:=Pg w;simp only[List.length_take,List.length_set]at g;grind[List.length_take,List.length_set,E2]
 have G:∀(j:Nat)(y:ByteArray),y∈aR ((s.ab.set i (du s.ab[i] k)).take j)->y∈aR (s.ab.take j):=λj y o=>by
  obtain⟨c,w,o⟩:=Py.1 o;obtain⟨d,A,_,H⟩:=r j c w;exact Py.2 ⟨d,A,H y o⟩
 have I:∀(j:Nat)(y:Int),y∈aG ((s.ab.set i (du s.ab[i] k)).take j)->y∈aG (s.ab.take j):=λj y o=>by
  obtain⟨c,w,o⟩:=Py.1 o;obtain⟨d,A,D,_⟩:=r j c w;exact Py.2 ⟨d,A,by grind⟩
 refine⟨z.words,z.heap,by simp only[aZ,List.length_set];exact z.most,λj u=>?_⟩;have p:j<s.ab.length:=by grind[aZ]
 have h:=z.each j p
 have x:rp (aG ((s.ab.set i (du s.ab[i] k)).take j)) s.ab[j].ae:=λm g o=>by
  refine h.av m g ?_
  grind
 have B:∀c,c=(if i=j then du s.ab[i] k else s.ab[j])->dr (aZ s i (s.Heap,du s.ab[i] k)) c∧pj (aR ((s.ab.set i (du s.ab[i] k)).take j)) c.Names∧rp (aG ((s.ab.set i (du s.ab[i] k)).take j)) c.ae:=by
  rintro _ rfl;split
  ·rename_i e;subst e;have t:=h.may;have J:=h.names.iy;refine⟨⟨t.lay,?_,t.aD,λm g=>⟨(t.av m g).live,(t.av m g).next,(t.av m g).chain⟩,λm g=>t.ns m g⟩,⟨λm g=>?_⟩,x⟩
   ·simp only[du,List.length_eraseIdx];grind
   have n:m<(s.ab[i].Names.eraseIdx k).length:=g;obtain⟨E,F⟩:=get_erase n;obtain⟨a,b,d⟩:=h.names.each _ E;refine⟨?_,λo=>?_,λQ=>?_⟩
   ·show dW ((s.ab[i].Names.eraseIdx k)[m]'n)=true
    grind
   ·have C:(s.ab[i].Names.eraseIdx k)[m]∈aR ((s.ab.set i (du s.ab[i] k)).take i)++(s.ab[i].Names.eraseIdx k).take m:=o;rw[F]at C;grind[List.mem_append_left,List.mem_append_right,sG]
   show cu ((s.ab[i].Names.eraseIdx k)[m-1]'(QV (Nat.sub_le _ _) n)) ((s.ab[i].Names.eraseIdx k)[m]'n)=true
   obtain⟨D,K⟩:=get_erase (l:=s.ab[i].Names) (i:=k) (j:=m-1) Y;rw[F,K];exact J _ _ D E (Gt Y)
  refine⟨h.may.of Z Z,⟨λm g=>?_⟩,x⟩;obtain⟨a,b,d⟩:=h.names.each m g<;>grind
 have f:j<(s.ab.set i (du s.ab[i] k)).length:=by grind
 obtain⟨L,M,N⟩:=B _ (q j p f);refine⟨L,λm g=>?_,M,N⟩;have n:m<(s.ab.set i (du s.ab[i] k)).length:=Qx g f;show((s.ab.set i (du s.ab[i] k))[m]'n).ax≠((s.ab.set i (du s.ab[i] k))[j]'f).ax
 rw[(v m (Qx g p) _).1,(v j p _).1];exact h.size m g
theorem Oo(s t:aj):tI 0 s t=t:=rfl
theorem E6(h:ga s n 0=0):∃i,∃b:i<s.ab.length,idxOf (c9 n) s.ab=(i:Int)∧n∈s.ab[i].Names:=by
 obtain⟨_,c,_⟩:=jj h;obtain⟨i,b,d,_,a⟩:=eK c;exact⟨i,b,a,dx.1 d⟩
theorem Nd:∀j,j<6->mf (fm (kP j))=true:=by decide+kernel
theorem ng.j7(g:my s)(H:mf n=false)(h:ng s n u)(I:u.2=0):my u.1:=by
 have C:=g.sys.may;have l:=h.small g.sys.bU;have E:∀j,j<6->fm (kP j)≠n:=λj r e=>by grind[Nd]
 cases h with
 | ask h=>omega
 | busy=>omega
 | @name i h e d D=>
   have f:=E3 (k:=jv s.ab[i].Names n) C d D;refine⟨⟨gj f l,f⟩,λj r=>?_⟩;obtain⟨p,z,t,o⟩:=g.named j r;obtain⟨c,A,rfl⟩:=Pw.1 z;obtain⟨m,b,rfl⟩:=Pg A;by_cases v:m=i
   ·subst v;refine⟨((du s.ab[m] (jv s.ab[m].Names n)).Names,s.ab[m].ax),Pw.2 ⟨du s.ab[m] (jv s.ab[m].Names n),(fF d).2 (.inl Z),Z⟩,dx.2 ?_,o⟩;obtain⟨w,B,F,a⟩:=E6 h;obtain rfl:w=m:=Y;obtain⟨J,K,_⟩:=tG (C.each w d).names.iy a<;>grind[tG,List.getElem_of_mem,dx,du,mem_erase_iff]
   exact⟨_,Pw.2 ⟨s.ab[m],(fF d).2 (.inr ⟨m,b,v,Z⟩),Z⟩,t,o⟩
 | @cache i h e d D hb=>
   have q:=pA h d e;obtain⟨_,o,_⟩:=vx (n:=n) g.sys (by rw[q]);rw[q]at o;have f:=Ji o.may i;rw[qN]at f;refine⟨⟨gj f l,f⟩,λj r=>?_⟩;obtain⟨p,z,t,G⟩:=g.named j r;obtain⟨c,A,rfl⟩:=Pw.1 z;obtain⟨m,b,rfl⟩:=Pg A;refine⟨_,Pw.2 ⟨s.ab[m],mem_erase_iff.2 ⟨m,b,λv=>?_,Z⟩,Z⟩,t,G⟩;subst v;obtain⟨w,B,F,a⟩:=E6 h;obtain rfl:w=m:=Y;obtain⟨x,L,M⟩:=Pg (dx.1 t);obtain⟨y,N,O⟩:=Pg a<;>grind
theorem Gx{a:ff}(g:a.Kind=4):qR my a:=λs u c d=>by
 obtain⟨v,f,rfl⟩:=d.OJ Y;cases f with
 | form=>exact c
 | lF _ i h=>
   refine c.ok λe=>?_
   grind[ng.j7]
 | n6 b|new b|drop b|shrink b|bulk b=>omega
theorem nm(a:ff):qR my a:=by
 by_cases h:a.Kind=4<;>grind[Gx,E1]
variable {lo:Nat} {w':World}
def Jn(w:World)(lo:Nat)(r:cc)(s:aj)(q:cc)(t:aj):Prop:=gK w lo q t∨(q=r∧t=s)
theorem Jn.ext{r q:cc}{t:aj}(h:Jn w lo r s q t)(a:Ext w w'):Jn w' lo r s q t:=h.imp (λh=>h.ext a) id
theorem Jn.J4{r q:cc}{t:aj}(h:Jn w lo r s q t)(a:oe w w' 37):Jn w' lo r s q t:=h.imp (λh=>h.aQ a Z) id
theorem Jn.OT{r q:cc}{t:aj}(h:Jn w lo r s q t)(a:oe w w' 49):Jn w' lo r s q t:=h.imp (λh=>h.aQ a Z) id
theorem HD(h:0<n.size):mf n=decide (((n[0]'h).toNat:Int)=107):=by
 obtain⟨⟨l⟩⟩:=n;cases l with
 | nil=>simp[ByteArray.size]at h
 | cons a l=>
   have e:mf ⟨⟨a::l⟩⟩=decide (a=107):=by simp[mf,Bool.beq_eq_decide_eq]
   rw[e];refine decide_eq_decide.2 ?_;show a=107↔((a.toNat:Nat):Int)=107
   constructor
   ·simp_all
   intro h;have:a.toNat=107:=Y;exact UInt8.toNat_inj.1 this
theorem Jo(h:mf n=true):0<n.size:=by
 obtain⟨⟨l⟩⟩:=n;cases l with
 | nil=>cases h
 | cons a l=>simp[ByteArray.size]
theorem Cs(c:aA s)(h:fw s a true):0<=a∧a<s.Words.length:=by
 obtain⟨q,b,d,e,f⟩:=vy c h;have:=jo c d;have:=c.words;omega
theorem oR(a:ff)(r:cc)(s:aj)(w:World)(Q:mB w r s)(hN:my s)(zn:a.Name.size<=140737488351232)(za: -9223372036854775808<=a.At∧a.At<=9223372036854775807):
 aS prog 12 [.agg (ar r).toArray,.agg (pB a).toArray] w λv N=>∃u,eg s a u∧∃q x,v= .tuple #[.agg (ar q).toArray,.agg (dE x).toArray]∧Jn N w.heap.size r s q u.1∧jK N w.heap.size x u.2:=by
 obtain⟨k,cpu,n,m,G,fl,I⟩:=a;simp only at zn za;have hI:=hN.sys;have hf:=hI.bU;have hs:=hf.small;have hM:=hI.may;refine Wj func12 ntmps12 ?_;refine Ww λb2 w1 B zE b=>?_;have l2:=b.lt;refine SW.box Z Z λb3 w2 T zo A=>?_;have zF:=B.up zo;obtain⟨B,b⟩:=bk T B b;have l3:=A.lt;have A:ay _ b3 _ [Iv k,Iv cpu,Iv n,Iv m,Iv G,Iv fl,.string I]:=A;refine SW.alloc Z λb4 w2 T zp f=>?_;have zq:=B.up zp;obtain⟨B,b,A⟩:=aY T B b A;have l4:=f.lt;refine SW.alloc Z λb5 w2 T zr d=>?_;have zG:=B.up zr;obtain⟨B,b,A,f⟩:=cG T B b A f;have l5:=d.lt;refine Wz ?_;refine Wr (aB r) λb6 w2 U zs o=>?_;have zt:=B.up zs;obtain⟨B,b,A,f,d⟩:=dz U B b A f d;have l6:=o.lt;refine Wz ?_;refine Wr (pC ⟨0,0,.nil⟩) λR w2 U zu j=>?_;have zH:=B.up zu;obtain⟨B,b,A,f,d,o⟩:=fi U B b A f d o;have zy:b2≠b6:=Y;have zz:b4≠b6:=Y;have zJ:b2≠b4:=Y;have zK:b5≠R:=Y;repeat(first|refine SW.nil ?_|refine ah.seq ?_|refine CW.seq ?_|refine CW.region ?_|refine SW.st (aI Z) Z ?_)
 refine SW.st (aJ Z (A.cell (i:=0) (v:=Iv k) Z)) Z (SW.nil (ah.seq ?_))
 obtain⟨K,W⟩:∃K:Env->World->Prop,K=λL' N=>∃(q:cc)(x:Ac)(t:aj)(y:kT),eA L' [(2,Pt b2),(4,Pt b4),(5,Pt b5),(6,Pt b6),(7,Pt R)]∧Ext w N∧
  ay N b2 37 (ar r)∧ay N b4 37 (ar .zero)∧ay N b5 49 (dE ⟨0,0,.nil⟩)∧ay N b6 37 (ar q)∧ay N R 49 (dE x)∧Jn N w.heap.size r s q t∧jK N w.heap.size x y∧eg s ⟨k,cpu,n,m,G,fl,I⟩ (tI y.Code s t,y):=⟨_,Z⟩
 refine CW.block (CW.vE K ?_ ?_)
 ·rcases(show(k=3∨k=6∨k=7∨k=9∨k=4)∨(k=5∨k=8∨k=11)∨k=15∨k=10∨(k=2∨k=1∨k=12)∨k=13∨k=14∨(k<1∨15<k)by omega)with hk|hk|hk|hk|hk|rfl|rfl|hk
  ·obtain⟨kq,zc⟩:=bq (mf I);rcases(show k=3∨k=6∨k=7∨k=9∨(k=4∧kq=false∧I.size=0)∨(k=4∧kq=false∧0<I.size)∨(k=4∧kq=true)by rcases Ps I.size<;>cases kq<;>grind)with rfl|rfl|rfl|rfl|⟨rfl,rfl,h0⟩|⟨rfl,rfl,h0⟩|⟨rfl,rfl⟩
   rotate_left 4
   focus
    have zL:(I.size:Int)=0:=Y;repeat'(first|refine Wz ?_|refine SW.st (lA Z) Z ?_)
   rotate_left
   focus
    obtain⟨z,hz⟩:∃z:Int,((I[0]'h0).toNat:Int)=z:=⟨_,Z⟩
    have zM:z≠107:=λe=>by
     have:=HD h0;rw[hz,decide_eq_true e,zc]at this;cases this
    repeat'(first|refine Wz ?_|refine SW.st (lA Z) Z ?_|(refine SW.st ((vZ 0 Z Z Z h0).eq (congrArg (Value.int .u8) hz)) Z ?_))
   rotate_left
   focus
    have h0:0<I.size:=Jo zc;obtain⟨z,hz⟩:∃z:Int,((I[0]'h0).toNat:Int)=z:=⟨_,Z⟩
    obtain rfl:z=107:=by
     have:=HD h0;rw[hz,zc]at this;exact of_decide_eq_true this.symm
    repeat'(first|refine Wz ?_|refine SW.st (lA Z) Z ?_|(refine SW.st ((vZ 0 Z Z Z h0).eq (congrArg (Value.int .u8) hz)) Z ?_))
    refine We (i:=0) j λM g C=>?_;obtain⟨d,B,b,A,f,o⟩:=fi g d B b A f o;have j:ay _ R 49 (dE ⟨3,0,.nil⟩):=C;refine Wz ?_;have F:=eg.aV (s:=s) (a:=⟨4,cpu,n,m,G,fl,I⟩) fy (.form Z zc);simp only at F;exact ah.fW (by rw[W];exact⟨r,⟨3,0,.nil⟩,s,⟨3,0,[]⟩,⟨Z,Z,Z,Z,Z,trivial⟩,B,b,f,d,o,j,.inr ⟨Z,Z⟩,jK.plain _ _ _ _,F⟩)
   iterate 4
    focus
     refine Wz ?_
    rotate_left
   rotate_left 2
   focus
    refine Wk (rT r s I n m _ (Q.ext B) hf zn) λv w7 E L=>?_;obtain⟨⟨t,e⟩,O,q,rfl,D⟩:=L;have D:=D.low B.size;have F:=eg.aV (s:=s) (a:=⟨3,cpu,n,m,G,fl,I⟩) fy (.n6 Z O)
   rotate_left
   focus
    refine Wk (Cp r s I cpu G _ (Q.ext B) hf) λv w7 E L=>?_;obtain⟨⟨t,e⟩,O,q,rfl,D⟩:=L;have D:=D.low B.size;have F:=eg.aV (s:=s) (a:=⟨6,cpu,n,m,G,fl,I⟩) fy (.drop Z O)
   rotate_left
   focus
    refine Wk (Dn r s I _ (Q.ext B) hf) λv w7 E L=>?_;obtain⟨q,rfl,D⟩:=L;have D:=D.low B.size;have F:=eg.aV (s:=s) (a:=⟨7,cpu,n,m,G,fl,I⟩) fy (.shrink Z);obtain⟨⟨t,e⟩,O⟩:∃u,jI s I=u:=⟨_,Z⟩;rw[O]at D F⊢
   rotate_left
   focus
    refine Wk (vB r s cpu G _ (Q.ext B) hf za) λv w7 E L=>?_;obtain⟨⟨t,e⟩,O,q,rfl,D⟩:=L;have D:=D.low B.size;have F:=eg.nj (s:=s) (a:=⟨9,cpu,n,m,G,fl,I⟩) Z O
   rotate_left
   iterate 2
    focus
     refine Wk (vQ r s I _ (Q.ext B) hf) λv w7 E L=>?_;obtain⟨⟨t,e⟩,O,q,rfl,D⟩:=L;have D:=D.low B.size;have F:=eg.aV (s:=s) (a:=⟨4,cpu,n,m,G,fl,I⟩) fy (.lF Z zc O)
    rotate_left
   all_goals
    obtain⟨B,b,A,f,d,o,j⟩:=iX E B b A f d o j;simp only at D F⊢;refine Wz ?_;refine Wh o (aB q) λzd g o=>?_;obtain⟨b,f,B,A,d,j,D⟩:=iX g b f B A d j D;refine Wz ?_;refine We (i:=0) j λM g C=>?_;obtain⟨d,B,b,A,f,o,D⟩:=iX g d B b A f o D;have j:ay _ R 49 (dE ⟨e,0,.nil⟩):=C;refine Wz ?_;exact ah.fW (by rw[W];exact⟨q,⟨e,0,.nil⟩,t,⟨e,0,[]⟩,⟨Z,Z,Z,Z,Z,trivial⟩,B,b,f,d,o,j,.inl D,jK.plain _ _ _ _,F⟩)
  ·rcases hk with rfl|rfl|rfl
   all_goals refine Wz ?_
   focus
    refine Wk (Ca r s I cpu _ (Q.ext B) hf) λv w7 E L=>?_;obtain⟨⟨t,p,e⟩,O,q,rfl,D⟩:=L;have D:=D.own.low B.size;have F:=eg.aV (s:=s) (a:=⟨5,cpu,n,m,G,fl,I⟩) fy (.new Z O)
   rotate_left
   focus
    refine Wk (rZ r s cpu n _ (Q.ext B) hf) λv w7 E L=>?_;obtain⟨⟨t,p,e⟩,O,q,rfl,D⟩:=L;have D:=D.own.low B.size;have F:=eg.jn (s:=s) (a:=⟨8,cpu,n,m,G,fl,I⟩) Z O
   rotate_left
   focus
    refine Wk (AH r s cpu G n _ (Q.ext B) hI hN.named za) λv w7 E L=>?_;obtain⟨⟨t,p,e⟩,O,q,rfl,D⟩:=L;have D:=D.low B.size;have F:=eg.gz (s:=s) (a:=⟨11,cpu,n,m,G,fl,I⟩) Z O
   rotate_left
   all_goals
    obtain⟨B,b,A,f,d,o,j⟩:=iX E B b A f d o j;simp only at D F⊢;refine Wz ?_;refine Wh o (aB q) λzd g o=>?_;obtain⟨b,f,B,A,d,j,D⟩:=iX g b f B A d j D;refine Wz ?_;refine We (i:=1) j λM g C=>?_;obtain⟨d,B,b,A,f,o,D⟩:=iX g d B b A f o D;have j:ay _ R 49 (dE ⟨0,p,.nil⟩):=C;refine Wz ?_;refine We (i:=0) j λM g C=>?_;obtain⟨d,B,b,A,f,o,D⟩:=iX g d B b A f o D;have j:ay _ R 49 (dE ⟨e,p,.nil⟩):=C;refine Wz ?_;exact ah.fW (by rw[W];exact⟨q,⟨e,p,.nil⟩,t,⟨e,p,[]⟩,⟨Z,Z,Z,Z,Z,trivial⟩,B,b,f,d,o,j,.inl D,jK.plain _ _ _ _,F⟩)
  ·subst hk;refine Wz ?_;refine Wk (GC r s I cpu n _ (Q.ext B) hf) λv w7 E L=>?_;obtain⟨⟨t,l,e⟩,O,q,X,c,rfl,D,hX⟩:=L;have D:=D.low B.size;have hX:=hX.low B.size;have F:=eg.aV (s:=s) (a:=⟨15,cpu,n,m,G,fl,I⟩) fy (.bulk Z O);obtain⟨B,b,A,f,d,o,j⟩:=iX E B b A f d o j;simp only at D hX F⊢;refine Wz ?_;refine Wh o (aB q) λzd g o=>?_;obtain⟨b,f,B,A,d,j,D,hX⟩:=nS g b f B A d j D hX;refine Wz ?_;refine We (i:=2) j λM g C=>?_;obtain⟨d,B,b,A,f,o,D,hX⟩:=nS g d B b A f o D hX;have j:ay _ R 49 (dE ⟨0,0,⟨X,l.length,c⟩⟩):=C;refine Wz ?_;refine We (i:=0) j λM g C=>?_;obtain⟨d,B,b,A,f,o,D,hX⟩:=nS g d B b A f o D hX;have j:ay _ R 49 (dE ⟨e,0,⟨X,l.length,c⟩⟩):=C;refine Wz ?_;exact ah.fW (by rw[W];exact⟨q,⟨e,0,⟨X,l.length,c⟩⟩,t,⟨e,0,l⟩,⟨Z,Z,Z,Z,Z,trivial⟩,B,b,f,d,o,j,.inl D,⟨Z,Z,hX⟩,F⟩)
  ·subst hk;refine Wz ?_;refine Wk (vm r s G _ (Q.ext B) hf za) λv w7 E L=>?_;obtain⟨⟨p,e⟩,O,rfl⟩:=L;obtain⟨B,b,A,f,d,o,j⟩:=iX E B b A f d o j;have F:=eg.nk (s:=s) (a:=⟨10,cpu,n,m,G,fl,I⟩) Z O;simp only at F⊢;refine Wz ?_;refine We (i:=1) j λM g C=>?_;obtain⟨d,B,b,A,f,o⟩:=fi g d B b A f o;have j:ay _ R 49 (dE ⟨0,p,.nil⟩):=C;refine Wz ?_;refine We (i:=0) j λM g C=>?_;obtain⟨d,B,b,A,f,o⟩:=fi g d B b A f o;have j:ay _ R 49 (dE ⟨e,p,.nil⟩):=C;refine Wz ?_;exact ah.fW (by rw[W];exact⟨r,⟨e,p,.nil⟩,s,⟨e,p,[]⟩,⟨Z,Z,Z,Z,Z,trivial⟩,B,b,f,d,o,j,.inr ⟨Z,Z⟩,jK.plain _ _ _ _,by rw[qX];exact F⟩)
  ·rcases hk with rfl|rfl|rfl
   focus
    refine Wz ?_;refine We (i:=0) j λM g C=>?_;obtain⟨d,B,b,A,f,o⟩:=fi g d B b A f o;have j:ay _ R 49 (dE ⟨4,0,.nil⟩):=C;obtain⟨bi,zb⟩:=bq (decide (0<=G∧G<=255))
    have cI:∀N,aS prog 40 [Iv G,Iv 0,Iv 255] N λv _=>v= .bool bi:=λN=>by
     have:=bE G 0 255 N;rwa[zb]at this
    obtain⟨wo,zk⟩:=bq (iU s (16*G));cases bi
    ·have hb:¬(0<=G∧G<256):=λh=>of_decide_eq_false zb ⟨h.1,by omega⟩;have F:=eg.pL (s:=s) (a:=⟨2,cpu,n,m,G,fl,I⟩) Z (.range hb);repeat'(first|refine Wz ?_|(refine CW.bQ Z ?_)|(refine Wc (cI _) λw1 J=>?_;obtain⟨B,b,A,f,d,o,j⟩:=iX J B b A f d o j))
     refine We (i:=0) j λM g C=>?_;obtain⟨d,B,b,A,f,o⟩:=fi g d B b A f o;have j:ay _ R 49 (dE ⟨1,0,.nil⟩):=C;refine Wz ?_;exact ah.fW (by rw[W];exact⟨r,⟨1,0,.nil⟩,s,⟨1,0,[]⟩,⟨Z,Z,Z,Z,Z,trivial⟩,B,b,f,d,o,j,.inr ⟨Z,Z⟩,jK.plain _ _ _ _,F⟩)
    have hb:0<=G∧G<256:=by have:=of_decide_eq_true zb;omega
    have cW:∀N,Ext w N->aS prog 41 [.agg (ar r).toArray,Iv (16*G)] N λv _=>v=Iv wo:=λN V=>by
     have:=qJ r s (16*G) N (Q.ext V) hs hM Y;rwa[zk]at this
    cases ze:ct s (G*16)
    ·have F:=eg.pL (s:=s) (a:=⟨2,cpu,n,m,G,fl,I⟩) Z (.no hb ze);have zA:=uL ze;rw[QR,zk]at zA;repeat'(first|refine Wz ?_|(refine CW.bo Z ?_)|((first|refine Wk (cI _) ?_|refine Wk (cW _ B) ?_);intro v w1 J L;subst L;obtain⟨B,b,A,f,d,o,j⟩:=iX J B b A f d o j))
     exact ah.fW (by rw[W];exact⟨r,⟨4,0,.nil⟩,s,⟨4,0,[]⟩,⟨Z,Z,Z,Z,Z,trivial⟩,B,b,f,d,o,j,.inr ⟨Z,Z⟩,jK.plain _ _ _ _,F⟩)
    obtain⟨hk,e1,e2,e3⟩:=oG hM ze;rw[QR,zk]at e2 e3;repeat'(first|refine Wz ?_|(refine CW.bo Z ?_)|refine Wm ((e7 b)) ?_|((first|refine Wk (cI _) ?_|refine Wk (cW _ B) ?_);intro v w1 J L;subst L;obtain⟨B,b,A,f,d,o,j⟩:=iX J B b A f d o j))
    refine Wk (ml r.Heap s.Heap cpu G _ (Q.heap.ext B) hs.heap hf.bA za) λv w7 E L=>?_;obtain⟨H,rfl,S⟩:=L
    have F:eg s ⟨2,cpu,n,m,G,fl,I⟩ (tI (ee s.Heap cpu G).1 s (pq s (ee s.Heap cpu G).2),⟨(ee s.Heap cpu G).1,0,[]⟩):=by
     by_cases he:(ee s.Heap cpu G).1=0
     ·have:=eg.pL (s:=s) (a:=⟨2,cpu,n,m,G,fl,I⟩) Z (.ok hb ze he);simp only at this;rw[he];exact this
     have:=eg.pL (s:=s) (a:=⟨2,cpu,n,m,G,fl,I⟩) Z (.fault hb ze he);simp only at this;rw[qX]at this;rw[tI,if_neg he];exact this
    obtain⟨⟨e,h'⟩,O⟩:∃u,ee s.Heap cpu G=u:=⟨_,Z⟩;rw[O]at F S⊢;obtain⟨p,hp⟩:∃p:Int,p=0:=⟨_,Z⟩
   rotate_left
   focus
    repeat'(first|refine Wz ?_|refine Wm ((e7 b)) ?_)
    refine Wk (n0 r.Heap s.Heap cpu n fl _ (Q.heap.ext B) hs.heap hf.bA) λv w7 E L=>?_;obtain⟨⟨h',p,e⟩,O,H,rfl,S⟩:=L;have F:=eg.bt (s:=s) (a:=⟨1,cpu,n,m,G,fl,I⟩) Z O
   rotate_left
   focus
    repeat'(first|refine Wz ?_|refine Wm ((e7 b)) ?_)
    refine Wk (Bd r.Heap s.Heap _ (Q.heap.ext B) hs.heap hf.bA) λv w7 E L=>?_;obtain⟨H,rfl,S⟩:=L;have F:=eg.drain (s:=s) (a:=⟨12,cpu,n,m,G,fl,I⟩) Z;obtain⟨⟨e,h'⟩,O⟩:∃u,mc s.Heap=u:=⟨_,Z⟩;rw[O]at F S⊢;obtain⟨p,hp⟩:∃p:Int,p=0:=⟨_,Z⟩
   rotate_left
   all_goals
    have S:=S.low B.size;obtain⟨B,b,A,f,d,o,j⟩:=iX E B b A f d o j;simp only at S F⊢;refine Wz ?_;refine Wr (bw H) λb8 w2 U zv zi=>?_;have zI:=B.up zv;obtain⟨B,b,A,f,d,o,j,S⟩:=nS U B b A f d o j S;refine Wz ?_;refine Wk (cX r s _ (Q.ext B) hs) λv w9 zf L=>?_;obtain⟨q,cs,rfl,zg,_⟩:=L;have D:=zg.nb.low B.size;obtain⟨B,b,A,f,d,o,j,zi,S⟩:=HG zf B b A f d o j zi S;refine Wh o (aB q) λzd g o=>?_;obtain⟨b,f,B,A,d,j,zi,S,D⟩:=HG g b f B A d j zi S D;refine Wz ?_;refine SW.ib 1 o Z Z Z (PE Z) (bw H) (ar ⟨q.Words,H,q.ab⟩) Z λzd zj hg=>?_;have hG:=o.gr hg;have b:=b.grown hg (by simpa using zy);have f:=f.grown hg (by simpa using zz);have B:=B.own zt hg;obtain⟨A,d,j,S,D⟩:=dz hG A d j S D;have o:=zj;refine Wz ?_
   rotate_left
   focus
    refine Wh j (pC ⟨e,p,.nil⟩) λM g j=>?_;obtain⟨d,B,b,A,f,o,S,D⟩:=nS g d B b A f o S D;refine Wz ?_;have hO:gK _ w.heap.size ⟨q.Words,H,q.ab⟩ (pq s h'):=⟨D.words,S,D.aV⟩;exact ah.fW (by rw[W];exact⟨⟨q.Words,H,q.ab⟩,⟨e,p,.nil⟩,pq s h',⟨e,p,[]⟩,⟨Z,Z,Z,Z,Z,trivial⟩,B,b,f,d,o,j,.inl hO,jK.plain _ _ _ _,F⟩)
   all_goals
    subst hp;refine We (i:=0) j λM g C=>?_;obtain⟨d,B,b,A,f,o,S,D⟩:=nS g d B b A f o S D;have j:ay _ R 49 (dE ⟨e,0,.nil⟩):=C;refine Wz ?_;have hO:gK _ w.heap.size ⟨q.Words,H,q.ab⟩ (pq s h'):=⟨D.words,S,D.aV⟩;exact ah.fW (by rw[W];exact⟨⟨q.Words,H,q.ab⟩,⟨e,0,.nil⟩,pq s h',⟨e,0,[]⟩,⟨Z,Z,Z,Z,Z,trivial⟩,B,b,f,d,o,j,.inl hO,jK.plain _ _ _ _,F⟩)
  ·refine Wz ?_;refine Wk (r3 r s G _ (Q.ext B) hf hM za) λv w7 E L=>?_;obtain⟨bb,hb,rfl⟩:=L;obtain⟨B,b,A,f,d,o,j⟩:=iX E B b A f d o j;cases bb
   ·have F:=eg.word (s:=s) (a:=⟨13,cpu,n,m,G,fl,I⟩) fy (.no hb);simp only at F;repeat'(first|refine Wz ?_|(refine CW.bQ Z ?_))
    refine We (i:=0) j λM g C=>?_;obtain⟨d,B,b,A,f,o⟩:=fi g d B b A f o;have j:ay _ R 49 (dE ⟨4,0,.nil⟩):=C;refine Wz ?_;exact ah.fW (by rw[W];exact⟨r,⟨4,0,.nil⟩,s,⟨4,0,[]⟩,⟨Z,Z,Z,Z,Z,trivial⟩,B,b,f,d,o,j,.inr ⟨Z,Z⟩,jK.plain _ _ _ _,F⟩)
   have zl:0<=G∧G<s.Words.length:=by
    have:=Cs hM hb;omega
   obtain⟨an,rfl⟩:=Pm zl.1;obtain⟨bi,zb⟩:=bq (decide (-1099511627776<=m∧m<=1099511627776))
   have cI:∀N,aS prog 40 [Iv m,Iv (-1099511627776),Iv 1099511627776] N λv _=>v= .bool bi:=λN=>by
    have:=bE m (-1099511627776) 1099511627776 N;rwa[zb]at this
   cases bi
   ·have F:=eg.word (s:=s) (a:=⟨13,cpu,n,m,(an:Nat),fl,I⟩) fy (.range hb fy (of_decide_eq_false zb));simp only at F;repeat'(first|refine Wz ?_|(first|refine CW.bQ Z ?_|refine CW.bo Z ?_)|(refine Wc (cI _) λw1 J=>?_;obtain⟨B,b,A,f,d,o,j⟩:=iX J B b A f d o j))
    refine We (i:=0) j λM g C=>?_;obtain⟨d,B,b,A,f,o⟩:=fi g d B b A f o;have j:ay _ R 49 (dE ⟨1,0,.nil⟩):=C;refine Wz ?_;exact ah.fW (by rw[W];exact⟨r,⟨1,0,.nil⟩,s,⟨1,0,[]⟩,⟨Z,Z,Z,Z,Z,trivial⟩,B,b,f,d,o,j,.inr ⟨Z,Z⟩,jK.plain _ _ _ _,F⟩)
   have F:=eg.word (s:=s) (a:=⟨13,cpu,n,m,(an:Nat),fl,I⟩) fy (.write hb fy (of_decide_eq_true zb));simp only[Int.ofNat_eq_natCast,Int.toNat_natCast]at F;repeat'(first|refine Wz ?_|(refine CW.bo Z ?_)|(refine Wc (cI _) λw1 J=>?_;obtain⟨B,b,A,f,d,o,j⟩:=iX J B b A f d o j))
   refine Wk (cX r s _ (Q.ext B) hs) λv w9 zf L=>?_;obtain⟨q,cs,rfl,zg,zw⟩:=L;have D:kX w9 w.heap.size q s:=kX.low ⟨cs,zg,zw.sj⟩ B.size;obtain⟨B,b,A,f,d,o,j⟩:=iX zf B b A f d o j;refine Wh o (aB q) λzd g o=>?_;obtain⟨b,f,B,A,d,j,D⟩:=iX g b f B A d j D;have zN:=D.own.words.len;have zO:=D.own.words.sl.base;have hO:=D;refine Wz ?_;refine SW.j3 an D.own.words Z Z Y λzP zB hg=>?_;have hG:=D.own.words.gr hg;have B:=au B hg (Ph _) D.own.words.az;have zC:=(D.words zB hg).own;obtain⟨b,A,f,d,o,j⟩:=fi hG b A f d o j;refine Wz ?_;exact ah.fW (by rw[W];exact⟨q,⟨0,0,.nil⟩,⟨s.Words.set an m,s.Heap,s.ab⟩,⟨0,0,[]⟩,⟨Z,Z,Z,Z,Z,trivial⟩,B,b,f,d,o,j,.inl zC,jK.plain _ _ _ _,F⟩)
  ·refine Wz ?_;refine Wk (r3 r s G _ (Q.ext B) hf hM za) λv w7 E L=>?_;obtain⟨bb,hb,rfl⟩:=L;obtain⟨B,b,A,f,d,o,j⟩:=iX E B b A f d o j;cases bb
   ·have F:=eg.word (s:=s) (a:=⟨14,cpu,n,m,G,fl,I⟩) fy (.no hb);simp only at F;repeat'(first|refine Wz ?_|(refine CW.bQ Z ?_))
    refine We (i:=0) j λM g C=>?_;obtain⟨d,B,b,A,f,o⟩:=fi g d B b A f o;have j:ay _ R 49 (dE ⟨4,0,.nil⟩):=C;refine Wz ?_;exact ah.fW (by rw[W];exact⟨r,⟨4,0,.nil⟩,s,⟨4,0,[]⟩,⟨Z,Z,Z,Z,Z,trivial⟩,B,b,f,d,o,j,.inr ⟨Z,Z⟩,jK.plain _ _ _ _,F⟩)
   have zl:0<=G∧G<s.Words.length:=by
    have:=Cs hM hb;omega
   obtain⟨an,rfl⟩:=Pm zl.1;have F:=eg.word (s:=s) (a:=⟨14,cpu,n,m,(an:Nat),fl,I⟩) fy (.read hb Z);simp only[Int.ofNat_eq_natCast]at F;have zx:an<s.Words.length:=Y;have zD:an<r.Words.n:=by have:=Q.words.len;omega
   have e1:s.Words.getD ((an:Nat):Int).toNat 0=s.Words[an]:=by simp[List.getD,zx]
   rw[e1]at F;have zQ:=Q.words.base;have g1:=Q.words.one zD (congrArg aT (rfl:s.Words[an]=s.Words[an]));repeat'(first|refine Wz ?_|(refine CW.bo Z ?_)|refine Wn B g1 ?_)
   refine We (i:=1) j λM g C=>?_;obtain⟨d,B,b,A,f,o⟩:=fi g d B b A f o;have j:ay _ R 49 (dE ⟨0,s.Words[an],.nil⟩):=C;refine Wz ?_;exact ah.fW (by rw[W];exact⟨r,⟨0,s.Words[an],.nil⟩,s,⟨0,s.Words[an],[]⟩,⟨Z,Z,Z,Z,Z,trivial⟩,B,b,f,d,o,j,.inr ⟨Z,Z⟩,jK.plain _ _ _ _,F⟩)
  have F:=eg.Gh (s:=s) (a:=⟨k,cpu,n,m,G,fl,I⟩) hk;refine Wz ?_;refine We (i:=0) j λM g C=>?_;obtain⟨d,B,b,A,f,o⟩:=fi g d B b A f o;have j:ay _ R 49 (dE ⟨2,0,.nil⟩):=C;refine Wz ?_;exact ah.fW (by rw[W];exact⟨r,⟨2,0,.nil⟩,s,⟨2,0,[]⟩,⟨Z,Z,Z,Z,Z,trivial⟩,B,b,f,d,o,j,.inr ⟨Z,Z⟩,jK.plain _ _ _ _,by rw[qX];exact F⟩)
 subst W;rintro L' N ⟨q,x,t,y,jw,B,b,f,d,o,j,D,V,F⟩;refine ah.sub jw ?_;have zR:=V.code;by_cases he:y.Code=0
 ·rw[tI,if_pos he]at F;refine Wz ?_;refine CW.iF 2 3 (λw2=>ay w2 R 49 (dE x)) mixed bm λw1 J zm=>?_;obtain⟨B,b,f,d,o,j,D,V⟩:=nS J B b f d o j D V;refine Wf ?_;refine Wi 1 [] zm Z (cv Z Z ((λ_ _=>j.cell))) (λw2 hS=>cv Z Z ((λ_ _=>hS.cell))) ?_;refine SF.eW ?_;refine Wg f (aB q) λw8 P hg=>?_;have hG:=f.gr hg;have D:=D.J4 hG;have B:=B.own zq hg;obtain⟨d,j,V⟩:=aY hG d j V;have hS:=j;refine SW.nil (ah.sg hS ?_);refine SG.dQ ?_;refine Wh d (pC x) λw9 g zh=>?_;obtain⟨B,P,V⟩:=aY g B P V;have D:=D.OT g.T;refine Wz ?_;exact ah.Hm Z Z Z P zh Z Z ⟨_,Z,B,_,F,q,x,Z,D,V⟩
 rw[tI,if_neg he]at F;refine Wz ?_;refine CW.iF 2 3 (λw2=>ay w2 R 49 (dE x)) mixed bm λw1 J zm=>?_;obtain⟨B,b,f,d,o,j,V⟩:=iX J B b f d o j V;refine Wf ?_;refine Wi 1 [] zm Z (cv Z Z ((λ_ _=>j.cell))) (λw2 hS=>cv Z Z ((λ_ _=>hS.cell))) ?_;refine SF.eW ?_;refine Wh f (aB r) λw8 g P=>?_;obtain⟨B,d,j,V⟩:=cG g B d j V;have hS:=j;refine SW.nil (ah.sg hS ?_);refine SG.dQ ?_;refine Wh d (pC x) λw9 g zh=>?_;obtain⟨B,P,V⟩:=aY g B P V;refine Wz ?_;exact ah.Hm Z Z Z P zh Z Z ⟨_,Z,B,_,F,r,x,Z,.inr ⟨Z,Z⟩,V⟩
inductive Lk(o:Int×List Region)(split least cpus:Int)(l:List ff):Int×List kT×aj->Prop
 | fault {u:aj×Int} (h:eJ o split least cpus u) (he:u.2≠0):Lk o split least cpus l (u.2,[],.zero)
 | Ll {u:aj×Int} {xs:List kT} {t:aj} (h:eJ o split least cpus u) (he:u.2=0) (hr:n9 u.1 l xs t):Lk o split least cpus l (0,xs,t)
def Dl(lo:Nat)(o:Int×List kT×aj)(v:Value)(w:World):Prop:=∃A n c rs q,v= .tuple #[.slice A n c,.agg (ar q).toArray,Iv o.1]∧ja w lo A n c rs o.2.1∧gK w lo q o.2.2
theorem ah.sH{n:Nat}{L:Env}{t u q ty e:Nat}{x y:Value}[c:fA P ty m](f:fn.results= #[.tmp u,.cell t ty,.tmp q])(g:get L u=some x)(i:get L t=some (Pt b))(j:get L q=some y)(k:ay w b e cs)(l:Nat.beq cs.length m=true)(h:R (.returned (.tuple #[x,.agg cs.toArray,y])) w):ah n (bodyPost P fn R) .ret L w:=
 ⟨λa d=>⟨d.defers,_,by simpa using lG.results (rs:=[.tmp u,.cell t ty,.tmp q]) f (.tmp g (.cell c i k (PD l) (.tmp j .nil))) d,h⟩⟩
theorem ja.cq(w:World)(lo:Nat)(A:Option Addr):ja w lo A 0 0 [] []:=⟨Own.cq _ _ _ _ _ _,.nil⟩
structure MD where
 j:Nat
 A:Option Addr
 c:Nat
 rs:List Ac
 xs:List kT
 q:cc
 t:aj
theorem Mh(I:aj->Prop)(A:Option Addr)(n c:Nat)(B:Option Addr)(m d:Nat)(x y:List Region)(split least cpus:Int)(X:Option Addr)(k e:Nat)(l:List ff)(w:World)(hx:Sl w 2 eV A n x)(hy:Sl w 2 eV B m y)(hn:n<=9223372036854775807)(hm:m<=9223372036854775807)(zq: -9223372036854775808<=split∧split<=9223372036854775807)(hS:jD w)(ze:nq w)
 (hl:Sl w 7 pB X k l) (hk:k<=300) (hI:∀u,eJ (iK 256 x y) split least cpus u->u.2=0->I u.1) (hF:∀s,I s->s.bU) (hG:∀a∈l,rz I a) (hP:∀a∈l,qR I a):
 aS prog 4 [.agg (gw A n c B m d split least cpus).toArray,.slice X k e] w λv U=>∃o,Lk (iK 256 x y) split least cpus l o∧Dl w.heap.size o v U:=by
 refine Wj func4 ntmps4 ?_;refine Ww λb2 w1 z zA M=>?_;have zB:=hl.len;have zC:=hl.base;have l2:=M.lt;refine Wz ?_;refine SW.alloc Z λb5 w2 J zf i=>?_;have zg:w.heap.size<=b5:=Pj z.size zf;(replace z:=Ext.trans z J;replace M:=M.ext J);refine Wz ?_;refine Wk (Ez A n c B m d x y split least cpus _ (hx.ext z) (hy.ext z) hn hm zq (hS.ext z)) λv w5 za V=>?_;obtain⟨u,hu,s1,rfl,O⟩:=V;replace O:=O.low z.size;(replace z:=Ext.trans z za;replace M:=M.ext za;replace i:=i.ext za);obtain⟨u1,u2⟩:=u;simp only at O⊢;refine Wz ?_;have l5:=i.lt;refine Wr (aB s1) λb7 w2 G zh C=>?_;have zi:w.heap.size<=b7:=Pj z.size zh;replace z:=Ext.trans z G;replace M:=M.ext G;replace i:=i.ext G;replace O:=O.ext G;have zr:b5≠b7:=Y;by_cases he:u2=0
 ·have zj:=hI _ hu he;have zk:=λxs t h=>Lk.Ll (l:=l) (xs:=xs) (t:=t) hu he h;simp only at zj zk;subst he;refine Wz ?_
  refine CW.loop (λs:MD=>[(5,Pt b5),(7,Pt b7),(9,.slice s.A s.j s.c),(26,.slice X k e),(27,Iv (k:Int)),(28,Iv (s.j:Int))])
   (λs U=>s.j<=k∧Ext w U∧ay U b5 37 (ar .zero)∧ay U b7 37 (ar s.q)∧gK U w.heap.size s.q s.t∧ja U w.heap.size s.A s.j s.c s.rs s.xs∧n9 u1 (l.take s.j) s.xs s.t∧I s.t) (λs=>k-s.j) ⟨0,none,0,[],[],s1,u1⟩
   ⟨Z,Z,Z,Z,Z,Z,trivial⟩ ⟨PL _,z,i,C,O,ja.cq _ _ _,by rw[List.take_zero];exact .nil _,zj⟩ ?_
  rintro⟨j,b,f,rs,xs,q,t⟩ U ⟨hj,z,i,C,W,D,hR,T⟩;simp only at hj C W D hR T⊢;by_cases zs:j<k
  ·have zb:j<l.length:=Y;repeat'(first|refine Wz ?_|refine Wo z ((hl.all zs)) ?_)
   refine Wr (NA l[j]) λzt w2 G zc E=>?_;have zu:w.heap.size<=zt:=Pj z.size zc;replace z:=Ext.trans z G;replace i:=i.ext G;replace C:=C.ext G;replace W:=W.ext G;replace D:=D.ext G;refine Wz ?_;have l7:=D.row.lt_size;refine SW.alloc Z λzv w2 J R F=>?_;have zd:w.heap.size<=zv:=Pj z.size R;(replace z:=Ext.trans z J;replace i:=i.ext J;replace C:=C.ext J;replace E:=E.ext J;replace W:=W.ext J;replace D:=D.ext J);refine Wz ?_;refine Wk (hG l[j] (Pf zb) q t w.heap.size _ W z.size T (hS.ext z) (ze.ext z)) λv w7 P V=>?_;obtain⟨o,ho,q',x',rfl,K,L⟩:=V;(replace z:=Ext.trans z P;replace i:=i.ext P;replace C:=C.ext P;replace E:=E.ext P;replace F:=F.ext P;replace D:=D.ext P);obtain⟨o1,o2⟩:=o;simp only at K L⊢;have zw:=hP l[j] (Pf zb) t _ T ho;refine Wz ?_;refine Wg C (aB q') λw8 Q N=>?_;have r:=C.gr N;replace i:=i.grown N (by simpa using zr);replace z:=z.own zi N;(replace E:=E.aQ r Z;replace F:=F.aQ r Z;replace D:=D.aQ r Z;replace K:=K.aQ r Z;replace L:=L.aQ r Z);refine Wg F (pC x') λw8 S N=>?_;have r:=F.gr N;have zl:ja w8 w.heap.size b j f rs xs:=⟨D.row.grown N (.inr (λe=>by have:=l7 _ e;omega)),D.each.mono λ_ _ h=>h.aQ r Z⟩;replace z:=z.own zd N;(replace i:=i.aQ r Z;replace Q:=Q.aQ r Z;replace E:=E.aQ r Z;replace K:=K.aQ r Z;replace L:=L.aQ r Z);have C:=Q;have F:=S;have D:=zl;refine Wz ?_;refine SW.bz Z Z Z Z Z λzD w9 H zx zm=>?_;(replace z:=Ext.trans z H;replace i:=i.ext H;replace C:=C.ext H;replace K:=K.ext H;replace L:=L.ext H;replace D:=D.ext H);refine SW.append D.row (ay.la (enc:=dE) zm) z.size Z Z Z Y Y λY2 f2 zE zy N=>?_;have r:=D.row.gr N;replace z:=au z N (Ph _) D.row.az;have zz:=D.each.mono λ_ _ h=>h.aQ (t:=49) r Z;(replace i:=i.aQ r Z;replace C:=C.aQ r Z;replace K:=K.aQ r Z;replace L:=L.aQ r Z);refine Wz ?_;have zn:=n9.snoc hR ho;rw[<-Pk zb]at zn;exact ah.again ⟨j+1,Y2,f2,rs++[x'],xs++[o2],q',o1⟩ ⟨Z,Z,Z,Z,Z,Z,trivial⟩ dD ⟨by simp only;omega,z,i,C,K,⟨zy,zz.snoc L⟩,zn,zw⟩
  obtain rfl:j=k:=Y;rw[Pl Y]at hR;refine Wz ?_;refine Wk (lm q t _ W.rd (hF t T).small) λv w9 H V=>?_;obtain⟨p,cs',rfl,zo,_⟩:=V;have hP:=zo.nb.low z.size;(replace z:=Ext.trans z H;replace i:=i.ext H;replace C:=C.ext H;replace D:=D.ext H);refine Wz ?_;refine Wg i (aB p) λzF zp N=>?_;have r:=i.gr N;replace z:=z.own zg N;(replace hP:=hP.aQ r Z;replace D:=D.aQ r Z);refine Wz ?_;exact ah.sH Z Z Z Z zp Z ⟨_,Z,z,_,zk _ _ hR,b,j,f,rs,p,Z,D,hP⟩
 have V:=Lk.fault (l:=l) hu he;simp only at V;refine Wz ?_;refine Wh i (aB .zero) λw7 g hR=>?_;have z:=jc g z;refine Wz ?_;exact ah.sH Z Z Z Z hR Z ⟨_,Z,z,_,V,none,0,0,[],.zero,Z,ja.cq _ _ _,Own.cq _ _ _ _ _ _,ik.zero _ _,⟨[],dJ.nil _ _⟩⟩
variable {xs:List kT}
theorem qV{o:Int×List Region}{split:Int}(h:eJ o split least cpus u)(f:u.2=0):my u.1:=by
 have c:=h.bU;cases h with
 | IE h=>omega
 | heap _ d=>omega
 | made h d m=>
   have a:bf (fe o.2 split least cpus).2:=by
    cases g:dv o.2;all_goals grind[m7,lC,m8,Mg,ko]
   have b:=Gw a m (Ph _);refine⟨⟨c,Co a (Ph _) b⟩,?_⟩;unfold kV;simp only;rw[Jj b];intro j e;refine⟨_,Pf (show j<Lj.length from e),?_⟩;revert j
   decide+kernel
theorem n9.N5{t t':aj}{l:List ff}{b:List kT}(h:n9 s l xs t)(d:my s):n9 s l b t'->xs=b∧t=t':=by
 induction h generalizing b t' with
 | nil=>
   intro k;generalize e:([]:List ff)=l at k;cases k<;>simp_all
 | snoc h f g=>
   intro k;obtain⟨m,v,w,i,j,rfl,rfl⟩:=k.NB;obtain⟨rfl,rfl⟩:=g i;have c:=h.j7 (I:=my) d λa _=>nm a;rw[f.c7 c.sys.may j];grind
inductive pM(o:Int×List Region)(split least cpus:Int)(l:List ff):Int×List kT×aj->Prop
 | fault {u:aj×Int} (h:eJ o split least cpus u) (he:u.2≠0):pM o split least cpus l (u.2,[],.zero)
 | size {u:aj×Int} (h:eJ o split least cpus u) (he:u.2=0) (hl:300<l.length):pM o split least cpus l (9,[],.zero)
 | Ll {u:aj×Int} {xs:List kT} {t:aj} (h:eJ o split least cpus u) (he:u.2=0) (hl:l.length<=300) (hr:n9 u.1 l xs t):pM o split least cpus l (0,xs,t)
theorem pM.c7{o:Int×List Region}{split:Int}{l:List ff}{u v:Int×List kT×aj}(h:pM o split least cpus l u)(k:pM o split least cpus l v):u=v:=by
 cases h with
 | fault h b=>cases k with
   | fault h'=>rw[h.c7 h']
   | size h' a|Ll h' a=>rw[h.c7 h']at b;grind
 | size h b e=>cases k with
   | fault h' a=>rw[h.c7 h']at b;grind
   | size=>rfl
   | Ll _ _ c=>omega
 | Ll h b e f=>cases k with
   | fault h' a=>rw[h.c7 h']at b;grind
   | size _ _ c=>omega
   | Ll h' _ _ d=>
     obtain rfl:=h.c7 h';obtain⟨rfl,rfl⟩:=f.N5 (qV h b) d
     rfl
theorem pM.small{o:Int×List Region}{split:Int}{l:List ff}{u:Int×List kT×aj}(h:pM o split least cpus l u):u.2.2.small∧u.2.1.length<=300:=by
 cases h with
 | fault|size=>grind[aj.gu]
 | Ll h c d b=>exact⟨(b.j7 (I:=my) (qV h c) λa _=>nm a).sys.bU.small,by simp only;rw[b.len];exact d⟩
theorem eg.lens{a:ff}{u:aj×kT}(h:eg s a u)(b:s.bU):u.2.L.length<=256:=by
 cases h with
 | aV c h=>cases h with
   | bulk _ h=>exact(h.small b).2
   | _=>simp
 | _=>simp
theorem n9.lens{t:aj}{l:List ff}(h:n9 s l xs t):my s->∀y∈xs,y.L.length<=256:=by
 induction h with
 | nil=>grind
 | snoc h c e=>
   intro d y b;rcases Px.1 b with b|b
   ·grind
   obtain rfl:=List.mem_singleton.1 b;exact c.lens (h.j7 (I:=my) d λa _=>nm a).sys.bU
theorem pM.lens{o:Int×List Region}{split:Int}{l:List ff}{u:Int×List kT×aj}(h:pM o split least cpus l u):∀y∈u.2.1,y.L.length<=256:=by
 cases h with
 | fault|size=>grind
 | Ll h a c b=>exact b.lens (qV h a)
variable {nn:Nat}
theorem Jn.own{r q:cc}{t:aj}(h:Jn w nn r s q t)(b:gK w lo r s)(a:lo<=nn):gK w lo q t:=by
 rcases h with h|⟨rfl,rfl⟩
 ·exact h.low a
 omega
theorem Jp(A:Option Addr)(n c:Nat)(B:Option Addr)(m d:Nat)(x y:List Region)(split least cpus:Int)(X:Option Addr)(k e:Nat)(l:List ff)(w:World)(hx:Sl w 2 eV A n x)(hy:Sl w 2 eV B m y)(hn:n<=9223372036854775807)(hm:m<=9223372036854775807)(zs: -9223372036854775808<=split∧split<=9223372036854775807)
 (hl:Sl w 7 pB X k l) (zF:k<=9223372036854775807) (zd:∀a∈l,a.Name.size<=140737488351232) (ze:∀a∈l,-9223372036854775808<=a.At∧a.At<=9223372036854775807):
 aS prog 5 [.agg (gw A n c B m d split least cpus).toArray,.slice X k e] w λv w'=>∃o,pM (iK 256 x y) split least cpus l o∧Dl w.heap.size o v w':=by
 refine Wj func5 ntmps5 ?_;refine Ww λb2 w1 F zB S=>?_;have zG:=hl.len;have zH:=hl.base;have l2:=S.lt;refine Wz ?_;refine SW.alloc Z λb5 w2 zt zj r=>?_;have zC:=F.up zj;obtain⟨F,S⟩:=bk zt F S;refine Wz ?_;refine Wk (AZ A n c B m d x y split least cpus _ (hx.ext F) (hy.ext F) hn hm zs) λv w5 zu T=>?_;obtain⟨u,hu,s1,rfl,V⟩:=T;have V:=V.low F.size;obtain⟨F,S,r⟩:=aY zu F S r;obtain⟨u1,u2⟩:=u;simp only at V⊢;refine Wz ?_;have l5:=r.lt;refine Wr (aB s1) λb7 w2 i zk z=>?_;have zD:=F.up zk;obtain⟨F,S,r,V⟩:=cG i F S r V;have zv:=V;have zI:b5≠b7:=Y;by_cases he:u2=0;rotate_left
 ·have T:=pM.fault (l:=l) hu he;simp only at T;refine Wz ?_;refine Wh r (aB .zero) λw7 g hR=>?_;have F:=jc g F;refine Wz ?_;exact ah.sH Z Z Z Z hR Z ⟨_,Z,F,_,T,none,0,0,[],.zero,Z,ja.cq _ _ _,Own.cq _ _ _ _ _ _,ik.zero _ _,⟨[],dJ.nil _ _⟩⟩
 by_cases zE:300<k
 ·have T:=pM.size (l:=l) hu he Y;subst he;refine Wz ?_;refine Wh r (aB .zero) λw7 g hR=>?_;have F:=jc g F;refine Wz ?_;exact ah.sH Z Z Z Z hR Z ⟨_,Z,F,_,T,none,0,0,[],.zero,Z,ja.cq _ _ _,Own.cq _ _ _ _ _ _,ik.zero _ _,⟨[],dJ.nil _ _⟩⟩
 have zl:=qV hu he;have zm:=λxs t h=>pM.Ll (l:=l) (xs:=xs) (t:=t) hu he Y h;simp only at zl zm;subst he;refine Wz ?_
 refine CW.loop (λs:MD=>[(1,.slice X k e),(5,Pt b5),(7,Pt b7),(9,.slice s.A s.j s.c),(10,Iv (s.j:Int))])
  (λs w'=>s.j<=k∧Ext w w'∧ay w' b5 37 (ar .zero)∧ay w' b7 37 (ar s.q)∧gK w' w.heap.size s.q s.t∧ja w' w.heap.size s.A s.j s.c s.rs s.xs∧n9 u1 (l.take s.j) s.xs s.t∧my s.t) (λs=>k-s.j) ⟨0,none,0,[],[],s1,u1⟩
  ⟨Z,Z,Z,Z,Z,trivial⟩ ⟨PL _,F,r,z,zv,ja.cq _ _ _,by rw[List.take_zero];exact .nil _,zl⟩ ?_
 rintro⟨j,b,f,rs,xs,q,t⟩ w' ⟨hj,F,r,z,I,H,hR,W⟩;simp only at hj z I H hR W⊢;by_cases zw:j<k
 ·have zn:j<l.length:=Y;have N:=Pf zn;have l7:=H.row.lt_size;have n7:=z.lt;refine Wz ?_
  focus
   refine CW.iF 11 12 (λ_=>True) mixed bm λw1 zf za=>?_;obtain⟨F,r,z,I,H⟩:=dz zf F r z I H;refine Wf ?_;refine Wt 4 [] [] za Z (g7 F Z Z ((hl.all zw))) ?_;refine SF.three 5 9 10 Z Z Z bm Z Z Z ?_ ?_ ?_
   focus
    refine Wk (oR l[j] q t _ I.rd W (zd _ N) (ze _ N)) λv w7 i T=>?_;obtain⟨o,ho,q',x',rfl,D,E⟩:=T;have D:=D.own (I.ext i) F.size;have E:=E.low F.size;obtain⟨F,r,z,I,H⟩:=dz i F r z I H;try have C:=C.ext i
    try have p:=p.ext i
    refine SW.nil (ah.sf i ?_);refine Wf ?_;refine Wi 8 [] za Z (aH Z) (λw2 U=>aH Z) ?_;refine SF.two 9 10 Z Z bm Z Z ?_ ?_
    focus
     refine SW.alloc Z λG w9 i K C=>?_;have P:=F.up K;have zb:b7≠G:=λe=>absurd z.lt Y;have zc:b5≠G:=λe=>absurd r.lt Y;have zi:∀g,aN b f=some g->g≠G:=λg e h=>absurd (H.row.lt_size g e) Y;try have Q:J≠G:=λe=>absurd p.lt Y
     try have L:G≠J:=λe=>absurd p.lt Y
     obtain⟨r,z,I,H⟩:=cG i r z I H;try have D:=D.ext i
     try have E:=E.ext i
     try have p:=p.ext i
     have F:=F.trans i;refine SW.nil (ah.sf i ?_);refine SF.bD 10 ?_;refine SW.alloc Z λJ w9 i M p=>?_;have O:=F.up M;have zg:∀g,aN b f=some g->g≠J:=λg e h=>absurd (H.row.lt_size g e) Y;try have L:G≠J:=λe=>absurd C.lt Y
     obtain⟨r,z,I,H⟩:=cG i r z I H;try have D:=D.ext i
     try have E:=E.ext i
     try have C:=C.ext i
     have F:=F.trans i;refine SW.nil (ah.sf i ?_);refine SF.eW ?_;refine Wh C (aB q') λw8 g C=>?_;obtain⟨z,r,F,p,H,D,E⟩:=iX g z r F p H D E;have U:True:=trivial;refine SW.nil (ah.sg U ?_)
    rotate_left
    focus
     refine SW.alloc Z λJ w9 i M p=>?_;have O:=F.up M;have zg:∀g,aN b f=some g->g≠J:=λg e h=>absurd (H.row.lt_size g e) Y;try have L:G≠J:=λe=>absurd C.lt Y
     obtain⟨r,z,I,H⟩:=cG i r z I H;try have D:=D.ext i
     try have E:=E.ext i
     try have C:=C.ext i
     have F:=F.trans i;refine SW.nil (ah.sf i ?_);refine SF.bD 9 ?_;refine SW.alloc Z λG w9 i K C=>?_;have P:=F.up K;have zb:b7≠G:=λe=>absurd z.lt Y;have zc:b5≠G:=λe=>absurd r.lt Y;have zi:∀g,aN b f=some g->g≠G:=λg e h=>absurd (H.row.lt_size g e) Y;try have Q:J≠G:=λe=>absurd p.lt Y
     try have L:G≠J:=λe=>absurd p.lt Y
     obtain⟨r,z,I,H⟩:=cG i r z I H;try have D:=D.ext i
     try have E:=E.ext i
     try have p:=p.ext i
     have F:=F.trans i;refine SW.nil (ah.sf i ?_);refine SF.eW ?_;refine Wh C (aB q') λw8 g C=>?_;obtain⟨z,r,F,p,H,D,E⟩:=iX g z r F p H D E;have U:True:=trivial;refine SW.nil (ah.sg U ?_)
    rotate_left
   rotate_left 2
   focus
    refine SW.alloc Z λG w9 i K C=>?_;have P:=F.up K;have zb:b7≠G:=λe=>absurd z.lt Y;have zc:b5≠G:=λe=>absurd r.lt Y;have zi:∀g,aN b f=some g->g≠G:=λg e h=>absurd (H.row.lt_size g e) Y;try have Q:J≠G:=λe=>absurd p.lt Y
    try have L:G≠J:=λe=>absurd p.lt Y
    obtain⟨r,z,I,H⟩:=cG i r z I H;try have D:=D.ext i
    try have E:=E.ext i
    try have p:=p.ext i
    have F:=F.trans i;refine SW.nil (ah.sf i ?_);refine SF.two 5 10 Z Z bm Z Z ?_ ?_
    focus
     refine Wk (oR l[j] q t _ I.rd W (zd _ N) (ze _ N)) λv w7 i T=>?_;obtain⟨o,ho,q',x',rfl,D,E⟩:=T;have D:=D.own (I.ext i) F.size;have E:=E.low F.size;obtain⟨F,r,z,I,H⟩:=dz i F r z I H;try have C:=C.ext i
     try have p:=p.ext i
     refine SW.nil (ah.sf i ?_);refine Wf ?_;refine Wi 8 [] za Z (aH Z) (λw2 U=>aH Z) ?_;refine SF.bD 10 ?_;refine SW.alloc Z λJ w9 i M p=>?_;have O:=F.up M;have zg:∀g,aN b f=some g->g≠J:=λg e h=>absurd (H.row.lt_size g e) Y;try have L:G≠J:=λe=>absurd C.lt Y
     obtain⟨r,z,I,H⟩:=cG i r z I H;try have D:=D.ext i
     try have E:=E.ext i
     try have C:=C.ext i
     have F:=F.trans i;refine SW.nil (ah.sf i ?_);refine SF.eW ?_;refine Wh C (aB q') λw8 g C=>?_;obtain⟨z,r,F,p,H,D,E⟩:=iX g z r F p H D E;have U:True:=trivial;refine SW.nil (ah.sg U ?_)
    rotate_left
    focus
     refine SW.alloc Z λJ w9 i M p=>?_;have O:=F.up M;have zg:∀g,aN b f=some g->g≠J:=λg e h=>absurd (H.row.lt_size g e) Y;try have L:G≠J:=λe=>absurd C.lt Y
     obtain⟨r,z,I,H⟩:=cG i r z I H;try have D:=D.ext i
     try have E:=E.ext i
     try have C:=C.ext i
     have F:=F.trans i;refine SW.nil (ah.sf i ?_);refine SF.bD 5 ?_;refine Wk (oR l[j] q t _ I.rd W (zd _ N) (ze _ N)) λv w7 i T=>?_;obtain⟨o,ho,q',x',rfl,D,E⟩:=T;have D:=D.own (I.ext i) F.size;have E:=E.low F.size;obtain⟨F,r,z,I,H⟩:=dz i F r z I H;try have C:=C.ext i
     try have p:=p.ext i
     refine SW.nil (ah.sf i ?_);refine Wf ?_;refine Wi 8 [] za Z (aH Z) (λw2 U=>aH Z) ?_;refine SF.eW ?_;refine Wh C (aB q') λw8 g C=>?_;obtain⟨z,r,F,p,H,D,E⟩:=iX g z r F p H D E;have U:True:=trivial;refine SW.nil (ah.sg U ?_)
    rotate_left
   rotate_left 2
   focus
    refine SW.alloc Z λJ w9 i M p=>?_;have O:=F.up M;have zg:∀g,aN b f=some g->g≠J:=λg e h=>absurd (H.row.lt_size g e) Y;try have L:G≠J:=λe=>absurd C.lt Y
    obtain⟨r,z,I,H⟩:=cG i r z I H;try have D:=D.ext i
    try have E:=E.ext i
    try have C:=C.ext i
    have F:=F.trans i;refine SW.nil (ah.sf i ?_);refine SF.two 5 9 Z Z bm Z Z ?_ ?_
    focus
     refine Wk (oR l[j] q t _ I.rd W (zd _ N) (ze _ N)) λv w7 i T=>?_;obtain⟨o,ho,q',x',rfl,D,E⟩:=T;have D:=D.own (I.ext i) F.size;have E:=E.low F.size;obtain⟨F,r,z,I,H⟩:=dz i F r z I H;try have C:=C.ext i
     try have p:=p.ext i
     refine SW.nil (ah.sf i ?_);refine Wf ?_;refine Wi 8 [] za Z (aH Z) (λw2 U=>aH Z) ?_;refine SF.bD 9 ?_;refine SW.alloc Z λG w9 i K C=>?_;have P:=F.up K;have zb:b7≠G:=λe=>absurd z.lt Y;have zc:b5≠G:=λe=>absurd r.lt Y;have zi:∀g,aN b f=some g->g≠G:=λg e h=>absurd (H.row.lt_size g e) Y;try have Q:J≠G:=λe=>absurd p.lt Y
     try have L:G≠J:=λe=>absurd p.lt Y
     obtain⟨r,z,I,H⟩:=cG i r z I H;try have D:=D.ext i
     try have E:=E.ext i
     try have p:=p.ext i
     have F:=F.trans i;refine SW.nil (ah.sf i ?_);refine SF.eW ?_;refine Wh C (aB q') λw8 g C=>?_;obtain⟨z,r,F,p,H,D,E⟩:=iX g z r F p H D E;have U:True:=trivial;refine SW.nil (ah.sg U ?_)
    rotate_left
    focus
     refine SW.alloc Z λG w9 i K C=>?_;have P:=F.up K;have zb:b7≠G:=λe=>absurd z.lt Y;have zc:b5≠G:=λe=>absurd r.lt Y;have zi:∀g,aN b f=some g->g≠G:=λg e h=>absurd (H.row.lt_size g e) Y;try have Q:J≠G:=λe=>absurd p.lt Y
     try have L:G≠J:=λe=>absurd p.lt Y
     obtain⟨r,z,I,H⟩:=cG i r z I H;try have D:=D.ext i
     try have E:=E.ext i
     try have p:=p.ext i
     have F:=F.trans i;refine SW.nil (ah.sf i ?_);refine SF.bD 5 ?_;refine Wk (oR l[j] q t _ I.rd W (zd _ N) (ze _ N)) λv w7 i T=>?_;obtain⟨o,ho,q',x',rfl,D,E⟩:=T;have D:=D.own (I.ext i) F.size;have E:=E.low F.size;obtain⟨F,r,z,I,H⟩:=dz i F r z I H;try have C:=C.ext i
     try have p:=p.ext i
     refine SW.nil (ah.sf i ?_);refine Wf ?_;refine Wi 8 [] za Z (aH Z) (λw2 U=>aH Z) ?_;refine SF.eW ?_;refine Wh C (aB q') λw8 g C=>?_;obtain⟨z,r,F,p,H,D,E⟩:=iX g z r F p H D E;have U:True:=trivial;refine SW.nil (ah.sg U ?_)
    rotate_left
   rotate_left 2
   all_goals
    refine SG.dQ ?_;refine Wg p (pC x') λw8 zh hg=>?_;have hG:=p.gr hg;have R:ja w8 w.heap.size b j f rs xs:=⟨H.row.grown hg (.inr λe=>absurd Z (zg _ e)),H.each.mono λ_ _ h=>h.aQ hG Z⟩;have F:=F.own O hg;obtain⟨r,z,C,D,E⟩:=dz hG r z C D E;have p:=zh;obtain⟨o1,o2⟩:=o;simp only at D E⊢;have zx:=nm l[j] t _ W ho;refine Wz ?_;refine Wh z (aB q') λw8 g z=>?_;obtain⟨r,F,p,R,D,E⟩:=fi g r F p R D E;refine Wz ?_;refine SW.bz Z Z Z Z Z λzJ w9 zo zy zp=>?_;obtain⟨F,r,z,D,E,R⟩:=fi zo F r z D E R;refine SW.append R.row (ay.la (enc:=dE) zp) F.size Z Z Z Y Y λY2 f2 zK zz hg=>?_;have hG:=R.row.gr hg;have F:=au F hg (Ph _) R.row.az;have zA:=R.each.mono λ_ _ h=>h.aQ (t:=49) hG Z;obtain⟨r,z,D,E⟩:=cG hG r z D E;refine Wz ?_;have zq:=n9.snoc hR ho;rw[<-Pk zn]at zq;exact ah.again ⟨j+1,Y2,f2,rs++[x'],xs++[o2],q',o1⟩ ⟨Z,Z,Z,Z,Z,trivial⟩ dD ⟨by simp only;omega,F,r,z,D,⟨zz,zA.snoc E⟩,zq,zx⟩
 obtain rfl:j=k:=Y;rw[Pl Y]at hR;refine Wz ?_;refine CW.any 3 mixed (cy bm) Z λw1 zf za=>?_;obtain⟨F,r,z,I,H⟩:=dz zf F r z I H;refine Wa ?_;refine SA.fH ?_;refine Wh r (aB q) λzL g zr=>?_;obtain⟨F,I,H⟩:=aY g F I H;refine Wz ?_;exact ah.sH Z Z Z Z zr Z ⟨_,Z,F,_,zm _ _ hR,b,j,f,rs,q,Z,H,I⟩
theorem Lr(A:Option Addr)(n c:Nat)(B:Option Addr)(m d:Nat)(x y:List Region)(split least cpus:Int)(X:Option Addr)(k e:Nat)(l:List ff)(w:World)(I:Sl w 2 eV A n x)(J:Sl w 2 eV B m y)(K:n<=9223372036854775807)(L:m<=9223372036854775807)(r: -9223372036854775808<=split∧split<=9223372036854775807)
 (M:jD w) (N:Sl w 7 pB X k l) (O:k<=9223372036854775807) (D:300<k):
 aS prog 4 [.agg (gw A n c B m d split least cpus).toArray,.slice X k e] w λv P=>∃o,pM (iK 256 x y) split least cpus l o∧Dl w.heap.size o v P:=by
 refine Wj func4 ntmps4 ?_;refine Ww λW w1 a E b=>?_;have Q:=N.len;have l2:=b.lt;refine Wz ?_;refine SW.alloc Z λb5 R s j f=>?_;have F:=a.up j;obtain⟨a,b⟩:=bk s a b;refine Wz ?_;refine Wk (Ez A n c B m d x y split least cpus _ (I.ext a) (J.ext a) K L r (M.ext a)) λv w5 t i=>?_;obtain⟨u,G,S,rfl,h⟩:=i;have h:=h.low a.size;obtain⟨a,b,f⟩:=aY t a b f;obtain⟨u1,T⟩:=u;simp only at h⊢;refine Wz ?_;have l5:=f.lt;refine Wr (aB S) λb7 R p q U=>?_;have H:=a.up q;obtain⟨a,b,f,h⟩:=cG p a b f h;by_cases z:T=0
 ·have i:=pM.size (l:=l) G z Y;subst z;refine Wz ?_;refine Wh f (aB .zero) λV g C=>?_;have a:=jc g a;refine Wz ?_;exact ah.sH Z Z Z Z C Z ⟨_,Z,a,_,i,none,0,0,[],.zero,Z,ja.cq _ _ _,Own.cq _ _ _ _ _ _,ik.zero _ _,⟨[],dJ.nil _ _⟩⟩
 have i:=pM.fault (l:=l) G z;simp only at i;refine Wz ?_;refine Wh f (aB .zero) λV g C=>?_;have a:=jc g a;refine Wz ?_;exact ah.sH Z Z Z Z C Z ⟨_,Z,a,_,i,none,0,0,[],.zero,Z,ja.cq _ _ _,Own.cq _ _ _ _ _ _,ik.zero _ _,⟨[],dJ.nil _ _⟩⟩
theorem AK(A:Option Addr)(n c:Nat)(B:Option Addr)(m d:Nat)(x y:List Region)(split least cpus:Int)(X:Option Addr)(k e:Nat)(l:List ff)(w:World)(r:Sl w 2 eV A n x)(t:Sl w 2 eV B m y)(z:n<=9223372036854775807)(C:m<=9223372036854775807)(b: -9223372036854775808<=split∧split<=9223372036854775807)
 (D:jD w) (f:nq w) (i:Sl w 7 pB X k l) (j:k<=9223372036854775807) (p:∀a∈l,a.Name.size<=140737488351232) (q:∀a∈l,-9223372036854775808<=a.At∧a.At<=9223372036854775807):
 aS prog 4 [.agg (gw A n c B m d split least cpus).toArray,.slice X k e] w λv E=>∃o,pM (iK 256 x y) split least cpus l o∧Dl w.heap.size o v E:=by
 by_cases h:k<=300
 ·refine aS.mono (Mh my A n c B m d x y split least cpus X k e l w r t z C b D f i h (λu G g=>qV G g) (λs H=>H.sys.bU) (λa F=>rz.named (Ml a (p a F) (q a F))) (λa _=>nm a)) λv E _⟨o,I,J⟩=>⟨o,?_,J⟩;have K:=i.len;cases I with
  | fault h g=>exact .fault h g
  | Ll h g L=>exact .Ll h g Y L
 exact Lr A n c B m d x y split least cpus X k e l w r t z C b D i j Y
theorem vR(A:Option Addr)(n c:Nat)(rs:List Ac)(B:Option Addr)(m d:Nat)(b:List Ac)(xs:List kT)(lo i:Nat)(w:World)(g:ja w lo A n c rs xs)(hb:ja w i B m d b xs)(u:xs.length<=300)(r:∀y∈xs,y.L.length<=256):
 aS prog 6 [.slice A n c,.slice B m d] w λv _=>v= .bool true:=by
 refine Wj func6 ntmps6 ?_;have a:=Ext.refl w;have x:=g.len;have z:=hb.len;have C:=g.row.len;have D:=hb.row.len;have E:=g.row.sl.base;have F:=hb.row.sl.base;refine Wz ?_;refine CW.loop (λk:Nat=>[(0,.slice A n c),(1,.slice B m d),(5,Iv (k:Int))]) (λk f=>k<=n∧Ext w f) (λk=>n-k) 0 ⟨rfl,rfl,rfl,trivial⟩ ⟨PL _,a⟩ ?_;rintro k f ⟨G,a⟩;by_cases j:k<n
 ·have l:k<m:=Y;have o:=g.row.sl.all j;have p:=hb.row.sl.all l;have h:=g.each.get k Y Y;have ob:=hb.each.get k Y Y;have H:=r _ (Pf (show k<xs.length by omega));have I:=h.list.len;have J:=h.code;have K:=ob.code;have L:=h.n;have M:=ob.n
  have s:∀f,Ext w f->aS prog 13 [.slice rs[k].L.A rs[k].L.n rs[k].L.c,.slice b[k].L.A b[k].L.n b[k].L.c] f λv _=>v= .bool true:=λf q=>by
   have:=jV _ _ _ _ rs[k].L.c b[k].L.c _ _ f (h.list.sl.ext q) (ob.list.sl.ext q) Y;simpa using this
  refine Wz ?_;(apply CW.dF mixed;(·kernel_rfl);rotate_left;intro t e;have a:=a.trans e;rotate_right);repeat'(first|refine Wz ?_|(refine CW.bo Z ?_)|refine Wn a (o 0 (Iv rs[k].Code) Z) ?_|refine Wn a (p 0 (Iv b[k].Code) Z) ?_|refine Wn a (o 1 (Iv rs[k].N) Z) ?_|refine Wn a (p 1 (Iv b[k].N) Z) ?_|refine Wn a (o 2 (.slice rs[k].L.A rs[k].L.n rs[k].L.c) Z) ?_|refine Wn a (p 2 (.slice b[k].L.A b[k].L.n b[k].L.c) Z) ?_|refine SW.ba Z Z (λt e=>(s _ (a.trans e))) ?_|exact SW.br Z)
  all_goals try omega
  skip;exact ah.again (k+1) ⟨Z,Z,Z,trivial⟩ Y ⟨by omega,a⟩
 refine Wz ?_;exact ah.aF Z Z ⟨_,Z,a,Z⟩
theorem Ds(A:Option Addr)(n c:Nat)(B:Option Addr)(m d:Nat)(x y:List Region)(split least cpus:Int)(X:Option Addr)(k e:Nat)(l:List ff)(w:World)(hx:Sl w 2 eV A n x)(hy:Sl w 2 eV B m y)(hn:n<=9223372036854775807)(hm:m<=9223372036854775807)(K: -9223372036854775808<=split∧split<=9223372036854775807)
 (F:jD w) (G:nq w) (hl:Sl w 7 pB X k l) (zh:k*64<=140737488355328) (L:∀a∈l,a.Name.size<=140737488351232) (M:∀a∈l,-9223372036854775808<=a.At∧a.At<=9223372036854775807):
 aS prog 3 [.agg (gw A n c B m d split least cpus).toArray,.slice X k e] w λv _=>v= .bool true:=by
 refine Wj func3 ntmps3 ?_;refine Ww λb2 w1 j zf r=>?_;have zi:=hl.len;refine Wz ?_
 focus
  refine CW.iF 10 11 (λ_=>True) mixed bm λw1 z S=>?_;obtain⟨j,r⟩:=bk z j r;refine Wf ?_;refine SF.two 2 8 Z Z bm Z Z ?_ ?_
  focus
   refine SW.qZ (Qk k) (Qb l) (Own.cq _ w.heap.size _ _ pB none) (hl.ext j) j.size Z Z Z Y Y λb f w2 J N=>?_;have i:=au (Ext.refl _) N (Ph _) (by simp[aN]);obtain⟨j,r⟩:=bk i j r;try have p:=p.ext i
   refine SW.nil (ah.sf i ?_);refine SF.two 3 8 Z Z bm Z Z ?_ ?_
   focus
    refine Wk (AK A n c B m d x y split least cpus b k f l _ (hx.ext j) (hy.ext j) hn hm K (F.ext j) (G.ext j) J.sl Y L M) λv w3 i O=>?_;obtain⟨o,ho,h,zn,zc,rs,q,rfl,s,u⟩:=O;obtain⟨j,r⟩:=bk i j r;try have p:=p.ext i
    refine SW.nil (ah.sf i ?_);refine Wf ?_;refine Wi 7 [] S Z (aH Z) (λw2 F=>aH Z) ?_;refine SF.bD 8 ?_;refine SW.alloc Z λb6 w8 i C p=>?_;have H:=j.up C;obtain⟨j,r⟩:=bk i j r;try have J:=J.ext i
    try have s:=s.ext i
    try have u:=u.ext i
    refine SW.nil (ah.sf i ?_);refine Wf ?_;refine SF.eW ?_;refine Wg p (aB q) λw9 za N=>?_;have hG:=p.gr N;have j:=j.own H N;obtain⟨r,s,u⟩:=aY hG r s u;have p:=za;have F:True:=trivial;refine SW.nil (ah.sg F ?_)
   rotate_left
   focus
    refine SW.alloc Z λb6 w8 i C p=>?_;have H:=j.up C;obtain⟨j,r⟩:=bk i j r;try have J:=J.ext i
    try have s:=s.ext i
    try have u:=u.ext i
    refine SW.nil (ah.sf i ?_);refine SF.bD 3 ?_;refine Wk (AK A n c B m d x y split least cpus b k f l _ (hx.ext j) (hy.ext j) hn hm K (F.ext j) (G.ext j) J.sl Y L M) λv w3 i O=>?_;obtain⟨o,ho,h,zn,zc,rs,q,rfl,s,u⟩:=O;obtain⟨j,r⟩:=bk i j r;try have p:=p.ext i
    refine SW.nil (ah.sf i ?_);refine Wf ?_;refine Wi 7 [] S Z (aH Z) (λw2 F=>aH Z) ?_;refine Wf ?_;refine SF.eW ?_;refine Wh p (aB q) λw9 g p=>?_;obtain⟨j,r,s,u⟩:=cG g j r s u;have F:True:=trivial;refine SW.nil (ah.sg F ?_)
   rotate_left
  rotate_left 2
  focus
   refine SW.alloc Z λb6 w8 i C p=>?_;have H:=j.up C;obtain⟨j,r⟩:=bk i j r;try have J:=J.ext i
   try have s:=s.ext i
   try have u:=u.ext i
   refine SW.nil (ah.sf i ?_);refine SF.bD 2 ?_;refine SW.qZ (Qk k) (Qb l) (Own.cq _ w.heap.size _ _ pB none) (hl.ext j) j.size Z Z Z Y Y λb f w2 J N=>?_;have i:=au (Ext.refl _) N (Ph _) (by simp[aN]);obtain⟨j,r⟩:=bk i j r;try have p:=p.ext i
   refine SW.nil (ah.sf i ?_);refine SF.bD 3 ?_;refine Wk (AK A n c B m d x y split least cpus b k f l _ (hx.ext j) (hy.ext j) hn hm K (F.ext j) (G.ext j) J.sl Y L M) λv w3 i O=>?_;obtain⟨o,ho,h,zn,zc,rs,q,rfl,s,u⟩:=O;obtain⟨j,r⟩:=bk i j r;try have p:=p.ext i
   refine SW.nil (ah.sf i ?_);refine Wf ?_;refine Wi 7 [] S Z (aH Z) (λw2 F=>aH Z) ?_;refine Wf ?_;refine SF.eW ?_;refine Wh p (aB q) λw9 g p=>?_;obtain⟨j,r,s,u⟩:=cG g j r s u;have F:True:=trivial;refine SW.nil (ah.sg F ?_)
  rotate_left
  all_goals
   refine SG.dQ ?_;refine Wz ?_;refine Wk (Jp A n c B m d x y split least cpus X k e l _ (hx.ext j) (hy.ext j) hn hm K (hl.ext j) Y L M) λv w5 i O=>?_;obtain⟨o',ze,Z2,T,U,zb,q2,rfl,D,E⟩:=O;obtain rfl:=ho.c7 ze;obtain⟨j,p,s,u⟩:=cG i j p s u;have V:=ho.small;have zd:=ho.lens;obtain⟨o1,xs,t⟩:=o;simp only at s D u E V zd⊢;refine Wz ?_;refine SW.alloc Z λb9 w1 z Q P=>?_;refine Wz ?_;refine Wg P (aB q2) λw2 R N=>?_;have i:=z.own Q N;have zg:=j.up Q;obtain⟨j,p,s,u,D,E⟩:=fi i j p s u D E;have P:=R;have cA:∀I lo W,ja I lo h zn zc rs xs->ja I W Z2 T U zb xs->aS prog 6 [.slice h zn zc,.slice Z2 T U] I λv _=>v= .bool true:=λI lo W h1 h2=>vR h zn zc rs Z2 T U zb xs lo W I h1 h2 V.2 zd;have cS:∀I,mB I q t->mB I q2 t->aS prog 7 [.agg (ar q).toArray,.agg (ar q2).toArray] I λv _=>v= .bool true:=λI h1 h2=>xT q q2 t I h1 h2 V.1;repeat'(first|refine Wz ?_|((first|refine Wk (cA _ _ _ s D) ?_|refine Wk (cS _ u.rd E.rd) ?_);intro v w1 z O;subst O;obtain⟨j,p,P,s,u,D,E⟩:=iX z j p P s u D E))
   exact ah.aF Z Z ⟨_,Z,j,Z⟩
set_option maxRecDepth 100000
open Go.ChangeShapes Go.WideShapes Go.ChangeAt Go.RowKit Go.Deep Go.Joins
variable {b0:Nat}
section
variable {H:Type}{enc:TypeId×Value->H}{W:World}{base:Nat}{spare:Nat->Bool}{held:Bool}
theorem L8:∀fuel cs x,DataW.trod enc prog W base spare held fuel 47 cs=some x->(∀y∈x.1.weights prog 47,y<=reachBytes)->∃r:ff,cs=pB r∧(Ee r.At∧r.Name.size<=140737488351232):=by
 intro fuel cs x h w;obtain⟨xs,n,_,rfl,a,c,b⟩:=DataW.trod_struct Tryz.underlying47 h;have z:prog.cellsOf 47=7:=by kernel_rfl
 have A:prog.cellsOf 3=1:=by kernel_rfl
 have B:prog.cellsOf 9=1:=by kernel_rfl
 rw[z]at a
 match cs,a with
 | [c0,c1,c2,c3,c4,c5,c6],_=>
   match xs,c with
   | [y0,y1,y2,y3,y4,y5,y6],_=>
     have d:DataW.trod enc prog W base spare held n 3 (List.take (prog.cellsOf 3) (List.drop 0 [c0,c1,c2,c3,c4,c5,c6]))=some y0:=b 0 _ Z;have e:DataW.trod enc prog W base spare held n 3 (List.take (prog.cellsOf 3) (List.drop 1 [c0,c1,c2,c3,c4,c5,c6]))=some y1:=b 1 _ Z;have f:DataW.trod enc prog W base spare held n 3 (List.take (prog.cellsOf 3) (List.drop 2 [c0,c1,c2,c3,c4,c5,c6]))=some y2:=b 2 _ Z;have g:DataW.trod enc prog W base spare held n 3 (List.take (prog.cellsOf 3) (List.drop 3 [c0,c1,c2,c3,c4,c5,c6]))=some y3:=b 3 _ Z;have i:DataW.trod enc prog W base spare held n 3 (List.take (prog.cellsOf 3) (List.drop 4 [c0,c1,c2,c3,c4,c5,c6]))=some y4:=b 4 _ Z;have k:DataW.trod enc prog W base spare held n 3 (List.take (prog.cellsOf 3) (List.drop 5 [c0,c1,c2,c3,c4,c5,c6]))=some y5:=b 5 _ Z;have l:DataW.trod enc prog W base spare held n 9 (List.take (prog.cellsOf 9) (List.drop 6 [c0,c1,c2,c3,c4,c5,c6]))=some y6:=b 6 _ Z;rw[A]at d e f g i k;rw[B]at l;have C:=Ka Tryz.underlying47 (j:=6) Z Z w;obtain⟨D,m,L⟩:=mY Tryz.underlying3 d;obtain⟨E,o,M⟩:=mY Tryz.underlying3 e;obtain⟨F,p,N⟩:=mY Tryz.underlying3 f;obtain⟨G,q,O⟩:=mY Tryz.underlying3 g;obtain⟨H,t,I⟩:=mY Tryz.underlying3 i;obtain⟨J,u,P⟩:=mY Tryz.underlying3 k;obtain⟨s,v,K⟩:=LR _ _ _ l C;simp[aT,encStr]at m o p q t u v;subst m o p q t u v;exact⟨⟨D,E,F,G,H,J,s⟩,Z,I,K⟩
theorem I4{r:Reach}{v:Value}{d:DataW H}{p:List MemPlace}(j:Value.okWide prog W r b0 27 v)(h:DataW.Trod enc prog W base spare held 27 v d p)(k:∀y∈d.weights prog 27,y<=reachBytes):
 ∃A n c l,v= .slice A n c∧Sl W 7 pB A n l∧n*64<=140737488355328∧(∀a∈l,a.Name.size<=140737488351232)∧∀a∈l,-9223372036854775808<=a.At∧a.At<=9223372036854775807:=by
 obtain⟨m,e,cap,rfl⟩:=okWide_slice (bL.mg (P:=prog) (t:=27)) j;obtain⟨fuel,o⟩:=h;obtain⟨A,n,c,l,g,q,s,i⟩:=Kb (t:=27) (b:=64) bm bm L8 o k;simp[Value.cells]at g;obtain⟨rfl,rfl,rfl⟩:=g;exact⟨m,e,cap,l,Z,q,by omega,λa f=>(i a f).2,λa f=>(i a f).1⟩
end
end Go.Proofs.YtdlfabkacdgneaaGreatDoor
