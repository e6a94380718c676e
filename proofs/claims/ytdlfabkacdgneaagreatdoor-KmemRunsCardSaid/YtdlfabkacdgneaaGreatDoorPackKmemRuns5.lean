/- Part 5 of what kmemRuns_holds leans on. -/
import Derived.Test.YtdlfabkacdgneaaGreatDoorPackKmemRuns2
import Derived.Test.YtdlfabkacdgneaaGreatDoorPackKmemRuns3
set_option maxHeartbeats 16000000
set_option linter.unusedVariables false
set_option linter.unusedSimpArgs false
set_option linter.defProp false
open Go.Proofs.Tryz
namespace Go.Proofs.YtdlfabkacdgneaaGreatDoor
open Go.RowKit
variable {α:Type} {b i:Nat} {A:Option Addr} {P:Program} {w:World}
theorem Sl.Od{S n:Nat}{E:α->List Value}{l:List α}[I:gG E S](h:Sl w S E A n l)(b:0<S)(c:0<n):∃a,A=some a∧∀j v,(l.flatMap E)[j]?=some v->w.cell? (a.add j)=some v:=by
 obtain⟨a,rfl⟩:=PM.1 (h.base c);exact⟨a,Z,jz b h⟩
theorem ay.cut{S g T:Nat}{E:α->List Value}{P R:List Value}[I:gG E S](m:Nat)(h:ay w g T (P++R))(d:(m+1)*S<=R.length):
 ∃a b c,ay w g T (P++(a++b++c))∧a.length=S∧b.length=m*S∧c.length+(m+1)*S=R.length:=by
 rw[Qa]at d⊢;refine⟨R.take S,(R.drop S).take (m*S),R.drop (S+m*S),?_,?_,?_,?_⟩
 ·rwa[Po (R.take S),<-List.drop_drop,Pz,Pz]
 all_goals simp
 all_goals omega
theorem MM{U T R S:Nat}[I:bL P U T S]{g n c:Nat}{x y:List Value}(a:ay w b T x)(f:ay w g T y)(d:g≠b)(k:0<y.length)(h:c≠i+1):
 (Extern.SlicesOverlaps.overlaps #[U,U] #[R] #[.slice (some ⟨b,0,none⟩) 1 1,.slice (if c=i+1 then(some ⟨g,0,none⟩)else(some (⟨g,0,none⟩:Addr)).map (·.add ((i+1)*S))) (n+1-(i+1)) (c-(i+1))]).run P w= .ok (.bool false) w:=by
 rw[if_neg h,Option.map_some,iI];unfold ay at a f
 exact Lib.run_overlaps_apart w U R T (bL.mg (t:=U)) S (λj=>run_sizeOf (bL.size (t:=U)) j) ⟨b,0,none⟩ ⟨g,(i+1)*S,none⟩ 1 1 _ _ (λe=>d e.symm) T T x.toArray.size y.toArray.size
  (by simp only[World.shape?,a]) (by simp only[World.shape?,f]) (by rw[List.size_toArray];omega) (by simp[World.frozen?,a]) (by simp[World.frozen?,a])
def DT(f T S:Nat):Prop:=(f=156∧T=129∧S=3)∨(f=207∧T=100∧S=4)∨(f=215∧T=60∧S=3)∨(f=163∧T=9∧S=1)∨(f=166∧T=58∧S=6)
def IT(f T S B v U:Nat):Prop:=(f=75∧T=129∧S=3∧B=24∧v=150∧U=32)∨(f=248∧T=60∧S=3∧B=24∧v=252∧U=56)∨(f=213∧T=100∧S=4∧B=48∧v=236∧U=31)∨(f=67∧T=9∧S=1∧B=16∧v=138∧U=55)
theorem oZ{D:Type}{E:D->List Value}{f T S:Nat}[gG E S](B:DT f T S)(A:Option Addr)(n c lo:Nat)(l:List D)(w:World)(b:Own w lo T S E A n c l)(i:Nat)(P:i<n)(Q:n<=1000000000000000000)(C:lo<=w.heap.size):
 jX prog f [.slice A n c,Iv (i:Int),Iv ((i+1:Nat):Int)] w λv t=>v= .slice A (n-1) c∧Own t lo T S E A (n-1) c (l.eraseIdx i)∧w.grownBy t (aN A c):=by
 have F:=b.le;have G:=b.len;have R:=b.sl.base;have p:=Ext.refl w;have u:i+(n-(i+1))=n-1:=Y;have H:l.take i++l.drop (i+1)=l.eraseIdx i:=by rw[PV]
 obtain⟨o,x⟩:=Ni ((n-1)*S);rcases B with⟨rfl,rfl,rfl⟩|⟨rfl,rfl,rfl⟩|⟨rfl,rfl,rfl⟩|⟨rfl,rfl,rfl⟩|⟨rfl,rfl,rfl⟩
 refine c8 func156 rfl ntmps156 rfl ?_;rotate_left;refine c8 func207 rfl ntmps207 rfl ?_;rotate_left;refine c8 func215 rfl ntmps215 rfl ?_;rotate_left;refine c8 func163 rfl ntmps163 rfl ?_;rotate_left;refine c8 func166 rfl ntmps166 rfl ?_;rotate_left
 all_goals
  repeat'(first|refine Wz ?_|(refine SW.st (HJ (i:=i) (j:=i+1) (k:=n) rfl rfl rfl rfl Y Y Y) rfl ?_))
  all_goals try omega
  refine CW.any 6 mixed (cy bm) rfl λU d e=>?_;obtain⟨p,b⟩:=bk d p b;refine Wa ?_;refine Wu 2 e Z (gl (k:=i) Z Z Y) ?_;refine Wa ?_;refine Wu 5 e Z (dG (k:=i+1) Z Z Y Y) ?_;refine SA.fH ?_;refine SW.JN (b.pre (i:=i) Y) (b.sl.drop (i+1) c Y Y) Y Z Z Z λV a I=>?_;rw[u,H]at a;rw[u];have q:=(p.gr (aN A c));repeat'(first|refine Wz ?_|(refine SW.st (mO (i:=n-1) (j:=n) Z Z Z Y Y) Z ?_))
  obtain⟨g,rest,rfl,J,K,W,L,M,N⟩:=a.opened Y;have h:((l.eraseIdx i).flatMap E).length=o:=by rw[bc,a.len,x]
  refine SW.clear o K Z (by rw[PI,h];omega) (λX=>?_) ir λw3 cs O y m=>?_
  ·rw[if_neg Y];simp[iI,x]
  have z:=nB ((l.eraseIdx i).flatMap E) (rest.take cs.length) (rest.drop cs.length) cs (by rw[P3];omega) (o:=o) h.symm;rw[Po (List.flatMap _ _),Pz]at z;rw[z,Po]at y;have r:=Own.closed (l:=l.eraseIdx i) a.len y (by rw[PI,QF];omega) L Y M J;rw[<-N]at m;have s:=cU (cU q I (.inl Z)) m (.inl Z);refine Wz ?_;exact ah.aF Z Z ⟨_,Z,Z,r,s⟩
theorem nC{D:Type}{E:D->List Value}{f T S B v U:Nat}[gG E S](hT:IT f T S B v U)(A:Option Addr)(n c lo:Nat)(l:List D)(w:World)(z:Own w lo T S E A n c l)(i:Nat)(hi:i<=n)(x:D)(b:Nat)(C:ay w b T (E x))(zd:aN A c≠some b)(hn:(n+1)*B<=140737488355328)(R:lo<=w.heap.size):
 jX prog f [.slice A n c,Iv (i:Int),.slice (some ⟨b,0,none⟩) 1 1] w λv w'=>∃A' c',v= .slice A' (n+1) c'∧Own w' lo T S E A' (n+1) c' (aP l i x)∧w.grownBy w' (aN A c)∧∀k,aN A' c'=some k->aN A c=some k∨w.heap.size<=k:=by
 have zm:=z.le;have ze:=z.len;have hA:=z.sl.base;have s:=Ext.refl w;have zf:Sl w S E (some ⟨b,0,none⟩) 1 [x]:=ay.la C;have a:(E x).length=S:=gG.len x
 have H:∀(q:List D)(v:Value),v∈q.flatMap E->v.oneCell'=true:=λq v V=>by
  obtain⟨u,_,hu⟩:=Py.1 V;exact gG.one (enc:=E) u v hu
 obtain⟨o,ho⟩:=Ni (i*S);obtain⟨o1,W⟩:=Ni ((i+1)*S);have I:((l.take i).flatMap E).length=o:=by rw[bc,P3,Nat.min_eq_left Y,ho]
 have F:((l.drop i).flatMap E).length=(n-i)*S:=by rw[bc,QF,ze]
 have es:∀r,l.flatMap E++r=(l.take i).flatMap E++((l.drop i).flatMap E++r):=λr=>by rw[<-Po,<-PP,Pz]
 have ei:∀r,(aP l i x).flatMap E++r=(l.take i).flatMap E++E x++(l.drop i).flatMap E++r:=λr=>by unfold aP;simp
 have ev:∃q,prog.funcs[v]? =some q∧(q.name== "runtime.NumGoroutine")=false∧q.body.isNone=true∧Extern.findNext q=none∧Extern.find q=some (Extern.SlicesOverlaps.overlaps #[U,U] #[4]):=by
  rcases hT with⟨_,_,_,_,rfl,rfl⟩|⟨_,_,_,_,rfl,rfl⟩|⟨_,_,_,_,rfl,rfl⟩|⟨_,_,_,_,rfl,rfl⟩
  ·exact⟨_,func150,by kernel_rfl,by kernel_rfl,by kernel_rfl,by kernel_rfl⟩
  ·exact⟨_,func252,by kernel_rfl,by kernel_rfl,by kernel_rfl,by kernel_rfl⟩
  ·exact⟨_,func236,by kernel_rfl,by kernel_rfl,by kernel_rfl,by kernel_rfl⟩
  exact⟨_,func138,by kernel_rfl,by kernel_rfl,by kernel_rfl,by kernel_rfl⟩
 obtain⟨q,q1,q2,q3,q4,q5⟩:=ev;rcases hT with⟨rfl,rfl,rfl,rfl,rfl,rfl⟩|⟨rfl,rfl,rfl,rfl,rfl,rfl⟩|⟨rfl,rfl,rfl,rfl,rfl,rfl⟩|⟨rfl,rfl,rfl,rfl,rfl,rfl⟩
 refine c8 func75 rfl ntmps75 rfl ?_;rotate_left;refine c8 func248 rfl ntmps248 rfl ?_;rotate_left;refine c8 func213 rfl ntmps213 rfl ?_;rotate_left;refine c8 func67 rfl ntmps67 rfl ?_;rotate_left
 all_goals
  by_cases zg:i=n
  ·subst zg;repeat'(first|refine Wz ?_|(refine SW.st (dG (k:=i) rfl rfl Y Y) rfl ?_))
   all_goals try omega
   refine SW.GV z zf R Y rfl rfl rfl Y Y λA2 c2 w2 J=>?_;refine Wz ?_;have e:aP l i x=l++[x]:=by unfold aP;rw[Pl Y,QA Y];simp
   refine ah.aF Z Z ⟨_,Z,A2,c2,Z,?_⟩;rw[e];rcases J with⟨rfl,rfl,P,h⟩|⟨P,h⟩
   ·exact⟨P,h,λk e=> .inl e⟩
   exact⟨P.low R,(au (Ext.refl w) h (Ph _) (λk e=>by cases e)).gr _,λk e=> .inr (P.az k e)⟩
  by_cases K:n+1<=c
  ·obtain⟨g,rest,rfl,P,h,h3,h4,h5,h6⟩:=z.opened Y;have L:g≠b:=λe=>zd (by rw[h6,e]);have X:=z.sl.drop i c Y Y;rw[es]at h;obtain⟨D1,D2,D3,h,M,Q,f3⟩:=ay.cut (E:=E) (n-i) h (by rw[PI,F];omega);rw[PI,F]at f3;repeat'(first|refine Wz ?_|(refine CW.bQ Z ?_)|(refine SW.st (dG (k:=i) Z Z Y Y) Z ?_)|(refine SW.st (gl (k:=n+1) Z Z Y) Z ?_)|(refine SW.st (dG (k:=i+1) Z Z Y Y) Z ?_)|(refine SW.entry q1 q2 q3 q4 q5 Z Z (MM C h L (by simp only[List.length_append];omega) Y) ?_))
   all_goals try omega
   refine CW.any 8 mixed (cy bm) Z λw1 t y=>?_;obtain⟨s,z,C,h⟩:=cG t s z C h;refine Wa ?_;refine Wu 4 y Z (dG (k:=i+1) Z Z Y Y) ?_;refine Wa ?_;refine Wu 7 y Z (dG (k:=i) Z Z Y Y) ?_;refine SA.fH ?_;refine SW.copy (k:=n-i) o1 ((l.drop i).flatMap E) h Z Z Z Y F (by simp only[List.length_append,I,F,M,Q];omega) (λh0=>⟨by rw[if_neg Y];simp[iI,W],(X.ext s).Od Y h0⟩) (H _) λw3 m G=>?_;have g1:=nB ((l.take i).flatMap E++D1) D2 D3 ((l.drop i).flatMap E) (by rw[F,Q]) (o:=o1) (by rw[PI,I,M];omega);rw[<-Po,<-Po,g1]at m;have zh:=cU (s.gr (aN (some ⟨g,0,none⟩) c)) G (.inl h6.symm);have zi:=C.grown G (by simpa using λe=>L e.symm);repeat'(first|refine Wz ?_|(refine SW.st (dG (k:=i) Z Z Y Y) Z ?_))
   refine SW.copy (k:=1) o (E x) m Z Z Z Y a (by simp only[List.length_append,I,F,M,a];omega) (λh0=>⟨by rw[if_neg Y];simp[iI,ho],⟨b,0,none⟩,Z,λj v V=>zi.cell V⟩) (gG.one (enc:=E) x) λw4 d N=>?_;have g2:=nB ((l.take i).flatMap E) D1 ((l.drop i).flatMap E++D3) (E x) (by rw[a,M]) (o:=o) I.symm;rw[Po,g2,<-Po,<-ei]at d;have O:=Own.closed (n:=n+1) (c:=c) (l:=aP l i x) (by unfold aP;simp;omega) d Y K Y h5 P;have zj:=cU zh N (.inl h6.symm);refine Wz ?_;exact ah.aF Z Z ⟨_,Z,_,_,Z,O,zj,λk e=> .inl e⟩
  have zn:c=n:=Y;have za:=z.sl.pre (i:=i) Y;repeat'(first|refine Wz ?_|(refine SW.st (dG (k:=i) Z Z Y Y) Z ?_)|(refine SW.st (gl (k:=i) Z Z Y) Z ?_))
  all_goals try omega
  refine SW.LH (k:=n+1-i) za Tryz.underlying3 Z Z Y Z Y Y Y Y λg rest c2 w2 zk zb h h3 h4 h5=>?_;obtain⟨D1,D2,D3,h,M,Q,f3⟩:=ay.cut (E:=E) (n-i) h Y;have L:b≠g:=by have:=C.lt;omega
  obtain⟨C,s⟩:=bk zk C s;repeat'(first|refine Wz ?_|(refine SW.st (dG (k:=i) Z Z Y Y) Z ?_))
  refine SW.copy (k:=1) o (E x) h Z Z Z Y a (by simp only[List.length_append,I,M,Q,a];omega) (λh0=>⟨by rw[if_neg Y];simp[iI,ho],⟨b,0,none⟩,Z,λj v V=>C.cell V⟩) (gG.one (enc:=E) x) λw3 m G=>?_;have g2:=nB ((l.take i).flatMap E) D1 (D2++D3) (E x) (by rw[a,M]) (o:=o) I.symm;rw[Po D1,<-Po,g2,<-Po]at m;have zc:Ext w w3:=s.own zb G;have p:=(z.sl.drop i c Y Y).ext zc;have s:=zc;refine Wz ?_;refine CW.any 8 mixed (cy bm) Z λw1 t y=>?_;obtain⟨s,m,p⟩:=aY t s m p;refine Wa ?_;refine Wu 4 y Z (dG (k:=i+1) Z Z Y Y) ?_;refine Wa ?_;refine Wu 7 y Z (dG (k:=i) Z Z Y Y) ?_;refine SA.fH ?_;refine SW.copy (k:=n-i) o1 ((l.drop i).flatMap E) m Z Z Z Y F (by simp only[List.length_append,I,F,Q,a];omega) (λh0=>⟨by rw[if_neg Y];simp[iI,W],p.Od Y h0⟩) (H _) λw4 d N=>?_;have g4:=nB ((l.take i).flatMap E++E x) D2 D3 ((l.drop i).flatMap E) (by rw[F,Q]) (o:=o1) (by rw[PI,I,a];omega);rw[g4,<-ei]at d;have O:=Own.closed (n:=n+1) (c:=c2) (lo:=lo) (l:=aP l i x) (by unfold aP;simp;omega) d Y Y Y h5 Y;have zl:Ext w w4:=s.own zb N;have e9:i+(n+1-i)=n+1:=Y;refine Wz ?_;rw[e9]
  exact ah.aF Z Z ⟨_,Z,_,_,Z,O,zl.gr _,λk e=> .inr (by
   have:k=g:=by
    unfold aN at e;split at e
    ·cases e
    simpa using e.symm
   omega)⟩
theorem iB:IT 75 129 3 24 150 32:=by simp[IT]
theorem iS:IT 248 60 3 24 252 56:=by simp[IT]
theorem iL:IT 213 100 4 48 236 31:=by simp[IT]
theorem iC:IT 67 9 1 16 138 55:=by simp[IT]
theorem dB:DT 156 129 3:=by simp[DT]
theorem dL:DT 207 100 4:=by simp[DT]
theorem dS:DT 215 60 3:=by simp[DT]
theorem dC:DT 163 9 1:=by simp[DT]
theorem dK:DT 166 58 6:=by simp[DT]
end Go.Proofs.YtdlfabkacdgneaaGreatDoor
