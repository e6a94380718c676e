/- Part 12 of what kmemRuns_holds leans on. -/
import Derived.Test.YtdlfabkacdgneaaGreatDoorPackKmemRuns10
import Derived.Test.YtdlfabkacdgneaaGreatDoorPackKmemRuns11
set_option maxHeartbeats 16000000
set_option linter.unusedVariables false
set_option linter.unusedSimpArgs false
set_option linter.defProp false
open Go.Proofs.Tryz
namespace Go.Proofs.YtdlfabkacdgneaaGreatDoor
open Go.RowKit
variable {af:Array Edge} {f:Int} {y:Operand} {g:Option (Nat×Bool)} {P:Program} {T t ty:TypeId} {w:World}
def BY(f j:Int):Int:=((f.toNat &&& j.toNat:Nat):Int)
theorem IP:∀f:Nat,f<16->(f &&& 1=f % 2)∧(f &&& 2=f / 2 % 2*2)∧(f &&& 4=f / 4 % 2*4)∧(f &&& 8=f / 8*8):=by decide
theorem rv(h:0<=f∧f<=15):BY f 1=f % 2∧BY f 2=f / 2 % 2*2∧BY f 4=f / 4 % 2*4∧BY f 8=f / 8*8:=by
 obtain⟨n,rfl⟩:∃n:Nat,f=n:=⟨f.toNat,by omega⟩;obtain⟨a,b,c,d⟩:=IP n Y;unfold BY<;>grind
theorem wc{L:Env}{d:Option Nat}{pos:String}{x:Operand}{j:Int}(a:cg L x=some (Iv f))(b:cg L y=some (Iv j))(c:0<=f∧f<=15)(e:0<=j∧j<=15):
 St P ⟨d,.binOp .and t x y ty,T,pos,af,g⟩ L w (Iv (BY f j)):=Hd f.toNat j.toNat a b Y Y Y Y
theorem Gb(f:Int)(w:World):aS prog 71 [Iv f] w λv _=>v= .tuple #[Iv (if 0<=fD f then fD f else 0),.bool (decide (0<=fD f))]:=by
 refine Wj func71 ntmps71 ?_;have d:=Ext.refl w;by_cases b:0<=f∧f<=15
 ·obtain⟨i,j,k,l⟩:=rv b;obtain⟨t,a⟩:=bq (fD f)
  have g:(f / 2 % 4=0∧t=0)∨(f / 2 % 4=1∧t=1)∨(f / 2 % 4=2∧t=2)∨(f / 2 % 4=3∧t= -1):=by
   unfold fD at a;rw[if_pos b]at a;split at a
   ·omega
   split at a
   ·omega
   split at a
   ·omega
   omega
  rw[a];rcases g with⟨c,rfl⟩|⟨c,rfl⟩|⟨c,rfl⟩|⟨c,rfl⟩
  all_goals
   repeat'(first|refine Wz ?_|(refine SW.st (wc rfl rfl Y ir) rfl ?_))
   all_goals try omega
   all_goals exact ah.cf rfl rfl rfl ⟨_,rfl,d,rfl⟩
 have e:fD f= -1:=by unfold fD;rw[if_neg b]
 rw[e];repeat'(first|refine Wz ?_|refine SW.dP rfl rfl rfl (λh=>?_) (λh=>?_))
 all_goals try omega
 all_goals exact ah.cf rfl rfl rfl ⟨_,rfl,d,rfl⟩
theorem Ba(f:Int)(w:World):aS prog 104 [Iv f] w λv _=>v=Iv (fD f):=by
 refine Wj func104 ntmps104 ?_;have b:=Ext.refl w;by_cases g:0<=f∧f<=15
 ·obtain⟨t,c⟩:=bq (fD f)
  have h:(f / 2 % 4=0∧t=0)∨(f / 2 % 4=1∧t=1)∨(f / 2 % 4=2∧t=2)∨(f / 2 % 4=3∧t= -1):=by
   unfold fD at c;rw[if_pos g]at c;split at c
   ·omega
   split at c
   ·omega
   split at c
   ·omega
   omega
  rw[c];have i:(f / 2).tmod 4=f / 2 % 4:=Pv Y;rcases h with⟨d,rfl⟩|⟨d,rfl⟩|⟨d,rfl⟩|⟨d,rfl⟩
  all_goals
   repeat'(first|refine Wz ?_|(refine Wc (bE _ _ _ _) λj a=>?_;have b:=b.trans a))
   all_goals try omega
   all_goals exact ah.aF rfl rfl ⟨_,rfl,b,rfl⟩
 have e:fD f= -1:=by unfold fD;rw[if_neg g]
 rw[e];repeat'(first|refine Wz ?_|(refine Wc (bE _ _ _ _) λj a=>?_;have b:=b.trans a))
 all_goals try omega
 all_goals exact ah.aF rfl rfl ⟨_,rfl,b,rfl⟩
structure rV(M:List Int)(m0 m1:Int):Prop where
 eq:M=[m0,m1]
 b0:0<=m0∧m0<=256
 b1:0<=m1∧m1<=256
theorem M4.KH(r:fB)(B g:cM)(s:ap×ap)(M:List Int)(m0 m1:Int)(a:Nat)(f:Int)(w:World)(o:Sl w 1 aT r.bY.A r.bY.n M)(n:Sl w 4 bu r.aK.A r.aK.n [B,g])(C:rV M m0 m1)(P:g.aE=s.2.aE)(Q:g.To=s.2.To)(R:0<=s.2.aE∧s.2.aE<=256)(S:s.2.aE<=s.2.To∧s.2.To<=256)(p:a<2)(D:0<=f∧f<=15):
 aS prog 209 [.agg (bg r).toArray,Iv (a:Int),Iv f] w λv _=>v=Iv (qL m0 m1 s a f):=by
 refine Wj func209 ntmps209 ?_;refine Ww λT E e x i=>?_;obtain⟨rfl,F,y⟩:=C;obtain⟨U,V,W,X⟩:=rv D;have hA:=n.base;have hB:=o.base;have hn:2=r.aK.n:=n.len;have G:2=r.bY.n:=o.len;have z:1<r.aK.n:=Y;have H:a<r.bY.n:=Y;have I:=n.dp z (j:=0) (u:=Iv g.aE) Z;have J:=n.dp z (j:=1) (u:=Iv g.To) Z;obtain⟨k,b⟩:=bq ((if(a:Int)=0 then m0 else m1))
 have q:[m0,m1][a]'(by simpa using p)=k:=by
  rcases PJ a 1 with h|h
  ·obtain rfl:a=0:=Y;rw[<-b];rfl
  obtain rfl:a=1:=Y;rw[<-b];rfl
 have K:=o.one H (congrArg aT q);have L:0<=k∧k<=256:=by rw[<-b];split<;>omega
 obtain⟨v,A⟩:=bq (qL m0 m1 s a f);have l:=A;unfold qL at l;rw[b]at l;rw[A];have N:f.tmod 2=f % 2:=Pv Y;have O:(8<=f∨f<8)∧((a=0∧f % 2=0)∨(a=0∧f % 2=1)∨a=1):=Y;obtain⟨d,c⟩:=O;rcases d with d|d<;>rcases c with⟨c,t⟩|⟨c,t⟩|c
 all_goals
  repeat'(first|refine Wz ?_|refine fq ?_|refine Wn e I ?_|refine Wn e J ?_|refine Wn e K ?_|(refine SW.st (wc Z Z Y ir) Z ?_)|(refine SW.br λE m=>?_;obtain⟨e,i⟩:=bk m e i))
  all_goals try omega
  refine ah.aF Z Z ⟨_,Z,e,?_⟩;congr 1
  omega
theorem EH.C9(r:fB)(B g:cM)(s:ap×ap)(M:List Int)(m0 m1:Int)(a:Nat)(f:Int)(w:World)(o:Sl w 1 aT r.bY.A r.bY.n M)(n:Sl w 4 bu r.aK.A r.aK.n [B,g])(C:rV M m0 m1)(P:g.aE=s.2.aE)(Q:g.To=s.2.To)(R:0<=s.2.aE∧s.2.aE<=256)(S:s.2.aE<=s.2.To∧s.2.To<=256)(p:a<2)(D:0<=f∧f<=15):
 aS prog 221 [.agg (bg r).toArray,Iv (a:Int),Iv f] w λv _=>v=Iv (qL m0 m1 s a f):=by
 refine Wj func221 ntmps221 ?_;refine Ww λT E e x i=>?_;obtain⟨rfl,F,y⟩:=C;obtain⟨U,V,W,X⟩:=rv D;have hA:=n.base;have hB:=o.base;have hn:2=r.aK.n:=n.len;have G:2=r.bY.n:=o.len;have z:1<r.aK.n:=Y;have H:a<r.bY.n:=Y;have I:=n.dp z (j:=0) (u:=Iv g.aE) Z;have J:=n.dp z (j:=1) (u:=Iv g.To) Z;obtain⟨k,b⟩:=bq ((if(a:Int)=0 then m0 else m1))
 have q:[m0,m1][a]'(by simpa using p)=k:=by
  rcases PJ a 1 with h|h
  ·obtain rfl:a=0:=Y;rw[<-b];rfl
  obtain rfl:a=1:=Y;rw[<-b];rfl
 have K:=o.one H (congrArg aT q);have L:0<=k∧k<=256:=by rw[<-b];split<;>omega
 obtain⟨v,A⟩:=bq (qL m0 m1 s a f);have l:=A;unfold qL at l;rw[b]at l;rw[A];have N:f.tmod 2=f % 2:=Pv Y;have O:(8<=f∨f<8)∧((a=0∧f % 2=0)∨(a=0∧f % 2=1)∨a=1):=Y;obtain⟨d,c⟩:=O;rcases d with d|d<;>rcases c with⟨c,t⟩|⟨c,t⟩|c
 all_goals
  repeat'(first|refine Wz ?_|refine fq ?_|refine Wn e I ?_|refine Wn e J ?_|refine Wn e K ?_|(refine SW.br λE m=>?_;obtain⟨e,i⟩:=bk m e i))
  all_goals try omega
  refine ah.aF Z Z ⟨_,Z,e,?_⟩;congr 1
  omega
variable {m0 m1 o zi:Int} {L:List aC} {wb:World}
inductive Mw(m0 m1:Int)(s:ap×ap)(zi o t f:Int):Option ((ap×ap)×Int)->Prop
 | nW (he:¬eQ m0 m1 s zi o f):Mw m0 m1 s zi o t f none
 | none {u:ap×Int×Int} (he:eQ m0 m1 s zi o f) (ht:gq (rU s zi) o t u) (hu:u.2.2≠0):Mw m0 m1 s zi o t f none
 | ok {u:ap×Int×Int} (he:eQ m0 m1 s zi o f) (ht:gq (rU s zi) o t u) (hu:u.2.2=0):Mw m0 m1 s zi o t f (some (l9 s zi u.1,u.2.1))
def OC:Option ((ap×ap)×Int)->Value
 | Option.none=> .tuple #[Iv 0,.bool false]
 | some q=> .tuple #[Iv q.2,.bool true]
def NJ(s:ap×ap):Option ((ap×ap)×Int)->ap×ap
 | Option.none=>s
 | some q=>q.1
theorem Mw.vs{s:ap×ap}{t:Int}{q:Option ((ap×ap)×Int)}(h:Mw m0 m1 s zi o t f q)(a:VS s):VS (NJ s q):=by
 cases h with
 | nW|none=>exact a
 | ok d b c=>exact a.pK (b.j7 c).1
theorem HS.fX{k:HK}{p:HP}{s:ap×ap}(h:HS wb w k p s L)(d:VS s){a:Nat}(b:a<2):∃u,[p.u0,p.u1][a]'b=u∧fv w wb.heap.size u (rU s a):=by
 rcases PJ a 1 with c|c
 ·obtain rfl:a=0:=Y;exact⟨p.u0,Z,h.zs.z0⟩
 obtain rfl:a=1:=Y;exact⟨p.u1,Z,h.zs.z1⟩
theorem tD(k:HK)(p:HP)(s:ap×ap)(L:List aC)(m0 m1:Int)(g:Nat)(o t f:Int)(V w:World)(H:HS V w k p s L)(hO:nq w)(J:rV k.M m0 m1)(C:VS s)(j:g<2)(W:0<=o∧o<=4)(hf:0<=f∧f<=15):
 jX prog 146 [.pointer (some ⟨k.b,0,none⟩),Iv (g:Int),Iv o,Iv t,Iv f] w λv h=>∃q,Mw m0 m1 s g o t f q∧v=OC q∧∃p',HS V h k p' (NJ s q) L∧nX w k p h p':=by
 refine c8 func146 rfl ntmps146 rfl ?_;have b:=Ext.refl w;have D:=H;obtain⟨K,M,c⟩:=H.fX C j;have l:=C.rU (g:Int);obtain⟨z,E⟩:=bq (rU s (g:Int));rw[E]at c l;obtain⟨q1,q2,q3,q4⟩:=kM c l;have hA:=H.zs.row.sl.base;have F:=H.zs.row.sl.all j;rw[M]at F;have N:=dj.2 l
 have X:∀h,Ext w h->aS prog 208 [.agg (bu K).toArray] h λv _=>v= .tuple #[Iv (fu z.ai),Iv 0]:=λh G=>by
  have:=FW K z h (c.ext G).rd Y Y ⟨by omega,by omega⟩ ⟨by omega,by omega⟩;rwa[show qC z=(fu z.ai,0)by simp[qC,N]]at this
 obtain⟨A,m⟩:=bq (qL m0 m1 s g f);have o1:=C.j8.ok;obtain⟨a1,a2,a3,a4,a5⟩:=o1
 have cH:∀h,Ext w h->aS prog 209 [.agg (bg (k.h p)).toArray,Iv (g:Int),Iv f] h λv _=>v=Iv A:=λh G=>by
  have:=M4.KH (k.h p) p.u0 p.u1 s k.M m0 m1 g f h (D.cx.ext G).sl (D.zs.row.ext G).sl J D.zs.z1.from_ D.zs.z1.kW ⟨by omega,by omega⟩ ⟨by omega,by omega⟩ j hf;rwa[m]at this
 have za:0<=A∧A<=512:=by
  rw[<-m];have h1:=J.b0;have h2:=J.b1;unfold qL;(repeat' split)<;>omega
 have zb:=js l;have O:=lz l z.ai.length (Ph _);rw[QG]at O;have zc:=bP W.1 W.2;by_cases he:A<=fu z.ai-pw o
 ·have I:eQ m0 m1 s g o f:=by unfold eQ;rw[m,E];exact he
  repeat'(first|refine Wz ?_|refine fq ?_|refine Wl (H.dm.cell (i:=0) (v:= .slice (some ⟨k.g,0,none⟩) 2 k.c) Z) ?_|refine Wm F ?_|refine Wo b F ?_|refine Wm ((λ_ _=>H.dm.cell)) ?_|(refine Wc (X _ b) λB a=>?_;obtain⟨b,H,c⟩:=aY a b H c)|refine SW.ba Z Z (λB a=>(cH _ (b.trans a))) ?_|(refine SW.st (fO (r:=pw o) Z Z Y Y (by simp[pw]) Y Y) Z ?_)|(refine SW.br λB a=>?_;obtain⟨b,H,c⟩:=aY a b H c))
  refine Wk (JW K z o t _ c.rd q1 q2 ⟨by omega,by omega⟩ ⟨by omega,by omega⟩ (hO.ext b)) λv w4 n C=>?_;obtain⟨u,P,Q,rfl,d⟩:=C;have d:=d.low b.size;obtain⟨b,H⟩:=bk n b H;refine Wz ?_;refine Wr (ck Q) λzd w2 n y x=>?_;have R:=b.up y;obtain⟨b,H,d⟩:=aY n b H d;rw[<-E]at P;by_cases hu:u.2.2=0
  ·refine Wz ?_;refine CW.iF 7 7 (λ_=>True) mixed bm λB a S=>?_;obtain⟨b,H,d,x⟩:=cG a b H d x;refine Wf ?_;refine Wt 3 [] [] S Z (aJ Z (H.dm.cell (i:=0) (v:= .slice (some ⟨k.g,0,none⟩) 2 k.c) Z)) ?_;refine Wf ?_;refine SF.dQ ?_;refine SW.iT (enc:=bu) g Q H.zs.row Z Z j λw5 T U=>?_;rw[H.zs.own]at U;have H5:=HS.IM D H j T U d;have hK:nX w k p w5 (nf p g Q):=((nX.refl w k p).ext b).step U (λi e=>by cases e;exact .inl (.inr (.inl Z))) (λi e=> .inl (uN.1 e));refine Wz ?_;exact ah.cf Z Z Z ⟨_,Z,_,.ok I P hu,Z,_,H5,hK⟩
  refine Wz ?_;exact ah.cf Z Z Z ⟨_,Z,_,.none I P hu,Z,_,H,(nX.refl w k p).ext b⟩
 have I:¬eQ m0 m1 s g o f:=by unfold eQ;rw[m,E];exact he
 repeat'(first|refine Wz ?_|refine fq ?_|refine Wl (H.dm.cell (i:=0) (v:= .slice (some ⟨k.g,0,none⟩) 2 k.c) Z) ?_|refine Wm F ?_|refine Wm ((λ_ _=>H.dm.cell)) ?_|(refine Wc (X _ b) λB a=>?_;obtain⟨b,H,c⟩:=aY a b H c)|refine SW.ba Z Z (λB a=>(cH _ (b.trans a))) ?_|(refine SW.st (fO (r:=pw o) Z Z Y Y (by simp[pw]) Y Y) Z ?_)|(refine SW.br λB a=>?_;obtain⟨b,H,c⟩:=aY a b H c))
 exact ah.cf Z Z Z ⟨_,Z,_,.nW I,Z,_,H,(nX.refl w k p).ext b⟩
variable {i j:Nat}
def Oi:Option ((ap×ap)×List aC×Int)->Value
 | Option.none=> .tuple #[Iv 0,.bool false]
 | some q=> .tuple #[Iv q.2.2,.bool true]
def KI(s:ap×ap):Option ((ap×ap)×List aC×Int)->ap×ap
 | Option.none=>s
 | some q=>q.1
def IQ(L:List aC):Option ((ap×ap)×List aC×Int)->List aC
 | Option.none=>L
 | some q=>q.2.1
theorem KJ{k:HK}{p:HP}{y:cV}(a:i<p.ls.length)(b:ob y.aq=ob p.ls[i].aq)(h:ka k ⟨p.u0,p.u1,p.li,p.ls.set i y⟩ j):ka k p j:=by
 rcases h with h|h|h|⟨z,c,h⟩
 ·exact .inl h
 ·exact .inr (.inl h)
 ·exact .inr (.inr (.inl h))
 rcases Pu c with d|rfl
 ·exact .inr (.inr (.inr ⟨z,d,h⟩))
 exact .inr (.inr (.inr ⟨_,Pf a,b▸h⟩))
theorem KK{k:HK}{p:HP}(h:ka k ⟨p.u0,p.u1,⟨p.li.A,p.li.n-1,p.li.c⟩,p.ls.eraseIdx i⟩ j):ka k p j:=by
 rcases h with h|h|h|⟨z,a,h⟩
 ·exact .inl h
 ·exact .inr (.inl h)
 ·exact .inr (.inr (.inl h))
 exact .inr (.inr (.inr ⟨z,PH a,h⟩))
theorem x8(k:HK)(p:HP)(s:ap×ap)(L:List aC)(m0 m1 cpu:Int)(g:Nat)(t f:Int)(U w:World)(H:HS U w k p s L)(hO:nq U)(hM:rV k.M m0 m1)(hv:VS s)(hs:uk L)(zp:∀l∈L,1<=l.aq.length∧l.aq.length<=8)(zO:L.length<=256)(zq:g<2)(hf:0<=f∧f<=15):
 jX prog 145 [.pointer (some ⟨k.b,0,none⟩),Iv cpu,Iv (g:Int),Iv t,Iv f] w λv E=>∃q,iY m0 m1 cpu g 0 t f s L q∧v=Oi q∧∃p',HS U E k p' (KI s q) (IQ L q)∧nX w k p E p':=by
 refine c8 func145 rfl ntmps145 rfl ?_;have B:=Ext.refl w;repeat'(first|refine Wy ?_|fail);have m:∀i,w.heap.size<=i->¬ka k p i:=λi hi=>H.not hi;have F:=nX.refl w k p;refine Wr (u6 ⟨cpu,g,t,.nil⟩) λN w2 zr ze c=>?_;have O:=B.up ze;obtain⟨B,H,F⟩:=aY zr B H F;obtain⟨x,V⟩:∃x:aC,x=⟨cpu,g,t,[]⟩:=⟨_,Z⟩;have zs:us ⟨cpu,g,t,.nil⟩ x:=by subst V;exact⟨Z,Z,Z⟩
 have zC:x.aq=[]:=by subst V;rfl
 obtain⟨l1,l2⟩:=H.ls.rd.len;have hA:=H.ls.row.sl.base;obtain⟨q,T⟩:=bq (bW L x);obtain⟨C,P⟩:=bq (aW L x)
 have cL:∀E,vF E p.li p.ls L->aS prog 160 [.agg (bg (k.h p)).toArray,.agg (fj ⟨cpu,g,t,.nil⟩).toArray] E λv _=>v= .tuple #[Iv (C:Int),.bool q]:=λE h=>by
  have:=uu (k.h p) L p.ls x ⟨cpu,g,t,.nil⟩ E h zs dD;rwa[T,P]at this
 cases q
 ·repeat'(first|refine Wy ?_|fail);(apply CW.dF mixed;(·kernel_rfl);rotate_left;intro w1 A;obtain⟨B,H,c,F⟩:=cG A B H c F;rotate_right);repeat'(first|refine Wy ?_|(refine CW.bo Z ?_)|refine Wm ((λ_ _=>H.dm.cell)) ?_|refine Wm ((λ_ _=>c.cell)) ?_|refine SW.ba Z Z (λw1 A=>(cL _ (H.ls.rd.ext A))) ?_|exact SW.br Z)
  skip;refine SW.cm Z Z (tD k p s L m0 m1 g 0 t f U _ H (hO.ext H.base) hM hv zq ir hf) λv w5 zf=>?_;obtain⟨q5,hT,rfl,p5,W,I⟩:=zf;have Q:=I.not (m N O) c.lt;have c:=I.dm c (m N O);have I:=F.trans I;have B:=Ext.refl w5
  have zt:¬((0:Int)=0∧bW L ⟨cpu,(g:Int),t,[]⟩=true):=λh=>by
   have:=h.2;rw[<-V,T]at this;cases this
  have zD:bW L ⟨cpu,(g:Int),t,[]⟩=false:=by rw[<-V];exact T
  have K:=hT.vs hv;cases q5 with
  | none=>
    have n:iY m0 m1 cpu g 0 t f s L none:=by
     cases hT with
     | nW R=>exact .nW zt R
     | none R ht hu=>exact .none zt R ht hu
    repeat'(first|refine Wy ?_|fail);refine CW.loop (λ_:Unit=>[(17,Iv 0),(18,.bool false),(19,Iv 1)]) (λ_ E=>E=w5) (λ_=>0) () ⟨Z,Z,Z,trivial⟩ Z ?_;rintro _ E rfl;repeat'(first|refine Wy ?_|fail);exact ah.cf Z Z Z ⟨_,Z,_,n,Z,p5,W,I⟩
  | some q5=>
    obtain⟨s1,a⟩:=q5
    have S:∀r,gi m0 m1 g t f s1 [] r->iY m0 m1 cpu g 0 t f s L (some (r.1,jx L x r.2,a)):=λr hr=>by
     rw[V];cases hT with
     | ok R ht hu=>exact .fill Z zD R ht hu hr
    simp only[NJ]at W K;have zu:HS U w5 k p5 s1 (jx L x []):=by rw[lp];exact W
    repeat'(first|refine Wy ?_|fail)
    refine CW.loop (λu:HP×(ap×ap)×List Int=>[(0,.pointer (some ⟨k.b,0,none⟩)),(2,Iv (g:Int)),(3,Iv t),(4,Iv f),(12,Pt N),(17,Iv a),(18,.bool true),(19,Iv ((u.2.2.length+1:Nat):Int))])
     (λu E=>u.2.2.length<=3∧HS U E k u.1 u.2.1 (jx L x u.2.2)∧VS u.2.1∧ay E N 100 (fj ⟨cpu,g,t,.nil⟩)∧¬ka k u.1 N∧nX w k p E u.1∧∀r,gi m0 m1 g t f u.2.1 u.2.2 r->gi m0 m1 g t f s1 [] r) (λu=>3-u.2.2.length) (p5,s1,[])
     ⟨Z,Z,Z,Z,Z,Z,Z,Z,trivial⟩ ⟨by simp,zu,K,c,Q,I,λr h=>h⟩ ?_
    rintro⟨G,s6,pg⟩ E ⟨zE,H,zg,c,m,F,D⟩;simp only at zE H zg m F D⊢;have B:=Ext.refl E;by_cases zh:pg.length<3
    ·repeat'(first|refine Wy ?_|fail);refine SW.cm Z Z (tD k G s6 (jx L x pg) m0 m1 g 0 t f U _ H (hO.ext H.base) hM zg zq ir hf) λv w5 zf=>?_;obtain⟨q5,hT,rfl,p5,W,I⟩:=zf;have Q:=I.not m c.lt;have c:=I.dm c m;have I:=F.trans I;have B:=Ext.refl w5;have K:=hT.vs zg;cases q5 with
     | none=>
       have n:gi m0 m1 g t f s6 pg (s6,pg):=by
        cases hT with
        | nW R=>exact .nW zh R
        | none R ht hu=>exact .none zh R ht hu
       repeat'(first|refine Wy ?_|(refine CW.bQ Z ?_))
       exact ah.cf Z Z Z ⟨_,Z,_,S _ (D _ n),Z,p5,W,I⟩
     | some q5=>
       obtain⟨s7,b⟩:=q5;simp only[NJ]at W K
       have X:∀r,gi m0 m1 g t f s7 (pg++[b]) r->gi m0 m1 g t f s1 [] r:=λr hr=>by
        cases hT with
        | ok R ht hu=>exact D _ (.more zh R ht hu hr)
       repeat'(first|refine Wy ?_|(refine CW.bo Z ?_))
       repeat'(first|refine Wy ?_|refine Wm ((λ_ _=>c.cell)) ?_)
       obtain⟨l3,l4⟩:=W.ls.rd.len;have zQ:=BU (pg:=pg) T
       refine SW.cm Z Z (IN k p5 s7 (jx L x pg) x ⟨cpu,g,t,.nil⟩ b U _ W zs Z zC (C7 hs T) Y (λl hl=>by
        rcases BS T l hl with h|rfl
        ·have:=zp l h;omega
        simp only[dH];omega)) λv w8 zF=>?_
       obtain⟨p8,H8,K8⟩:=zF;have zG:=K8.not Q c.lt;have c:=K8.dm c Q;have K8:=I.trans K8;rw[F8 T]at H8;have B:=Ext.refl w8;repeat'(first|refine Wy ?_|fail);exact ah.again (p8,s7,pg++[b]) ⟨Z,Z,Z,Z,Z,Z,Z,congrArg (λz=>some (Iv z)) fy,trivial⟩ (by simp;omega) ⟨by simp;omega,H8,K,c,zG,K8,X⟩
    have n:gi m0 m1 g t f s6 pg (s6,pg):= .full Y;repeat'(first|refine Wy ?_|fail);exact ah.cf Z Z Z ⟨_,Z,_,S _ (D _ n),Z,G,H,F⟩
 repeat'(first|refine Wy ?_|fail);refine fq ?_;repeat'(first|refine Wy ?_|(refine CW.bQ Z ?_)|refine Wm ((λ_ _=>H.dm.cell)) ?_|refine Wm ((λ_ _=>c.cell)) ?_|refine SW.ba Z Z (λw1 A=>(cL _ (H.ls.rd.ext A))) ?_|(refine SW.br λw1 A=>?_;obtain⟨B,H,c,F⟩:=cG A B H c F))
 obtain⟨zj,J⟩:=fK T;simp only[P]at zj J;have za:C<p.li.n:=Y;have M:C<p.ls.length:=Y;have P0:=H.ls.each.get C M zj;have zk:=zp _ (Pf zj);obtain⟨y,hy⟩:=bq (p.ls[C]'M);obtain⟨pO,zb⟩:=bq (L[C].aq);rw[hy]at P0;have hP:=P0.bt;have pc:=P0.cpu;have pz:=P0.fX;have pt:=P0.ty;rw[zb]at hP zk;have zH:=hP.len;have zR:=hP.sl.base;have zl:y.aq.n-1<y.aq.n:=Y
 have zc:bZ L ⟨cpu,(g:Int),t,[]⟩=pO:=by
  rw[<-V,fk T Y];simp only[P,zb]
 have zI:bZ L x=pO:=by rw[V];exact zc
 have zP:=hP.le;have e3:(fj (p.ls[C]'M))[3]?=some (Value.slice y.aq.A y.aq.n y.aq.c):=by rw[hy];rfl
 have zm:pO≠[]:=λe=>by rw[e]at zk;simp at zk
 have zv:=xW zm (i:=y.aq.n-1) Y Y;obtain⟨a,ha⟩:=bq (pO.getLast zm);rw[ha]at zv
 have n:iY m0 m1 cpu g 0 t f s L (some (s,rG L x pO,a)):=by
  have:=iY.list (m0:=m0) (m1:=m1) (fl:=f) (s:=s) (o:=0) Z (show bW L ⟨cpu,(g:Int),t,[]⟩=true by rw[<-V];exact T) (by rw[zc];exact zm);simp only[<-V,zI,ha]at this;exact this
 repeat'(first|refine Wy ?_|refine SW.st (aU (y.aq.n-1) Z Z ig Y Y) Z ?_|refine Wl (H.dm.cell (i:=3) (v:= .slice p.li.A p.li.n p.li.c) Z) ?_|refine Wl (H.ls.row.sl.dp za (j:=3) e3) ?_|refine Wl (hP.sl.one zl (congrArg aT zv.symm)) ?_)
 refine CW.iF 17 17 (λ_=>True) mixed bm λw1 A d=>?_;obtain⟨B,H,hP,F⟩:=cG A B H hP F;refine Wp 0 [] [] d Z Z ?_;refine Wt 1 [] [] d Z (aX Z) ?_;refine Wt 2 [] [] d Z (aI Z) ?_;refine Wt 3 [] [] d Z (aJ Z (H.dm.cell (i:=3) (v:= .slice p.li.A p.li.n p.li.c) Z)) ?_;refine Wp 4 [] [] d Z Z ?_;refine Wp 5 [] [] d Z Z ?_;refine Wt 6 [] [] d Z (aX Z) ?_;refine Wt 7 [] [] d Z (aI Z) ?_;refine Wt 8 [] [] d Z (aJ Z (H.dm.cell (i:=3) (v:= .slice p.li.A p.li.n p.li.c) Z)) ?_;refine Wp 9 [] [] d Z Z ?_;refine Wt 10 [] [] d Z (bO Z Z ig Y) ?_;refine Wt 11 [] [] d Z (aI Z) ?_;refine Wt 12 [] [] d Z (aJ Z (H.ls.row.sl.dp za (j:=3) e3)) ?_;refine Wp 13 [] [] d Z Z ?_;refine Wt 14 [] [] d Z (gl (k:=y.aq.n-1) Z (congrArg (λz=>some (Iv z)) Y) Y) ?_;refine Wt 15 [16] [16] d Z (bO Z Z ig Y) ?_;refine Wt 16 [] [] d Z (aI Z) ?_;refine SF.dQ ?_;refine SW.eY C 3 ⟨y.ep,y.ap,y.Ty,⟨y.aq.A,y.aq.n-1,y.aq.c⟩⟩ H.ls.row Z Z Z za ir Z (by rw[hy];rfl) λw6 zn zw=>?_;have zx:ob (⟨y.ep,y.ap,y.Ty,⟨y.aq.A,y.aq.n-1,y.aq.c⟩⟩:cV).aq=ob (p.ls[C]'M).aq:=by rw[hy];rfl
 have zd:=hP.pre (i:=y.aq.n-1) Y;have zJ:pO.take (y.aq.n-1)=pO.dropLast:=by rw[List.dropLast_eq_take,zH]
 rw[zJ]at zd;have H6:=HS.setRow (y:=⟨y.ep,y.ap,y.Ty,⟨y.aq.A,y.aq.n-1,y.aq.c⟩⟩) (l:=dH x pO.dropLast) H M zn zw ⟨pc.trans J.1,pz.trans J.2.1,pt.trans J.2.2,zd⟩ zx;have K6:nX w k p w6 ⟨p.u0,p.u1,p.li,p.ls.set C ⟨y.ep,y.ap,y.Ty,⟨y.aq.A,y.aq.n-1,y.aq.c⟩⟩⟩:=F.step zw (λi e=> .inl (.inr (.inr (.inl e)))) (λi e=> .inl (KJ M zx e));by_cases h1:y.aq.n=1
 ·have eL:rG L x pO=(L.set C (dH x pO.dropLast)).eraseIdx C:=by rw[F9 Y,P,List.eraseIdx_set_eq]
  obtain⟨G,zy⟩:∃G:HP,G=⟨p.u0,p.u1,p.li,p.ls.set C ⟨y.ep,y.ap,y.Ty,⟨y.aq.A,y.aq.n-1,y.aq.c⟩⟩⟩:=⟨_,Z⟩;have zz:G.li=p.li:=by rw[zy]
  rw[<-zy]at H6 K6;have zA:C<G.li.n:=by rw[zz];exact za
  have B:=Ext.refl w6;repeat'(first|refine Wy ?_|refine Wl (H6.dm.cell (i:=3) (v:= .slice G.li.A G.li.n G.li.c) Z) ?_)
  refine SW.cm Z Z (oZ dL G.li.A G.li.n G.li.c U.heap.size G.ls _ H6.ls.row C zA (by rw[zz];omega) H6.low) λv w7 zK=>?_;obtain⟨rfl,zL,zo⟩:=zK;have zM:=H6.dm.aQ (H6.ls.Ga zo) Z;repeat'(first|refine Wy ?_|fail);refine Wb (i:=3) zM λw8 zN zB=>?_;have H8:=HS.M3 H6 zL zo zN zB;have K7:=K6.step (p':=G) zo (λi e=> .inl (.inr (.inr (.inl e)))) (λi e=> .inl e);have K8:=K7.step zB (λi e=>by cases e;exact .inl (.inl Z)) (λi e=> .inl (KK (i:=C) e));repeat'(first|refine Wy ?_|fail);exact ah.cf Z Z Z ⟨_,Z,_,n,Z,_,by simp only[IQ,eL];exact H8,K8⟩
 have eL:rG L x pO=L.set C (dH x pO.dropLast):=by rw[KF Y,P]
 repeat'(first|refine Wy ?_|fail);exact ah.cf Z Z Z ⟨_,Z,_,n,Z,_,by simp only[IQ,eL];exact H6,K6⟩
variable {α:Type} {r:(ap×ap)×List aC×Int} {p0:HP} {cpu:Int} {zl:List Int} {lo sz:Nat} {A:Option Addr} {e:TypeId} {w0:World} {enc:α -> List Value}
theorem nX.L5{k:HK}{p:HP}(h:nX w0 k p0 w p){n c:Nat}{l:List α}(a:Own w0 lo e sz enc A n c l)(j:∀g,aN A c=some g->¬ka k p0 g):Own w lo e sz enc A n c l:=by
 have b:=a.lt_size;refine⟨a.len,?_⟩;rcases a.row with f|⟨m,g,d,rfl,f,o,q⟩
 ·omega
 have i:aN (some (⟨g,0,none⟩:Addr)) c=some g:=by grind[aN,Nat.pos_iff_ne_zero]
 exact .inr ⟨m,g,d,Z,f,by rw[h.block g (b g i) (j g i)];exact o,q⟩
def OD(L:List aC):Option ((ap×ap)×Int)->Option ((ap×ap)×List aC×Int)
 | none=>none
 | some q=>some (q.1,L,q.2)
theorem Mw.tz{s:ap×ap}{t:Int}{q:Option ((ap×ap)×Int)}(h:Mw m0 m1 s zi o t f q)(e:0<o):iY m0 m1 cpu zi o t f s L (OD L q):=by
 have a:¬(o=0∧bW L ⟨cpu,zi,t,[]⟩=true):=λh=>by omega
 cases h with
 | nW b=>exact .nW a b
 | none b c d=>exact .none a b c d
 | ok b c d=>exact .tz e b c d
theorem tE{t:Int}{s:ap×ap}(d:(zl=[1,0]∧f % 2=0)∨(zl=[0]∧f % 2=1))(b:j<zl.length)(hb:∀(i:Nat)(h:i<zl.length),i<j->iY m0 m1 cpu zl[i] o t f s L none)(h:iY m0 m1 cpu zl[j] o t f s L (some r)):iZ m0 m1 cpu o t f s L (some r):=by
 rcases d with⟨rfl,c⟩|⟨rfl,c⟩
 ·have a:j<2:=b;rcases PJ j 1 with g|g
  ·obtain rfl:j=0:=Y;exact .tf c h
  obtain rfl:j=1:=Y;exact .low (λ_=>hb 0 fy Y) h
 have a:j<1:=b;obtain rfl:j=0:=Y;exact .low (λe=>by omega) h
theorem EI{t:Int}{s:ap×ap}(a:(zl=[1,0]∧f % 2=0)∨(zl=[0]∧f % 2=1))(hb:∀(i:Nat)(h:i<zl.length),iY m0 m1 cpu zl[i] o t f s L none):iZ m0 m1 cpu o t f s L none:=by
 rcases a with⟨rfl,b⟩|⟨rfl,b⟩
 ·exact .low (λ_=>hb 0 fy) (hb 1 fy)
 exact .low (λe=>by omega) (hb 0 fy)
abbrev OE(g:Nat):Option Addr:=some ⟨g,0,none⟩
abbrev OF(g:Nat):Option Addr:=if 2=1 then some ⟨g,0,none⟩else(some (⟨g,0,none⟩:Addr)).map (·.add (1*1))
theorem vo(k:HK)(p:HP)(s:ap×ap)(L:List aC)(m0 m1 cpu o t f:Int)(O w:World)(H:HS O w k p s L)(hO:nq O)(hM:rV k.M m0 m1)(hv:VS s)(hs:uk L)(za:∀l∈L,1<=l.aq.length∧l.aq.length<=8)(P:L.length<=256)(ho:0<=o∧o<=4)(hf:0<=f∧f<=15):
 jX prog 72 [.pointer (some ⟨k.b,0,none⟩),Iv cpu,Iv o,Iv t,Iv f] w λv c=>∃q,iZ m0 m1 cpu o t f s L q∧v=Oi q∧∃p',HS O c k p' (KI s q) (IQ L q)∧nX w k p c p':=by
 refine c8 func72 rfl ntmps72 rfl ?_;have I:=Ext.refl w;obtain⟨q1,q2,q4,q8⟩:=rv hf;have Q:∀i,w.heap.size<=i->¬ka k p i:=λi hi=>H.not hi;have x:=nX.refl w k p;refine Wz ?_;refine SW.qA (enc:=aT) 1 0 Z Z Z Z Z Z λg w2 zc zf n=>?_;obtain⟨I,H,x⟩:=aY zc I H x;have y:∀j,aN (some (⟨g,0,none⟩:Addr)) 2=some j->¬ka k p j:=λj e=>Q j (by simp[aN]at e;omega);obtain⟨lo,zb⟩:=bq w.heap.size;rw[zb]at n;rcases(show f % 2=0∨f % 2=1 by omega)with R|R
 ·obtain⟨a,z⟩:∃a:List Int,a=[1,0]:=⟨_,Z⟩;have d:(a=[1,0]∧f % 2=0)∨(a=[0]∧f % 2=1):=by rw[z];exact .inl ⟨Z,R⟩
  obtain⟨A,hA⟩:∃A:Option Addr,A=(OE g):=⟨_,Z⟩
  have S:∀c,Own c lo 3 1 aT (some ⟨g,0,none⟩) 2 2 [1,0]->Sl c 1 aT A 2 a:=λc h=>by
   rw[z,hA]
   first|exact h.sl|exact h.sl.drop 1 2 ir ir
  have zd:a.length=2:=by rw[z];rfl
  have T:∀(j:Nat)(J:j<a.length),∃K:Nat,a[j]=(K:Int)∧K<2:=λj J=>by
   rcases d with⟨rfl,_⟩|⟨rfl,_⟩
   ·have U:j<2:=J;rcases PJ j 1 with h1|h1
    ·obtain rfl:j=0:=Y;exact⟨1,Z,by omega⟩
    obtain rfl:j=1:=Y;exact⟨0,Z,by omega⟩
   have U:j<1:=J;obtain rfl:j=0:=Y;exact⟨0,Z,by omega⟩
  repeat'(first|refine Wz ?_|(refine SW.st (wc Z Z Y ir) Z ?_))
  all_goals try omega
  refine CW.loop (λu:Nat×HP=>[(0,.pointer (some ⟨k.b,0,none⟩)),(1,Iv cpu),(2,Iv o),(3,Iv t),(4,Iv f),(23,.slice A 2 2),(24,Iv ((2:Nat):Int)),(25,Iv (u.1:Int))])
   (λu c=>u.1<=a.length∧HS O c k u.2 s L∧nX w k p c u.2∧Own c lo 3 1 aT (some ⟨g,0,none⟩) 2 2 [1,0]∧(∀j,aN (some (⟨g,0,none⟩:Addr)) 2=some j->¬ka k u.2 j)∧∀(i:Nat)(h:i<a.length),i<u.1->iY m0 m1 cpu a[i] o t f s L none) (λu=>a.length-u.1) (0,p)
   ⟨Z,Z,Z,Z,Z,by rw[hA];rfl,Z,Z,trivial⟩ ⟨by simp,H,x,n,y,λi h h'=>by simp at h'⟩ ?_
  rintro⟨j,V⟩ c ⟨J,H,x,n,y,hb⟩;simp only at J H x y hb⊢;have I:=Ext.refl c;have hS:=S _ n;have ze:=hS.base;by_cases B:j<a.length
  ·obtain⟨K,C,r⟩:=T j B;have W:j<2:=Y;have fz:=hS.one W (congrArg aT C);by_cases X:o=0
   ·repeat'(first|refine Wz ?_|refine Wl fz ?_)
    subst X;refine SW.cm Z Z (x8 k V s L m0 m1 cpu K t f O _ H hO hM hv hs za P r hf) λv w5 D=>?_;obtain⟨M,m,rfl,E,N,b⟩:=D;have F:=b.L5 n y;have G:∀i,aN (some (⟨g,0,none⟩:Addr)) 2=some i->¬ka k E i:=λi e=>b.not (y i e) (n.lt_size i e);have b:=x.trans b;have I:=Ext.refl w5;rw[<-C]at m;cases M with
    | none=>
      repeat'(first|refine Wz ?_|(refine CW.bo Z ?_))
      exact ah.again (j+1,E) ⟨Z,Z,Z,Z,Z,Z,Z,Z,trivial⟩ dD ⟨by simp only;omega,N,b,F,G,λi h h'=>by
       by_cases e:i=j
       ·subst e;exact m
       exact hb i h (by simp only at h';omega)⟩
    | some M=>
      repeat'(first|refine Wz ?_|(refine CW.bQ Z ?_))
      exact ah.cf Z Z Z ⟨_,Z,_,tE d B hb m,Z,E,N,b⟩
   repeat'(first|refine Wz ?_|refine Wl fz ?_)
   refine SW.cm Z Z (tD k V s L m0 m1 K o t f O _ H (hO.ext H.base) hM hv r ho hf) λv w5 D=>?_;obtain⟨M,m,rfl,E,N,b⟩:=D;have F:=b.L5 n y;have G:∀i,aN (some (⟨g,0,none⟩:Addr)) 2=some i->¬ka k E i:=λi e=>b.not (y i e) (n.lt_size i e);have b:=x.trans b;have I:=Ext.refl w5;have m:=m.tz (cpu:=cpu) (L:=L) Y;rw[<-C]at m;cases M with
   | none=>
     repeat'(first|refine Wz ?_|(refine CW.bo Z ?_))
     exact ah.again (j+1,E) ⟨Z,Z,Z,Z,Z,Z,Z,Z,trivial⟩ dD ⟨by simp only;omega,N,b,F,G,λi h h'=>by
      by_cases e:i=j
      ·subst e;exact m
      exact hb i h (by simp only at h';omega)⟩
   | some M=>
     repeat'(first|refine Wz ?_|(refine CW.bQ Z ?_))
     exact ah.cf Z Z Z ⟨_,Z,_,tE d B hb m,Z,E,N,b⟩
  refine Wz ?_;exact ah.cf Z Z Z ⟨_,Z,none,EI d (λi h=>hb i h Y),Z,V,H,x⟩
 obtain⟨a,z⟩:∃a:List Int,a=[0]:=⟨_,Z⟩;have d:(a=[1,0]∧f % 2=0)∨(a=[0]∧f % 2=1):=by rw[z];exact .inr ⟨Z,R⟩
 obtain⟨A,hA⟩:∃A:Option Addr,A=(OF g):=⟨_,Z⟩
 have S:∀c,Own c lo 3 1 aT (some ⟨g,0,none⟩) 2 2 [1,0]->Sl c 1 aT A (2-1) a:=λc h=>by
  rw[z,hA]
  first|exact h.sl|exact h.sl.drop 1 2 ir ir
 have zd:a.length=(2-1):=by rw[z];rfl
 have T:∀(j:Nat)(J:j<a.length),∃K:Nat,a[j]=(K:Int)∧K<2:=λj J=>by
  rcases d with⟨rfl,_⟩|⟨rfl,_⟩
  ·have U:j<2:=J;rcases PJ j 1 with h1|h1
   ·obtain rfl:j=0:=Y;exact⟨1,Z,by omega⟩
   obtain rfl:j=1:=Y;exact⟨0,Z,by omega⟩
  have U:j<1:=J;obtain rfl:j=0:=Y;exact⟨0,Z,by omega⟩
 repeat'(first|refine Wz ?_|(refine SW.st (wc Z Z Y ir) Z ?_)|(refine SW.st (dG (k:=1) Z Z Y Y) Z ?_))
 all_goals try omega
 refine CW.loop (λu:Nat×HP=>[(0,.pointer (some ⟨k.b,0,none⟩)),(1,Iv cpu),(2,Iv o),(3,Iv t),(4,Iv f),(23,.slice A (2-1) (2-1)),(24,Iv (((2-1):Nat):Int)),(25,Iv (u.1:Int))])
  (λu c=>u.1<=a.length∧HS O c k u.2 s L∧nX w k p c u.2∧Own c lo 3 1 aT (some ⟨g,0,none⟩) 2 2 [1,0]∧(∀j,aN (some (⟨g,0,none⟩:Addr)) 2=some j->¬ka k u.2 j)∧∀(i:Nat)(h:i<a.length),i<u.1->iY m0 m1 cpu a[i] o t f s L none) (λu=>a.length-u.1) (0,p)
  ⟨Z,Z,Z,Z,Z,by rw[hA];rfl,Z,Z,trivial⟩ ⟨by simp,H,x,n,y,λi h h'=>by simp at h'⟩ ?_
 rintro⟨j,V⟩ c ⟨J,H,x,n,y,hb⟩;simp only at J H x y hb⊢;have I:=Ext.refl c;have hS:=S _ n;have ze:=hS.base;by_cases B:j<a.length
 ·obtain⟨K,C,r⟩:=T j B;have W:j<(2-1):=Y;have fz:=hS.one W (congrArg aT C);by_cases X:o=0
  ·repeat'(first|refine Wz ?_|refine Wl fz ?_)
   subst X;refine SW.cm Z Z (x8 k V s L m0 m1 cpu K t f O _ H hO hM hv hs za P r hf) λv w5 D=>?_;obtain⟨M,m,rfl,E,N,b⟩:=D;have F:=b.L5 n y;have G:∀i,aN (some (⟨g,0,none⟩:Addr)) 2=some i->¬ka k E i:=λi e=>b.not (y i e) (n.lt_size i e);have b:=x.trans b;have I:=Ext.refl w5;rw[<-C]at m;cases M with
   | none=>
     repeat'(first|refine Wz ?_|(refine CW.bo Z ?_))
     exact ah.again (j+1,E) ⟨Z,Z,Z,Z,Z,Z,Z,Z,trivial⟩ dD ⟨by simp only;omega,N,b,F,G,λi h h'=>by
      by_cases e:i=j
      ·subst e;exact m
      exact hb i h (by simp only at h';omega)⟩
   | some M=>
     repeat'(first|refine Wz ?_|(refine CW.bQ Z ?_))
     exact ah.cf Z Z Z ⟨_,Z,_,tE d B hb m,Z,E,N,b⟩
  repeat'(first|refine Wz ?_|refine Wl fz ?_)
  refine SW.cm Z Z (tD k V s L m0 m1 K o t f O _ H (hO.ext H.base) hM hv r ho hf) λv w5 D=>?_;obtain⟨M,m,rfl,E,N,b⟩:=D;have F:=b.L5 n y;have G:∀i,aN (some (⟨g,0,none⟩:Addr)) 2=some i->¬ka k E i:=λi e=>b.not (y i e) (n.lt_size i e);have b:=x.trans b;have I:=Ext.refl w5;have m:=m.tz (cpu:=cpu) (L:=L) Y;rw[<-C]at m;cases M with
  | none=>
    repeat'(first|refine Wz ?_|(refine CW.bo Z ?_))
    exact ah.again (j+1,E) ⟨Z,Z,Z,Z,Z,Z,Z,Z,trivial⟩ dD ⟨by simp only;omega,N,b,F,G,λi h h'=>by
     by_cases e:i=j
     ·subst e;exact m
     exact hb i h (by simp only at h';omega)⟩
  | some M=>
    repeat'(first|refine Wz ?_|(refine CW.bQ Z ?_))
    exact ah.cf Z Z Z ⟨_,Z,_,tE d B hb m,Z,E,N,b⟩
 refine Wz ?_;exact ah.cf Z Z Z ⟨_,Z,none,EI d (λi h=>hb i h Y),Z,V,H,x⟩
variable {cs:List Value}
theorem x9(r:fB)(l:List Block)(a:Int)(w:World)(f:Sl w 3 aL r.Live.A r.Live.n l)(g:l.Pairwise λx y=>x.At<y.At)(hb:∀b∈l,0<=b.At∧b.At<=255)(i:r.Live.n<=1000000000000000000)(n:0<=a∧a<256):
 aS prog 74 [.agg (bg r).toArray,Iv a] w λv _=>v= .tuple #[Iv (bB l a:Int),.bool (bx l a)]:=by
 refine Wj func74 ntmps74 ?_;refine Ww λo p c e j=>?_;refine Wz ?_
 refine Wc (jr _ _ _ _ a _ (f.ext c) _ (λx k m _=>by
  have:=qv x a m;have h:=hb x k;rwa[jF Y Y]at this) g i) λq d=>?_;have c:=c.trans d;refine Wz ?_;exact ah.cf Z Z Z ⟨_,Z,c,Z⟩
def jy(lo:Nat)(u:Heap×Int×Int)(v:Value)(w:World):Prop:=∃s:fB,v= .tuple #[.agg (bg s).toArray,Iv u.2.1,Iv u.2.2]∧ik w lo s u.1
theorem jy.zero(e:Int)(lo:Nat)(w:World):jy lo (.zero,0,e) (.tuple #[.agg (bg .zero).toArray,Iv 0,Iv e]) w:=⟨.zero,Z,ik.zero w lo⟩
theorem HS.KL{k:HK}{p:HP}{s:ap×ap}(h:HS wb w k p s L)(a:ay w i 34 cs)(b:i≠k.b):¬ka k p i:=λc=>by
 rcases c with e|e|e|⟨y,d,e⟩
 ·exact b e
 ·exact h.zs.row.cB a Z (by rw[h.zs.own,e])
 ·exact h.ls.row.cB a Z e
 obtain⟨l,_,f⟩:=h.D5 d;exact f.bt.cB a Z e
theorem EJ{h:Heap}(a:bf h):rV h.bY (cQ h 0) (cQ h 1):=by
 obtain⟨m0,m1,e,b,c⟩:=a.cx;unfold cQ;rw[e];exact⟨Z,b,c⟩
theorem ry(r:fB)(h:Heap)(cpu o f:Int)(w:World)(hr:AQ w r h)(hs:h.small)(zC:∀z∈h.aK,ew z)(hO:nq w):
 aS prog 20 [.agg (bg r).toArray,Iv cpu,Iv o,Iv f] w λv L=>∃u,cj h cpu o f u∧jy w.heap.size u v L:=by
 refine Wj func20 ntmps20 ?_;refine Ww λb4 w1 y zr d=>?_;have U:=zr;refine SW.alloc Z λb8 w2 zs zt n=>?_;have M:w.heap.size<=b8:=Pj y.size zt;have P:b4≠b8:=by have:=d.lt;omega
 (replace y:=Ext.trans y zs;replace d:=d.ext zs);have eC:=hr.cpus;obtain⟨q,hq⟩:=bq (gd h)
 have c1:∀L,Ext w L->aS prog 70 [.agg (bg r).toArray] L λv _=>v=Iv (if q then 0 else 8):=λL hx=>by
  have:=ph r h L (hr.ext hx) hs zC;rwa[hq]at this
 cases q
 ·simp only[Bool.false_eq_true,if_false]at c1;repeat'(first|refine Wy ?_|refine Wm ((λ_ _=>d.cell)) ?_|(refine Wk (c1 _ y) ?_;intro v w1 x S;subst S;replace y:=Ext.trans y x;replace d:=d.ext x;replace n:=n.ext x))
  refine Wg n (bw .zero) λw5 J C=>?_;replace y:=y.own M C;repeat'(first|refine Wy ?_|fail);exact ah.cb Z Z Z Z J Z ⟨_,Z,y,_,.bad hq,jy.zero 8 _ _⟩
 simp only[if_true]at c1;have hm:=ch.1 hq;obtain⟨z0,z1,F⟩:=fC hm;by_cases hc:(0<=cpu∧cpu<h.bl)∧0<=o∧o<=4
 ·obtain⟨q2,ze⟩:=bq (decide (0<=fD f))
  have c2:∀L,aS prog 71 [Iv f] L λv _=>v= .tuple #[Iv (if 0<=fD f then fD f else 0),.bool q2]:=λL=>by
   have:=Gb f L;rwa[ze]at this
  cases q2
  ·have ht:=of_decide_eq_false ze;repeat'(first|refine Wy ?_|(refine CW.bQ Z ?_)|refine Wm ((λ_ _=>d.cell)) ?_|refine Wl (d.cell (i:=2) (v:=Iv r.bl) Z) ?_|((first|refine Wk (c1 _ y) ?_|refine Wk (c2 _) ?_);intro v w1 x S;subst S;replace y:=Ext.trans y x;replace d:=d.ext x;replace n:=n.ext x))
   all_goals try omega
   refine Wg n (bw .zero) λw5 J C=>?_;replace y:=y.own M C;repeat'(first|refine Wy ?_|fail);exact ah.cb Z Z Z Z J Z ⟨_,Z,y,_,.form hq hc Y,jy.zero 3 _ _⟩
  have ht:=of_decide_eq_true ze;obtain⟨hf,zP⟩:=oH ht;obtain⟨t,Q⟩:=bq (fD f);have zD:0<=t:=by rw[<-Q];exact ht
  simp only[Q,if_pos zD]at c2;repeat'(first|refine Wy ?_|(refine CW.bo Z ?_)|refine Wm ((λ_ _=>d.cell)) ?_|refine Wl (d.cell (i:=2) (v:=Iv r.bl) Z) ?_|((first|refine Wk (c1 _ y) ?_|refine Wk (c2 _) ?_);intro v w1 x S;subst S;replace y:=Ext.trans y x;replace d:=d.ext x;replace n:=n.ext x))
  all_goals try omega
  refine Wk (se r h _ (hr.ext y) hs) λv w4 zf S=>?_;obtain⟨s,rfl,V⟩:=S;have D:=V.own.cx.low y.size;have I:=V.own.live.low y.size;have zg:=V.own.cpus;obtain⟨g,c,u0,u1,ls,eZ,A,E,zh,zi⟩:=V.split F.d.bA;have A:dM w4 w.heap.size g c u0 u1 (z0,z1):=⟨A.row.low y.size,A.z0.low y.size,A.z1.low y.size,Pj y.size A.xD,A.pos⟩;replace E:=E.low y.size;(replace y:=Ext.trans y zf;replace d:=d.ext zf;replace n:=n.ext zf);obtain⟨sz,m,cp,li,lv⟩:=s;simp only at eZ D I E zh zi zg;subst eZ;refine Wg d (bw ⟨⟨some ⟨g,0,none⟩,2,c⟩,m,cp,li,lv⟩) λw5 N C=>?_;have B:=d.gr C;replace y:=y.own U C;replace n:=n.grown C (by simpa using Ne.symm P);(replace A:=A.aQ B Z;replace D:=D.aQ B Z;replace I:=I.aQ B Z;replace E:=E.aQ B Z);have H:HS w w5 ⟨b4,g,c,m,lv,cp,h.bY,h.Live⟩ ⟨u0,u1,li,ls⟩ (z0,z1) h.ak:=⟨N,A,D,I,E,zh,zi,U,y⟩;obtain⟨k,hk⟩:∃k:HK,k=⟨b4,g,c,m,lv,cp,h.bY,h.Live⟩:=⟨_,Z⟩;obtain⟨p0,zu⟩:∃p:HP,p=⟨u0,u1,li,ls⟩:=⟨_,Z⟩;rw[<-hk,<-zu]at H;have zE:k.b=b4:=by rw[hk]
  have zb:k.V=h.Live:=by rw[hk]
  have zj:k.M=h.bY:=by rw[hk]
  have zv:k.cp=h.bl:=by rw[hk];exact zg
  subst zE;have zw:rV k.M (cQ h 0) (cQ h 1):=by rw[zj];exact EJ hm
  have zx:=F.d.start.vs;have zk:=H.KL n (Ne.symm P);have zy:=jh F.live
  have zz:∀b∈h.Live,0<=b.At∧b.At<=255:=λb hb=>by
   obtain⟨j,hj,rfl⟩:=Pg hb;have:=(F.next hj).at_;omega
  have zQ:=xX F;repeat'(first|refine Wy ?_|fail);refine SW.cm Z Z (vo k p0 (z0,z1) h.ak _ _ cpu o t f w _ H hO zw zx F.iy F.lists F.count hc.2 hf) λv w6 zF=>?_;obtain⟨q1,zc,rfl,p1,H1,K1⟩:=zF;have T:=K1.not zk n.lt;replace n:=K1.dm n zk;have y:=H1.base;cases q1 with
  | none=>
    simp only[KI,IQ]at H1;have zA:=dN F.d;repeat'(first|refine Wy ?_|(refine CW.bQ Z ?_))
    refine SW.cm Z Z (Gc k p1 h z0 z1 F.d hs w _ H1) λv w7 zG=>?_;obtain⟨p2,H2,K2⟩:=zG;have W:=K2.not T n.lt;replace n:=K2.dm n T;have y:=H2.base;repeat'(first|refine Wy ?_|fail);refine SW.cm Z Z (vo k p2 _ [] _ _ cpu o t f w _ H2 hO zw zA.vs List.Pairwise.nil (λl hl=>by simp at hl) fy hc.2 hf) λv w8 zH=>?_;obtain⟨q3,zl,rfl,R,O,K3⟩:=zH;have zd:=K3.not W n.lt;replace n:=K3.dm n W;have y:=O.base;cases q3 with
    | none=>
      repeat'(first|refine Wy ?_|(refine CW.bQ Z ?_))
      refine Wg n (bw .zero) λw5 J C=>?_;replace y:=y.own M C;repeat'(first|refine Wy ?_|fail);exact ah.cb Z Z Z Z J Z ⟨_,Z,y,_,.room hq hc ht F.d.bA (by rw[Q];exact zc) (by rw[Q];exact zl),jy.zero 6 _ _⟩
    | some q3=>
      obtain⟨s3,L3,a⟩:=q3;simp only[KI,IQ]at O;obtain⟨i,X,zI,zB⟩:=ku F (zl.found zA.vs).2;have X:a=(i:Int):=X
      have zm:cj h cpu o f (ma h s3 L3 (dc h a o t),a,0):=by
       have:=cj.kA hq hc ht F.d.bA (by rw[Q];exact zc) (by rw[Q];exact zl);rw[Q]at this;exact this
      have zn:=O.live.len;rw[zb]at zn;obtain⟨fd,zo⟩:=bq (bx h.Live a)
      have c3:∀L,Sl L 3 aL k.lv.A k.lv.n h.Live->aS prog 74 [.agg (bg (k.h R)).toArray,Iv a] L λv _=>v= .tuple #[Iv (bB h.Live a:Int),.bool fd]:=λL hh=>by
       have:=x9 (k.h R) h.Live a L hh zy zz dD ⟨by omega,by omega⟩;rwa[zo]at this
      have I:=O.live;rw[zb]at I;have d:=O.dm;have A:=O.zs;have D:=O.cx;have E:=O.ls;rw[zj]at D;have zp:=O.sf;have zJ:=I.lt_size;repeat'(first|refine Wy ?_|(refine CW.bo Z ?_)|refine Wm ((λ_ _=>d.cell)) ?_|(refine Wk (c3 _ I.sl) ?_;intro v w1 x S;subst S;replace y:=Ext.trans y x;replace d:=d.ext x;replace n:=n.ext x;replace I:=I.ext x;replace A:=A.ext x;replace D:=D.ext x;replace E:=E.ext x))
      repeat'(first|refine Wy ?_|refine Wl (d.cell (i:=4) (v:= .slice k.lv.A k.lv.n k.lv.c) Z) ?_)
      refine SW.bz Z Z Z Z Z λb w9 G zK hB=>?_;have za:aN k.lv.A k.lv.c≠some b:=λe=>by have:=I.lt_size _ e;omega
      (replace y:=Ext.trans y G;replace d:=d.ext G;replace n:=n.ext G;replace I:=I.ext G;replace A:=A.ext G;replace D:=D.ext G;replace E:=E.ext G);skip;have zL:bB h.Live a<=h.Live.length:=List.findIdx_le_length;refine SW.cm Z Z (nC iB k.lv.A k.lv.n k.lv.c w.heap.size h.Live _ I (bB h.Live a) Y ⟨a,o,t⟩ b hB za Y y.size) λv zM S=>?_;obtain⟨A',c',rfl,K,C,_⟩:=S;have B:=I.gr C;replace y:=au y C (Ph _) I.az;replace A:=A.FL zp C B;(replace d:=d.aQ B Z;replace n:=n.aQ B Z;replace D:=D.aQ B Z;replace E:=E.aQ B Z);repeat'(first|refine Wy ?_|fail);refine Wb (i:=4) d λzq N C=>?_;have B:=d.gr C;replace y:=y.own U C;replace n:=n.grown C (by simpa using Ne.symm P);(replace A:=A.aQ B Z;replace D:=D.aQ B Z;replace E:=E.aQ B Z;replace K:=K.aQ B Z);replace d:ay zq k.b 34 (bg ⟨⟨some ⟨k.g,0,none⟩,2,k.c⟩,k.m,k.cp,R.li,⟨A',k.lv.n+1,c'⟩⟩):=N;repeat'(first|refine Wy ?_|refine Wm ((λ_ _=>d.cell)) ?_)
      refine Wg n (bw ⟨⟨some ⟨k.g,0,none⟩,2,k.c⟩,k.m,k.cp,R.li,⟨A',k.lv.n+1,c'⟩⟩) λzN J C=>?_;have B:=n.gr C;replace y:=y.own M C;(replace A:=A.aQ B Z;replace D:=D.aQ B Z;replace E:=E.aQ B Z;replace K:=K.aQ B Z);repeat'(first|refine Wy ?_|fail);exact ah.cb Z Z Z Z J Z ⟨_,Z,y,_,zm,⟨⟨some ⟨k.g,0,none⟩,2,k.c⟩,k.m,k.cp,R.li,⟨A',k.lv.n+1,c'⟩⟩,Z,⟨zv,D,K,⟨[R.u0,R.u1],⟨A.row,dR.two A.z0 A.z1⟩⟩,⟨R.ls,E⟩⟩⟩
  | some q3=>
    obtain⟨s3,L3,a⟩:=q3;simp only[KI,IQ]at H1;obtain⟨i,X,zI,zB⟩:=lq F (zc.found zx).2;have X:a=(i:Int):=X
    have zm:cj h cpu o f (ma h s3 L3 (dc h a o t),a,0):=by
     have:=cj.once hq hc ht F.d.bA (by rw[Q];exact zc);rw[Q]at this;exact this
    have O:=H1;have zd:=T;obtain⟨R,zO⟩:=bq p1;rw[zO]at O zd;have zn:=O.live.len;rw[zb]at zn;obtain⟨fd,zo⟩:=bq (bx h.Live a)
    have c3:∀L,Sl L 3 aL k.lv.A k.lv.n h.Live->aS prog 74 [.agg (bg (k.h R)).toArray,Iv a] L λv _=>v= .tuple #[Iv (bB h.Live a:Int),.bool fd]:=λL hh=>by
     have:=x9 (k.h R) h.Live a L hh zy zz dD ⟨by omega,by omega⟩;rwa[zo]at this
    have I:=O.live;rw[zb]at I;have d:=O.dm;have A:=O.zs;have D:=O.cx;have E:=O.ls;rw[zj]at D;have zp:=O.sf;have zJ:=I.lt_size;repeat'(first|refine Wy ?_|(refine CW.bo Z ?_)|refine Wm ((λ_ _=>d.cell)) ?_|(refine Wk (c3 _ I.sl) ?_;intro v w1 x S;subst S;replace y:=Ext.trans y x;replace d:=d.ext x;replace n:=n.ext x;replace I:=I.ext x;replace A:=A.ext x;replace D:=D.ext x;replace E:=E.ext x))
    repeat'(first|refine Wy ?_|refine Wl (d.cell (i:=4) (v:= .slice k.lv.A k.lv.n k.lv.c) Z) ?_)
    refine SW.bz Z Z Z Z Z λb w9 G zK hB=>?_;have za:aN k.lv.A k.lv.c≠some b:=λe=>by have:=I.lt_size _ e;omega
    (replace y:=Ext.trans y G;replace d:=d.ext G;replace n:=n.ext G;replace I:=I.ext G;replace A:=A.ext G;replace D:=D.ext G;replace E:=E.ext G);skip;have zL:bB h.Live a<=h.Live.length:=List.findIdx_le_length;refine SW.cm Z Z (nC iB k.lv.A k.lv.n k.lv.c w.heap.size h.Live _ I (bB h.Live a) Y ⟨a,o,t⟩ b hB za Y y.size) λv zM S=>?_;obtain⟨A',c',rfl,K,C,_⟩:=S;have B:=I.gr C;replace y:=au y C (Ph _) I.az;replace A:=A.FL zp C B;(replace d:=d.aQ B Z;replace n:=n.aQ B Z;replace D:=D.aQ B Z;replace E:=E.aQ B Z);repeat'(first|refine Wy ?_|fail);refine Wb (i:=4) d λzq N C=>?_;have B:=d.gr C;replace y:=y.own U C;replace n:=n.grown C (by simpa using Ne.symm P);(replace A:=A.aQ B Z;replace D:=D.aQ B Z;replace E:=E.aQ B Z;replace K:=K.aQ B Z);replace d:ay zq k.b 34 (bg ⟨⟨some ⟨k.g,0,none⟩,2,k.c⟩,k.m,k.cp,R.li,⟨A',k.lv.n+1,c'⟩⟩):=N;repeat'(first|refine Wy ?_|refine Wm ((λ_ _=>d.cell)) ?_)
    refine Wg n (bw ⟨⟨some ⟨k.g,0,none⟩,2,k.c⟩,k.m,k.cp,R.li,⟨A',k.lv.n+1,c'⟩⟩) λzN J C=>?_;have B:=n.gr C;replace y:=y.own M C;(replace A:=A.aQ B Z;replace D:=D.aQ B Z;replace E:=E.aQ B Z;replace K:=K.aQ B Z);repeat'(first|refine Wy ?_|fail);exact ah.cb Z Z Z Z J Z ⟨_,Z,y,_,zm,⟨⟨some ⟨k.g,0,none⟩,2,k.c⟩,k.m,k.cp,R.li,⟨A',k.lv.n+1,c'⟩⟩,Z,⟨zv,D,K,⟨[R.u0,R.u1],⟨A.row,dR.two A.z0 A.z1⟩⟩,⟨R.ls,E⟩⟩⟩
 repeat'(first|refine Wy ?_|refine SW.dP Z Z Z (λh=>?_) (λh=>?_)|refine Wm ((λ_ _=>d.cell)) ?_|refine Wl (d.cell (i:=2) (v:=Iv r.bl) Z) ?_|(refine Wk (c1 _ y) ?_;intro v w1 x S;subst S;replace y:=Ext.trans y x;replace d:=d.ext x;replace n:=n.ext x))
 all_goals try omega
 all_goals
  refine Wg n (bw .zero) λw5 J C=>?_;replace y:=y.own M C;repeat'(first|refine Wy ?_|fail);exact ah.cb Z Z Z Z J Z ⟨_,Z,y,_,.range hq hc,jy.zero 1 _ _⟩
variable {z:ap}
structure RQ(wb w:World)(k:HK)(p:HP)(s:ap×ap)(L:List aC):Prop where
 zs:dM w wb.heap.size k.g k.c p.u0 p.u1 s
 cx:Own w wb.heap.size 3 1 aT k.m.A k.m.n k.m.c k.M
 live:Own w wb.heap.size 129 3 aL k.lv.A k.lv.n k.lv.c k.V
 ls:dw w wb.heap.size p.li p.ls L
 base:Ext wb w
section
variable {wb w w':World}{k:HK}{p:HP}{s:ap×ap}{L:List aC}{t:TypeId}{b:Nat}
theorem RQ.ext(h:RQ wb w k p s L)(a:Ext w w'):RQ wb w' k p s L:=⟨h.zs.ext a,h.cx.ext a,h.live.ext a,h.ls.ext a,h.base.trans a⟩
theorem RQ.own(h:RQ wb w k p s L)(f:w.grownBy w' (some b))(hb:wb.heap.size<=b)(c:oe w w' t)(a:(Nat.beq t 98||(Nat.beq t 3||(Nat.beq t 129||Nat.beq t 100)))=false):RQ wb w' k p s L:=by
 simp only[Bool.or_eq_false_iff]at a;obtain⟨g,d,e,i⟩:=a;exact⟨h.zs.aQ c (by simp[g,d,e]),h.cx.aQ c d,h.live.aQ c e,h.ls.aQ c (by simp[d,i]),h.base.own hb f⟩
theorem RQ.fX(h:RQ wb w k p s L)(d:VS s){a:Nat}(b:a<2):∃u,[p.u0,p.u1][a]'b=u∧fv w wb.heap.size u (rU s a):=by
 rcases PJ a 1 with c|c
 ·obtain rfl:a=0:=Y;exact⟨p.u0,Z,h.zs.z0⟩
 obtain rfl:a=1:=Y;exact⟨p.u1,Z,h.zs.z1⟩
theorem RQ.IM{b:Nat}{u:cM}(h:RQ wb w k p s L)(m:b<2)(e:Own w' wb.heap.size 98 4 bu (some ⟨k.g,0,none⟩) 2 k.c ([p.u0,p.u1].set b u))(f:w.grownBy w' (some k.g))(i:fv w wb.heap.size u z):RQ wb w' k (nf p b u) (l9 s (b:Int) z) L:=by
 have a:=h.zs.gr f;have c:=i.aQ a Z;have g:Ext wb w':=h.base.own h.zs.xD f;unfold nf l9;by_cases d:b=0
 ·subst d;simp only[if_true,Int.natCast_zero]at*;exact⟨⟨e,c,h.zs.z1.aQ a Z,h.zs.xD,h.zs.pos⟩,h.cx.aQ a Z,h.live.aQ a Z,h.ls.aQ a Z,g⟩
 obtain rfl:b=1:=Y;have j:¬((1:Nat)=0):=Y;have l:¬(((1:Nat):Int)=0):=Y;simp only[if_neg j,if_neg l]at*;exact⟨⟨e,h.zs.z0.aQ a Z,c,h.zs.xD,h.zs.pos⟩,h.cx.aQ a Z,h.live.aQ a Z,h.ls.aQ a Z,g⟩
theorem RQ.low(h:RQ wb w k p s L):wb.heap.size<=w.heap.size:=h.base.size
end
theorem yZ(k:HK)(p:HP)(s:ap×ap)(L:List aC)(m0 m1:Int)(d:Nat)(o f:Int)(J w:World)(Q:RQ J w k p s L)(t:rV k.M m0 m1)(u:VS s)(e:d<2)(D:0<=o∧o<=4)(K:0<=f∧f<=15):
 aS prog 186 [.agg (bg (k.h p)).toArray,Iv (d:Int),Iv o,Iv f] w λv _=>v= .bool (decide (eQ m0 m1 s d o f)):=by
 refine Wj func186 ntmps186 ?_;refine Ww λT n l E m=>?_;obtain⟨x,y,g⟩:=Q.fX u e;have c:=u.rU (d:Int);obtain⟨z,F⟩:=bq (rU s (d:Int));rw[F]at g c;obtain⟨U,V,W,X⟩:=kM g c;have hA:=Q.zs.row.sl.base;have M:=Q.zs.row.sl.dp e (j:=2) (show(bu ([p.u0,p.u1][d]'e))[2]?=some (Value.slice x.ai.A x.ai.n x.ai.c)by rw[y];rfl)
 have A:∀b∈z.ai,0<=b.Order∧b.Order<=4:=λb hb=>by
  obtain⟨j,G,rfl⟩:=Pg hb;exact⟨(c.dm j G).1.1,(c.dm j G).1.2.1⟩
 obtain⟨h,i⟩:=bq (qL m0 m1 s d f);obtain⟨a1,a2,a3,a4,a5⟩:=u.j8.ok
 have N:∀r,Ext w r->aS prog 221 [.agg (bg (k.h p)).toArray,Iv (d:Int),Iv f] r λv _=>v=Iv h:=λr H=>by
  have:=EH.C9 (k.h p) p.u0 p.u1 s k.M m0 m1 d f r (Q.cx.ext H).sl (Q.zs.row.ext H).sl t Q.zs.z1.from_ Q.zs.z1.kW ⟨by omega,by omega⟩ ⟨by omega,by omega⟩ e K;rwa[i]at this
 have O:0<=h∧h<=512:=by
  rw[<-i];have h1:=t.b0;have h2:=t.b1;unfold qL;(repeat' split)<;>omega
 have P:=js c;have B:=lz c z.ai.length (Ph _);rw[QG]at B;have R:=bP D.1 D.2;have S:eQ m0 m1 s d o f↔h<=fu z.ai-pw o:=by unfold eQ;rw[i,F]
 obtain⟨q,I⟩:=bq (decide (eQ m0 m1 s d o f));rw[I];have C:decide (h<=fu z.ai-pw o)=q:=by rw[<-I];exact decide_eq_decide.2 S.symm
 repeat'(first|refine Wz ?_|refine fq ?_|refine Wn l M ?_|refine SW.ba Z Z (λn a=>(FV _ _ _ _ _ (g.free.ext (l.trans a)).sl A Y)) ?_|refine SW.ba Z Z (λn a=>(dk _ Y _)) ?_|refine SW.ba Z Z (λn a=>(N _ (l.trans a))) ?_|(refine SW.br λn a=>?_;obtain⟨l,m⟩:=bk a l m))
 refine ah.aF Z Z ⟨_,Z,l,?_⟩;rw[<-C]
variable {w':World}
structure sB(k:HK)(p:HP)(o:Option Nat):Prop where
 m:∀g,o=some g->ob k.m≠some g
 t0:∀g,o=some g->ob p.u0.Types≠some g
 t1:∀g,o=some g->ob p.u1.Types≠some g
 pg:∀g,o=some g->∀y∈p.ls,ob y.aq≠some g
theorem sB.nil(k:HK)(p:HP):sB k p none:=⟨λg e=>(by cases e),λg e=>(by cases e),λg e=>(by cases e),λg e=>(by cases e)⟩
theorem RQ.fresh{k:HK}{p:HP}{s:ap×ap}{o:Option Nat}(Q:RQ wb w k p s L)(h:∀g,o=some g->w.heap.size<=g):sB k p o:=by
 refine⟨λg e a=>?_,λg e a=>?_,λg e a=>?_,λg e y c a=>?_⟩
 ·have:=h g e;have:=Q.cx.lt_size g a;omega
 ·have:=h g e;have:=Q.zs.z0.types.lt_size g a;omega
 ·have:=h g e;have:=Q.zs.z1.types.lt_size g a;omega
 obtain⟨j,b,rfl⟩:=Pg c;have:=h g e;have:=(Q.ls.each.get j b (by rw[<-Q.ls.each.len];exact b)).bt.lt_size g a;omega
theorem sB.either{k:HK}{p:HP}{o b:Option Nat}(h:sB k p o)(h':∀g,b=some g->o=some g∨sB k p (some g)):sB k p b:=by
 refine⟨λg e=>?_,λg e=>?_,λg e=>?_,λg e=>?_⟩
 ·rcases h' g e with a|a
  ·exact h.m g a
  exact a.m g Z
 ·rcases h' g e with a|a
  ·exact h.t0 g a
  exact a.t0 g Z
 ·rcases h' g e with a|a
  ·exact h.t1 g a
  exact a.t1 g Z
 rcases h' g e with a|a
 ·exact h.pg g a
 exact a.pg g Z
theorem sB.nf{k:HK}{p:HP}{o:Option Nat}{n c:Nat}{u:cM}(h:sB k p o)(a:∀g,o=some g->g<n)(d:∀g,aN u.Types.A u.Types.c=some g->n<=g):sB k (nf p c u) o:=by
 have b:∀g,o=some g->ob u.Types≠some g:=λg e f=>by have:=a g e;have:=d g f;omega
 unfold Proofs.YtdlfabkacdgneaaGreatDoor.nf;split
 ·exact⟨h.m,b,h.t1,h.pg⟩
 exact⟨h.m,h.t0,b,h.pg⟩
theorem RQ.xR{k:HK}{p:HP}{s:ap×ap}{o:Option Nat}(Q:RQ wb w k p s L)(a:w.grownBy w' o)(d:oe w w' 3)(b:sB k p o)(hb:∀g,o=some g->wb.heap.size<=g):RQ wb w' k p s L:=by
 refine⟨Q.zs.LO a d (λg e u h=>?_),Q.cx.apart a (λg e f=>b.m g f e),Q.live.aQ d Z,⟨Q.ls.row.aQ d Z,⟨Q.ls.each.len,λj i l=>?_⟩⟩,au Q.base a (Ph _) hb⟩
 ·simp only[List.mem_cons,List.not_mem_nil,or_false]at h;rcases h with rfl|rfl
  ·exact b.t0 g e
  exact b.t1 g e
 have c:=Q.ls.each.get j i l;exact⟨c.cpu,c.fX,c.ty,c.bt.apart a (λg e f=>b.pg g f _ (Pf i) e)⟩
theorem Sl.Mz{n:Nat}{l:List α}(h:Sl w sz enc A n l){x:α}(a:i<l.length)(b:l[i]=x):∀(j:Nat)(v:Value),(enc x)[j]?=some v->w.cell? (((A.getD default).add (i*sz)).add j)=some v:=λj v c=>by
 subst b;exact h.cell i a j v c
def M8:Option ((ap×ap)×List aC×Int)->Int
 | Option.none=> -1
 | some q=>q.2.2
theorem uP(k:HK)(p:HP)(s:ap×ap)(L:List aC)(m0 m1 cpu:Int)(n:Nat)(o t f:Int)(W w:World)(Q:RQ W w k p s L)(hM:rV k.M m0 m1)(hv:VS s)(hs:uk L)(zB:∀l∈L,1<=l.aq.length∧l.aq.length<=8)(z1:L.length<=256)(V:n<2)(ho:0<=o∧o<=4)(hf:0<=f∧f<=15):
 jX prog 107 [.agg (bg (k.h p)).toArray,Iv cpu,Iv (n:Int),Iv o,Iv t,Iv f] w λv F=>∃q,iY m0 m1 cpu n o t f s L q∧∃p',v= .tuple #[.agg (bg (k.h p')).toArray,Iv (M8 q)]∧RQ W F k p' (KI s q) (IQ L q)∧G2 w F k.g k.g:=by
 refine c8 func107 rfl ntmps107 rfl ?_;refine Ww λb6 w1 B zC j=>?_;refine SW.alloc Z λzn w2 zO zq d=>?_;have z2:w.heap.size<=b6:=zC;have m:=B.up zq;have z4:b6≠zn:=by have:=j.lt;omega
 have d:ay w2 zn 34 (bg .zero):=d;obtain⟨B,j⟩:=bk zO B j;have zP:=Q.base;have Q0:=Q;have Q:=Q.ext B;have x:=(G2.refl w k.g k.g).ext B;have G:W.heap.size<=w.heap.size:=zP.size;obtain⟨l1,l2⟩:=Q.ls.rd.len;obtain⟨uz,zr,H⟩:=Q.fX hv V;have zh:=hv.rU (n:Int);obtain⟨z,hz⟩:=bq (rU s (n:Int));rw[hz]at H zh;obtain⟨q1,q2,q3,q4⟩:=kM H zh;have hA:=Q.zs.row.sl.base;have zs:∀l∈L,l.aq.length*8<=140737488355328:=λl hl=>by have:=zB l hl;omega
 have cE:∀F(b:Bool),decide (eQ m0 m1 s n o f)=b->RQ W F k p s L->aS prog 186 [.agg (bg (k.h p)).toArray,Iv (n:Int),Iv o,Iv f] F λv _=>v= .bool b:=λF b hb hq=>by
  have:=yZ k p s L m0 m1 n o f W F hq hM hv V ho hf;rwa[hb]at this
 rcases(show(o=0∧bW L ⟨cpu,(n:Int),t,[]⟩=true)∨((o=0∧bW L ⟨cpu,(n:Int),t,[]⟩=false)∨0<o)by
  cases e:bW L ⟨cpu,(n:Int),t,[]⟩
  ·by_cases h0:o=0
   ·exact .inr (.inl ⟨h0,Z⟩)
   exact .inr (.inr Y)
  by_cases h0:o=0
  ·exact .inl ⟨h0,Z⟩
  exact .inr (.inr Y))with⟨zo,S⟩|C
 ·obtain⟨zD,zE⟩:=fK S;have zt:=zB _ (Pf zD);have za:=fk S zD;obtain⟨pO,zb⟩:=bq (bZ L ⟨cpu,(n:Int),t,[]⟩);rw[<-za,zb]at zt;refine Wz ?_;refine Wk (pn (k.h p) L p.ls ⟨cpu,(n:Int),t,[]⟩ _ Q.ls.rd hs dD zs) λv w4 y hv=>?_;obtain⟨A,c,rfl,D⟩:=hv;rw[zb]at D;have D:=D.low (Q.low);simp only[zb];obtain⟨B,j,d,Q,x⟩:=dz y B j d Q x;have zu:pO≠[]:=λe=>by rw[e]at zt;simp at zt
  have zd:pO.length-1<pO.length:=Y;have zv:=xW zu zd Z;obtain⟨a,ha⟩:=bq (pO.getLast zu);rw[ha]at zv
  have zF:iY m0 m1 cpu n o t f s L (some (s,rG L ⟨cpu,(n:Int),t,[]⟩ pO,a)):=by
   have:=iY.list (m0:=m0) (m1:=m1) (fl:=f) (s:=s) zo S (by rw[zb];exact zu);simp only[zb,ha]at this;exact this
  have z3:=D.le;have z5:=D.sl.base;have zg:=D.pre (i:=pO.length-1) Y;rw[<-List.dropLast_eq_take]at zg;refine Wz ?_;refine CW.iF 16 17 (λw2=>Own w2 W.heap.size 3 1 aT A pO.length c pO) mixed bm λw1 I ze=>?_;obtain⟨B,j,d,Q,x,D,zg⟩:=iX I B j d Q x D zg;refine Wf ?_;refine Wt 8 [] [] ze Z (gl (k:=pO.length-1) Z (congrArg (λz=>some (Iv z)) Y) Y) ?_;refine Wi 10 [] ze Z (aH Z) (λw2 hS=>aH Z) ?_;refine SF.nz 11 [] ze Z bm bm bm (aH Z) (λw2 hS=>aH Z) Z ?_;refine Wi 12 [] ze Z (Cu Z) (λw2 hS=>Cu Z) ?_;refine SF.nz 13 [] ze Z bm bm bm (r5 Z Z Y Y) (λw2 hS=>r5 Z Z Y Y) Z ?_;refine Wi 14 [] ze Z (aU (pO.length-1) Z Z ig Y Y) (λw2 hS=>aU (pO.length-1) Z Z ig Y Y) ?_;refine Wi 15 [] ze Z (aJ Z (D.sl.one zd (congrArg aT zv.symm))) (λw2 hS=>aJ Z (hS.sl.one zd (congrArg aT zv.symm))) ?_;refine SF.bD 9 ?_;refine Wk (mr (k.h p) L p.ls (dH ⟨cpu,(n:Int),t,[]⟩ pO.dropLast) ⟨cpu,(n:Int),t,⟨A,pO.length-1,c⟩⟩ W.heap.size _ Q.ls ⟨Z,Z,Z,zg⟩ hs Q.low dD) λv w5 y hv=>?_;obtain⟨sl,R,rfl,U⟩:=hv;obtain⟨B,j,d,Q,x,D⟩:=fi y B j d Q x D;refine SW.nil (ah.sf y ?_);refine SF.eW ?_;refine Wg d (bw ⟨⟨some ⟨k.g,0,none⟩,2,k.c⟩,k.m,k.cp,sl,k.lv⟩) λw6 K E=>?_;have M:=d.gr E;have T:=Q.own E (Pj G m) M Z;have N:=x.new E m;rw[KP hs S]at U;have zf:=U.aQ M Z;have hS:=D.aQ M Z;refine SW.nil (ah.sg hS ?_);refine SG.dQ ?_;refine Wz ?_;exact ah.a9 Z Z Z K Z ⟨_,Z,_,zF,⟨p.u0,p.u1,sl,R⟩,Z,⟨T.zs,T.cx,T.live,zf,T.base⟩,N⟩
 have zG:¬(o=0∧bW L ⟨cpu,(n:Int),t,[]⟩=true):=λh=>by
  rcases C with h1|h1
  ·rw[h.2]at h1;cases h1.2
  omega
 have zN:=C;by_cases he:eQ m0 m1 s n o f
 ·have zc:=λF=>cE F true (decide_eq_true he);rcases C with C|C
  focus
   obtain⟨zo,S⟩:=C;have za:=iP S;refine Wz ?_;refine Wk (pn (k.h p) L p.ls ⟨cpu,(n:Int),t,[]⟩ _ Q.ls.rd hs dD zs) λv w4 y hv=>?_;obtain⟨A,c,rfl,D⟩:=hv;rw[za]at D;simp only[za,List.length_nil];obtain⟨B,j,d,Q,x,H⟩:=fi y B j d Q x H
  all_goals
   repeat'(first|refine Wz ?_|(refine CW.bo Z ?_)|refine Wm ((Q.zs.row.sl.Mz V zr)) ?_|(refine Wc (zc _ Q) λw1 I=>?_;obtain⟨B,j,d,Q,x,H⟩:=fi I B j d Q x H))
   refine Wk (vp uz z o t _ H.rd q1 q2 ⟨by omega,by omega⟩ ⟨by omega,by omega⟩) λv w4 y zw=>?_;obtain⟨u,hT,r',rfl,J⟩:=zw;have J:=J.low Q.low;obtain⟨B,j,d,Q,x⟩:=dz y B j d Q x;refine Wz ?_;refine Wr (ck r') λz6 w2 y zx zH=>?_;have zQ:=B.up zx;obtain⟨B,j,d,Q,x,J⟩:=fi y B j d Q x J;rw[<-hz]at hT;refine Classical.byCases (p:=¬u.2.2=0) (λhu=>?_) (λhu=>?_)
   focus
    refine Wz ?_;refine Wg d (bw (k.h p)) λw6 K E=>?_;have M:=d.gr E;have T:=Q.own E (Pj G m) M Z;have N:=x.new E m;refine Wz ?_;exact ah.a9 Z Z Z K Z ⟨_,Z,_,.none zG he hT hu,p,Z,T,N⟩
   have hu:=Classical.not_not.1 hu;refine Wz ?_;refine SW.iT (enc:=bu) n r' Q.zs.row Z Z V λw5 zj E=>?_;rw[Q.zs.own]at E;have M:=Q.zs.gr E;have Q5:=Q.IM V zj E J;have x:=x.LS E;obtain⟨j,d⟩:=bk M j d;have zk:VS (l9 s (n:Int) u.1):=hv.pK (hT.j7 hu).1;have B:=Ext.refl w5
  ·obtain⟨a,ha⟩:=bq u.2.1
   have X:∀r,gi m0 m1 n t f (l9 s (n:Int) u.1) [] r->iY m0 m1 cpu n o t f s L (some (r.1,jx L ⟨cpu,(n:Int),t,[]⟩ r.2,a)):=λr hr=>by
    rw[<-ha];exact .fill zo S he hT hu hr
   obtain⟨s5,zI⟩:=bq (l9 s (n:Int) u.1);obtain⟨p5,zy⟩:=bq (nf p n r');have e5:p5.li=p.li∧p5.ls=p.ls:=by rw[<-zy];exact mq
   rw[zI]at Q5 zk X;rw[zy]at Q5;refine Wz ?_
   refine CW.loop (λv:HP×(ap×ap)×List Int×Option Addr×Nat=>[(1,Iv cpu),(2,Iv (n:Int)),(4,Iv t),(5,Iv f),(6,Pt b6),(12,Pt zn),(16,Iv a),(18,.slice v.2.2.2.1 v.2.2.1.length v.2.2.2.2)])
    (λv F=>v.2.2.1.length<=3∧RQ W F k v.1 v.2.1 L∧v.1.li=p.li∧v.1.ls=p.ls∧VS v.2.1∧ay F b6 34 (bg (k.h p))∧ay F zn 34 (bg .zero)∧G2 w F k.g k.g∧Own F w.heap.size 3 1 aT v.2.2.2.1 v.2.2.1.length v.2.2.2.2 v.2.2.1∧sB k v.1 (aN v.2.2.2.1 v.2.2.2.2)∧∀r,gi m0 m1 n t f v.2.1 v.2.2.1 r->gi m0 m1 n t f s5 [] r) (λv=>3-v.2.2.1.length) (p5,s5,[],none,0)
    ⟨Z,Z,Z,Z,Z,Z,by rw[<-ha];rfl,Z,trivial⟩ ⟨by simp,Q5,e5.1,e5.2,zk,j,d,x,Own.cq _ _ _ _ _ _,sB.nil _ _,λr h=>h⟩ ?_
   rintro⟨p6,s6,pg,A,c⟩ F ⟨zR,Q,e1,e2,zl,j,d,x,D,hN,O⟩;simp only at zR Q e1 e2 zl D hN O⊢;have B:=Ext.refl F;have zS:k.h p6=k.h p:=by simp only[HK.h,e1]
   obtain⟨uz,zr,H⟩:=Q.fX zl V;have zh:=zl.rU (n:Int);obtain⟨z,hz⟩:=bq (rU s6 (n:Int));rw[hz]at H zh;obtain⟨q1,q2,q3,q4⟩:=kM H zh;have hA:=Q.zs.row.sl.base
   have cE:∀F(b:Bool),decide (eQ m0 m1 s6 n 0 f)=b->RQ W F k p6 s6 L->aS prog 186 [.agg (bg (k.h p)).toArray,Iv (n:Int),Iv 0,Iv f] F λv _=>v= .bool b:=λF b hb hq=>by
    have:=yZ k p6 s6 L m0 m1 n 0 f W F hq hM zl V ir hf;rwa[hb,zS]at this
   have zT:=Q.ls;by_cases zz:pg.length<3
   ·by_cases zm:eQ m0 m1 s6 n 0 f
    ·have zc:=λF=>cE F true (decide_eq_true zm);repeat'(first|refine Wz ?_|refine Wm ((Q.zs.row.sl.Mz V zr)) ?_|(refine Wc (zc _ Q) λw1 I=>?_;obtain⟨B,j,d,Q,x,H,D⟩:=iX I B j d Q x H D))
     have zJ:=D.lt_size;refine Wk (vp uz z 0 t _ H.rd q1 q2 ⟨by omega,by omega⟩ ⟨by omega,by omega⟩) λv w4 y zw=>?_;obtain⟨u,hT,r',rfl,J⟩:=zw;have zU:=J.types.az;have J:=J.low Q.low;obtain⟨B,j,d,Q,x,D⟩:=fi y B j d Q x D;refine Wz ?_;refine SW.alloc Z λz7 w2 y zA zK=>?_;skip;refine Wg zK (ck r') λw3 zV E=>?_;have zW:=y.own zA E;obtain⟨B,j,d,Q,x,D,J⟩:=iX zW B j d Q x D J;have B:=Ext.refl w3;rw[<-hz]at hT;by_cases hu:u.2.2=0
     ·refine Wz ?_;refine SW.iT (enc:=bu) n r' Q.zs.row Z Z V λw5 zj E=>?_;rw[Q.zs.own]at E;have M:=Q.zs.gr E;have Q5:=Q.IM V zj E J;have x:=x.LS E;obtain⟨j,d,D⟩:=aY M j d D;have zk:VS (l9 s6 (n:Int) u.1):=zl.pK (hT.j7 hu).1;have zL:sB k (nf p6 n r') (aN A c):=hN.nf zJ zU;have zp:∀r,gi m0 m1 n t f (l9 s6 (n:Int) u.1) (pg++[u.2.1]) r->gi m0 m1 n t f s5 [] r:=λr hr=>O _ (.more zz zm hT hu hr);have B:=Ext.refl w5;refine Wz ?_;refine SW.bz Z Z Z Z Z λb w8 y hb hB=>?_;obtain⟨B,j,d,Q5,x,D⟩:=fi y B j d Q5 x D;refine SW.tv D (ay.la (enc:=aT) hB) x.size ir Z Z Z Y Y λA3 c3 w9 zX E zM=>?_;have M:=D.gr E;have z0:sB k (nf p6 n r') (aN A3 c3):=zL.either λg e=>(zM g e).imp id (λh=>Q5.fresh (λg' e'=>by cases e';exact h));have Q9:=Q5.xR E M zL (λg e=>Pj G (D.az g e));have x:=x.step E (λg e=> .inr (.inr (D.az g e)));obtain⟨j,d⟩:=bk M j d;refine Wz ?_;exact ah.again (nf p6 n r',l9 s6 (n:Int) u.1,pg++[u.2.1],A3,c3) ⟨Z,Z,Z,Z,Z,Z,Z,by simp only[List.length_append,List.length_singleton];rfl,trivial⟩ (by simp;omega) ⟨by simp;omega,Q9,mq.1.trans e1,mq.2.trans e2,zk,j,d,x,by simp only[List.length_append,List.length_singleton];exact zX,z0,zp⟩
     have hF:gi m0 m1 n t f s6 pg (s6,pg):= .none zz zm hT hu;refine Wz ?_;have P:∀F,RQ W F k p6 s6 L->dw F W.heap.size p.li p.ls L:=λF q=>by have:=q.ls;rwa[e1,e2]at this
     refine Wk (mr (k.h p) L p.ls (dH ⟨cpu,(n:Int),t,[]⟩ pg) ⟨cpu,(n:Int),t,⟨A,pg.length,c⟩⟩ W.heap.size _ (P _ Q) ⟨Z,Z,Z,D.low G⟩ hs Q.low dD) λv w5 y hv=>?_;obtain⟨sl,R,rfl,U⟩:=hv;obtain⟨B,j,d,Q,x,D⟩:=fi y B j d Q x D;refine Wz ?_;refine Wg d (bw ⟨⟨some ⟨k.g,0,none⟩,2,k.c⟩,k.m,k.cp,sl,k.lv⟩) λw6 K E=>?_;have M:=d.gr E;have T:=Q.own E (Pj G m) M Z;have N:=x.new E m;rw[uO hs S]at U;have zf:=U.aQ M Z;refine Wz ?_;exact ah.a9 Z Z Z K Z ⟨_,Z,_,X _ (O _ hF),⟨p6.u0,p6.u1,sl,R⟩,Z,⟨T.zs,T.cx,T.live,zf,T.base⟩,N⟩
    have hF:gi m0 m1 n t f s6 pg (s6,pg):= .nW zz zm;have zc:=λF=>cE F false (decide_eq_false zm);repeat'(first|refine Wz ?_|(refine Wc (zc _ Q) λw1 I=>?_;obtain⟨B,j,d,Q,x,H,D⟩:=iX I B j d Q x H D))
    have P:∀F,RQ W F k p6 s6 L->dw F W.heap.size p.li p.ls L:=λF q=>by have:=q.ls;rwa[e1,e2]at this
    refine Wk (mr (k.h p) L p.ls (dH ⟨cpu,(n:Int),t,[]⟩ pg) ⟨cpu,(n:Int),t,⟨A,pg.length,c⟩⟩ W.heap.size _ (P _ Q) ⟨Z,Z,Z,D.low G⟩ hs Q.low dD) λv w5 y hv=>?_;obtain⟨sl,R,rfl,U⟩:=hv;obtain⟨B,j,d,Q,x,D⟩:=fi y B j d Q x D;refine Wz ?_;refine Wg d (bw ⟨⟨some ⟨k.g,0,none⟩,2,k.c⟩,k.m,k.cp,sl,k.lv⟩) λw6 K E=>?_;have M:=d.gr E;have T:=Q.own E (Pj G m) M Z;have N:=x.new E m;rw[uO hs S]at U;have zf:=U.aQ M Z;refine Wz ?_;exact ah.a9 Z Z Z K Z ⟨_,Z,_,X _ (O _ hF),⟨p6.u0,p6.u1,sl,R⟩,Z,⟨T.zs,T.cx,T.live,zf,T.base⟩,N⟩
   have hF:gi m0 m1 n t f s6 pg (s6,pg):= .full Y;refine Wz ?_;have P:∀F,RQ W F k p6 s6 L->dw F W.heap.size p.li p.ls L:=λF q=>by have:=q.ls;rwa[e1,e2]at this
   refine Wk (mr (k.h p) L p.ls (dH ⟨cpu,(n:Int),t,[]⟩ pg) ⟨cpu,(n:Int),t,⟨A,pg.length,c⟩⟩ W.heap.size _ (P _ Q) ⟨Z,Z,Z,D.low G⟩ hs Q.low dD) λv w5 y hv=>?_;obtain⟨sl,R,rfl,U⟩:=hv;obtain⟨B,j,d,Q,x,D⟩:=fi y B j d Q x D;refine Wz ?_;refine Wg d (bw ⟨⟨some ⟨k.g,0,none⟩,2,k.c⟩,k.m,k.cp,sl,k.lv⟩) λw6 K E=>?_;have M:=d.gr E;have T:=Q.own E (Pj G m) M Z;have N:=x.new E m;rw[uO hs S]at U;have zf:=U.aQ M Z;refine Wz ?_;exact ah.a9 Z Z Z K Z ⟨_,Z,_,X _ (O _ hF),⟨p6.u0,p6.u1,sl,R⟩,Z,⟨T.zs,T.cx,T.live,zf,T.base⟩,N⟩
  refine Wz ?_;refine Wg d (bw (k.h p)) λw6 K E=>?_;have M:=d.gr E;have T:=Q5.own E (Pj G m) M Z;have N:=x.new E m;refine Wz ?_;exact ah.a9 Z Z Z K Z ⟨_,Z,_,.tz C he hT hu,nf p n r',by rw[show k.h (nf p n r')=k.h p by simp only[HK.h,mq.1]];rfl,T,N⟩
 have zc:=λF=>cE F false (decide_eq_false he);rcases C with C|C
 focus
  obtain⟨zo,S⟩:=C;have za:=iP S;refine Wz ?_;refine Wk (pn (k.h p) L p.ls ⟨cpu,(n:Int),t,[]⟩ _ Q.ls.rd hs dD zs) λv w4 y hv=>?_;obtain⟨A,c,rfl,D⟩:=hv;rw[za]at D;simp only[za,List.length_nil];obtain⟨B,j,d,Q,x⟩:=dz y B j d Q x
 all_goals
  repeat'(first|refine Wz ?_|(refine CW.bQ Z ?_)|(refine Wc (zc _ Q) λw1 I=>?_;obtain⟨B,j,d,Q,x⟩:=dz I B j d Q x))
  refine Wg d (bw (k.h p)) λw6 K E=>?_;have M:=d.gr E;have T:=Q.own E (Pj G m) M Z;have N:=x.new E m;refine Wz ?_;exact ah.a9 Z Z Z K Z ⟨_,Z,_,.nW zG he,p,Z,T,N⟩
variable {a:Int} {z0 z1:ap}
inductive nZ(h:Heap)(cpu o t f:Int)(z0 z1:ap):Nat->Int->ap×ap->List aC->Prop
 | start:nZ h cpu o t f z0 z1 0 (-1) (z0,z1) h.ak
 | KQ (ha:iZ (cQ h 0) (cQ h 1) cpu o t f (z0,z1) h.ak none):nZ h cpu o t f z0 z1 1 (-1) (z0,z1) h.ak
 | N1 {r:(ap×ap)×List aC×Int} (ha:iZ (cQ h 0) (cQ h 1) cpu o t f (z0,z1) h.ak (some r)):nZ h cpu o t f z0 z1 1 r.2.2 r.1 r.2.1
 | KR (ha:iZ (cQ h 0) (cQ h 1) cpu o t f (z0,z1) h.ak none) (h2:iZ (cQ h 0) (cQ h 1) cpu o t f (bp (z0,z1) (aM h.ak)) [] none):nZ h cpu o t f z0 z1 2 (-1) (bp (z0,z1) (aM h.ak)) []
 | N2 {r:(ap×ap)×List aC×Int} (ha:iZ (cQ h 0) (cQ h 1) cpu o t f (z0,z1) h.ak none) (h2:iZ (cQ h 0) (cQ h 1) cpu o t f (bp (z0,z1) (aM h.ak)) [] (some r)):nZ h cpu o t f z0 z1 2 r.2.2 r.1 r.2.1
structure Dc(h:Heap)(cpu o t f:Int)(z0 z1:ap)(j:Nat)(s:ap×ap)(L:List aC):Prop where
 vs:VS s
 iy:uk L
 bt:∀l∈L,1<=l.aq.length∧l.aq.length<=8
 count:L.length<=256
 pos:∀r,iZ (cQ h 0) (cQ h 1) cpu o t f s L (some r)->0<=r.2.2
 next:∀q,iZ (cQ h 0) (cQ h 1) cpu o t f s L q->nZ h cpu o t f z0 z1 (j+1) (M8 q) (KI s q) (IQ L q)
theorem B9{h:Heap}{t:Int}(F:iE h z0 z1):Dc h cpu o t f z0 z1 0 (z0,z1) h.ak:=
 ⟨F.d.start.vs,F.iy,F.lists,F.count,λr b=>by obtain⟨i,e,_⟩:=lq F (b.found F.d.start.vs).2;omega,λq a=>by cases q with
  | none=>exact .KQ a
  | some r=>exact .N1 a⟩
theorem IY{h:Heap}{t:Int}(F:iE h z0 z1)(a:iZ (cQ h 0) (cQ h 1) cpu o t f (z0,z1) h.ak none):Dc h cpu o t f z0 z1 1 (bp (z0,z1) (aM h.ak)) []:=
 ⟨(dN F.d).vs,List.Pairwise.nil,λl d=>by grind,by simp,λr c=>by obtain⟨i,e,_⟩:=ku F (c.found (dN F.d).vs).2;omega,λq b=>by cases q with
  | none=>exact .KR a b
  | some r=>exact .N2 a b⟩
theorem nZ.done{h:Heap}(k:gd h=true)(l:(0<=cpu∧cpu<h.bl)∧0<=o∧o<=4)(m:0<=fD f)(F:iE h z0 z1){s:ap×ap}(R:nZ h cpu o (fD f) f z0 z1 j a s L)(p:¬(j<2∧a<0)):
 (a= -1∧cj h cpu o f (.zero,0,6))∨((0<=a∧a<256)∧(∀b∈h.Live,b.At≠a)∧cj h cpu o f (ma h s L (dc h a o (fD f)),a,0)):=by
 cases R with
 | start=>omega
 | KQ=>omega
 | N1 d=>
   obtain⟨i,e,n,c⟩:=lq F (d.found F.d.start.vs).2;exact .inr ⟨by omega,F.nO e c,.once k l m F.d.bA d⟩
 | KR d g=>exact .inl ⟨Z,.room k l m F.d.bA d g⟩
 | N2 d g=>
   obtain⟨i,e,n,c⟩:=ku F (g.found (dN F.d).vs).2;exact .inr ⟨by omega,F.nO e c,.kA k l m F.d.bA d g⟩
theorem n0(r:fB)(h:Heap)(cpu o f:Int)(w:World)(hr:AQ w r h)(hs:h.small)(zE:∀z∈h.aK,ew z):
 aS prog 38 [.agg (bg r).toArray,Iv cpu,Iv o,Iv f] w λv P=>∃u,cj h cpu o f u∧jy w.heap.size u v P:=by
 refine Wj func38 ntmps38 ?_;refine Ww λb4 w1 n zQ x=>?_;refine SW.alloc Z λb8 w2 zF zt d=>?_;have zu:=n.up zt;have d:ay w2 b8 34 (bg .zero):=d;obtain⟨n,x⟩:=bk zF n x;have eC:=hr.cpus;obtain⟨q,hq⟩:=bq (gd h)
 have c1:∀P,Ext w P->aS prog 103 [.agg (bg r).toArray] P λv _=>v= .bool q:=λP hx=>by
  have:=tx r h P (hr.ext hx) hs zE;rwa[hq]at this
 cases q
 ·repeat'(first|refine Wz ?_|(refine CW.bQ Z ?_)|(refine Wc (c1 _ n) λw1 C=>?_;obtain⟨n,x,d⟩:=aY C n x d))
  refine Wh d (bw .zero) λw5 g H=>?_;have n:=jc g n;refine Wz ?_;exact ah.cb Z Z Z Z H Z ⟨_,Z,n,_,.bad hq,jy.zero 8 _ _⟩
 have hm:=ch.1 hq;obtain⟨V,W,F⟩:=fC hm;have zR:=hm.cpus;by_cases hc:(0<=cpu∧cpu<h.bl)∧0<=o∧o<=4
 ·obtain⟨t,za⟩:=bq (fD f)
  have c2:∀P,aS prog 104 [Iv f] P λv _=>v=Iv t:=λP=>by
   have:=Ba f P;rwa[za]at this
  by_cases ht:0<=t
  ·have zv:0<=fD f:=by rw[za];exact ht
   obtain⟨hf,zS⟩:=oH zv;repeat'(first|refine Wz ?_|(refine CW.bo Z ?_)|((first|refine Wk (c1 _ n) ?_|refine Wk (c2 _) ?_|refine Wk (bE _ _ _ _) ?_);intro v w1 C hv;subst hv;obtain⟨n,x,d⟩:=aY C n x d))
   all_goals try omega
   refine Wk (jY r h _ (hr.ext n) hs) λv w4 zG hv=>?_;obtain⟨s,rfl,zb⟩:=hv;have zb:=zb.low n.size;obtain⟨n,x,d⟩:=aY zG n x d;obtain⟨g,c,u0,u1,ls,eZ,X,hR⟩:=zb.split F.d.bA;have zj:=zb.cpus;obtain⟨sz,m,cp,li,lv⟩:=s;simp only at eZ hR zj;subst eZ;skip;have zH:=d.lt;refine Wr (bw ⟨⟨some ⟨g,0,none⟩,2,c⟩,m,cp,li,lv⟩) λD w2 zc zk b=>?_;have I:=n.up zk;obtain⟨n,x,d,X,hR⟩:=dz zc n x d X hR;have A:b8≠D:=Y;have Q:RQ w w2 ⟨D,g,c,m,lv,cp,h.bY,h.Live⟩ ⟨u0,u1,li,ls⟩ (V,W) h.ak:=⟨X,hR.cx,hR.live,hR.lists,n⟩;obtain⟨k,hk⟩:∃k:HK,k=⟨D,g,c,m,lv,cp,h.bY,h.Live⟩:=⟨_,Z⟩;obtain⟨p0,zl⟩:∃p:HP,p=⟨u0,u1,li,ls⟩:=⟨_,Z⟩;have l:ay w2 D 34 (bg (k.h p0)):=by rw[hk,zl];exact b
   rw[<-hk,<-zl]at Q;have zg:k.V=h.Live:=by rw[hk]
   have zh:k.M=h.bY:=by rw[hk]
   have zI:k.cp=h.bl:=by rw[hk];exact zj
   have zm:rV k.M (cQ h 0) (cQ h 1):=by rw[zh];exact EJ hm
   have zT:f.tmod 2=f % 2:=Pv Y;have zU:=xX F;refine Wz ?_
   refine CW.loop (λv:Nat×Int×HP×(ap×ap)×List aC=>[(1,Iv cpu),(2,Iv o),(3,Iv f),(8,Pt b8),(11,Iv t),(12,Pt D),(13,Iv v.2.1),(14,Iv (v.1:Int))])
    (λv P=>v.1<=2∧nZ h cpu o t f V W v.1 v.2.1 v.2.2.2.1 v.2.2.2.2∧RQ w P k v.2.2.1 v.2.2.2.1 v.2.2.2.2∧ay P b8 34 (bg .zero)∧ay P D 34 (bg (k.h v.2.2.1))) (λv=>2-v.1) (0,-1,p0,(V,W),h.ak)
    ⟨Z,Z,Z,Z,Z,Z,Z,Z,trivial⟩ ⟨by simp only;omega,.start,Q,d,l⟩ ?_
   rintro⟨j,a,R,L,M⟩ P ⟨hj,zi,Q,d,b⟩;simp only at hj zi Q b⊢;have n:=Ext.refl P;by_cases zn:j<2∧a<0
   ·have zo:(j=0∧L=(V,W)∧M=h.ak)∨(j=1∧L=(V,W)∧M=h.ak∧iZ (cQ h 0) (cQ h 1) cpu o t f (V,W) h.ak none):=by
     cases zi with
     | start=>exact .inl ⟨Z,Z,Z⟩
     | KQ ha=>exact .inr ⟨Z,Z,Z,ha⟩
     | N1 ha=>have:=(B9 F).pos _ ha;omega
     | KR=>omega
     | N2=>omega
    have zV:=zn.1;have zW:=zn.2;rcases zo with⟨zw,rfl,rfl⟩|⟨zx,rfl,rfl,zy⟩
    focus
     have RS:Dc h cpu o t f V W j (V,W) h.ak:=by rw[zw];exact B9 F
     obtain⟨L,J⟩:=bq ((V,W));obtain⟨M,zd⟩:=bq h.ak;rw[J,zd]at Q RS;have zJ:(j:Int)≠1:=Y
    rotate_left
    focus
     have RS:Dc h cpu o t f V W j (bp (V,W) (aM h.ak)) []:=by rw[zx];exact IY F zy
     have K:b8≠k.g:=λe=>Q.zs.row.cB d Z (by rw[Q.zs.own,e]);have y:D≠k.g:=λe=>Q.zs.row.cB b Z (by rw[Q.zs.own,e]);refine Wz ?_;refine SW.cm Z Z (vr h V W F.d hs k.m k.cp R.li k.lv R.ls R.u0 R.u1 k.g k.c w _ Q.base Q.zs ⟨by rw[<-zh];exact Q.cx,by rw[<-zg];exact Q.live,Q.ls⟩) λv w6 hv=>?_;obtain⟨rfl,zK,hE,zp,u2,u3,zz⟩:=hv;have d:=hE.dm d K K;have b:=hE.dm b y y;have Q2:RQ w w6 k ⟨u2,u3,.nil,[]⟩ (bp (V,W) (aM h.ak)) []:=⟨zz,by rw[zh];exact zp.cx,by rw[zg];exact zp.live,dw.nil _ _,zK⟩;have n:=Ext.refl w6;skip;refine Wg b (bw (k.h ⟨u2,u3,.nil,[]⟩)) λw7 l E=>?_;have hG:=b.gr E;have Q:=Q2.own E I hG Z;have d:=d.grown E (by simpa using A);have b:ay w7 D 34 (bg (k.h ⟨u2,u3,.nil,[]⟩)):=l;have n:=Ext.refl w7;obtain⟨R,zA⟩:∃R:HP,(⟨u2,u3,.nil,[]⟩:HP)=R:=⟨_,Z⟩;rw[zA]at Q b;obtain⟨L,J⟩:=bq (bp (V,W) (aM h.ak));obtain⟨M,zd⟩:∃M:List aC,[]=M:=⟨_,Z⟩;rw[J,zd]at Q RS;have zJ:(j:Int)=1:=Y
    all_goals
     obtain⟨zq,J,ze,S,zB,T⟩:=RS;have K:b8≠k.g:=λe=>Q.zs.row.cB d Z (by rw[Q.zs.own,e]);have y:D≠k.g:=λe=>Q.zs.row.cB b Z (by rw[Q.zs.own,e]);by_cases zC:f % 2=0
     ·refine Wz ?_;refine SW.cm Z Z (uP k R L M _ _ cpu 1 o t f w _ Q zm zq J ze S ir hc.2 hf) λv w6 zf=>?_;obtain⟨q1,U,p2,rfl,Q2,N⟩:=zf;have d:=N.dm d K K;have b:=N.dm b y y;have n:=Ext.refl w6;refine Wz ?_;refine Wg b (bw (k.h p2)) λw7 l E=>?_;have hG:=b.gr E;have Q2:=Q2.own E I hG Z;have d:=d.grown E (by simpa using A);have b:=l;have n:=Ext.refl w7;cases q1 with
      | some r1=>
        have G:iZ (cQ h 0) (cQ h 1) cpu o t f L M (some r1):= .tf zC U;have hp:=zB _ G;have zr:M8 (some r1)=r1.2.2:=Z;simp only[zr];refine Wz ?_;all_goals try omega
        exact ah.again (j+1,M8 (some r1),p2,KI L (some r1),IQ M (some r1)) ⟨Z,Z,Z,Z,Z,Z,Z,Z,trivial⟩ dD ⟨by simp only;omega,T _ G,Q2,d,b⟩
      | none=>
        have zL:=U;simp only[KI,IQ]at Q2;have zr:M8 none= -1:=Z;simp only[zr];refine Wz ?_;refine SW.cm Z Z (uP k p2 L M _ _ cpu 0 o t f w _ Q2 zm zq J ze S ir hc.2 hf) λv w6 zf=>?_;obtain⟨q1,U,p3,rfl,Q3,N⟩:=zf;have d:=N.dm d K K;have b:=N.dm b y y;have n:=Ext.refl w6;refine Wz ?_;refine Wg b (bw (k.h p3)) λw7 l E=>?_;have hG:=b.gr E;have Q3:=Q3.own E I hG Z;have d:=d.grown E (by simpa using A);have b:=l;have n:=Ext.refl w7;have G:iZ (cQ h 0) (cQ h 1) cpu o t f L M q1:= .low (λ_=>zL) U;refine Wz ?_;exact ah.again (j+1,M8 q1,p3,KI L q1,IQ M q1) ⟨Z,Z,Z,Z,Z,Z,Z,Z,trivial⟩ dD ⟨by simp only;omega,T _ G,Q3,d,b⟩
     refine Wz ?_;refine SW.cm Z Z (uP k R L M _ _ cpu 0 o t f w _ Q zm zq J ze S ir hc.2 hf) λv w6 zf=>?_;obtain⟨q1,U,p2,rfl,Q2,N⟩:=zf;have d:=N.dm d K K;have b:=N.dm b y y;have n:=Ext.refl w6;refine Wz ?_;refine Wg b (bw (k.h p2)) λw7 l E=>?_;have hG:=b.gr E;have Q2:=Q2.own E I hG Z;have d:=d.grown E (by simpa using A);have b:=l;have n:=Ext.refl w7;have G:iZ (cQ h 0) (cQ h 1) cpu o t f L M q1:= .low (λe=>absurd e zC) U;refine Wz ?_;exact ah.again (j+1,M8 q1,p2,KI L q1,IQ M q1) ⟨Z,Z,Z,Z,Z,Z,Z,Z,trivial⟩ dD ⟨by simp only;omega,T _ G,Q2,d,b⟩
   have hD:=nZ.done hq hc zv F (by rw[za];exact zi) zn;rw[za]at hD;rcases hD with⟨ha,zs⟩|⟨ha,zM,zs⟩
   ·refine Wz ?_;all_goals try omega
    all_goals
     refine Wg d (bw .zero) λw5 H E=>?_;have n:=Q.base.own zu E;refine Wz ?_;exact ah.cb Z Z Z Z H Z ⟨_,Z,n,_,zs,jy.zero 6 _ _⟩
   have zN:=Q.live.len;rw[zg]at zN;have hV:=Q.live;rw[zg]at hV;have X:=Q.zs;have hM:=Q.cx;rw[zh]at hM;have hL:=Q.ls;have O:=Q.base;have zO:aP h.Live (JO h.Live a) ⟨a,o,t⟩=dc h a o t:=by unfold dc;rw[JP zM]
   rcases(show j<2∨¬j<2 by omega)with zP|zP
   all_goals
    refine Wz ?_;refine Wk (nT k.lv.A k.lv.n k.lv.c h.Live ⟨a,o,t⟩ _ hV.sl Y) λv w9 zc hv=>?_;obtain⟨B,c',rfl,hB⟩:=hv;have hB:=hB.low O.size;simp only[zO]at hB;have O:=O.trans zc;obtain⟨n,d,b,X,hM,hL⟩:=fi zc n d b X hM hL;refine Wz ?_;refine We (i:=4) b λzD g l=>?_;obtain⟨O,d,X,hM,hL,hB⟩:=fi g O d X hM hL hB;have n:=Ext.refl zD;have b:ay zD D 34 (bg ⟨⟨some ⟨k.g,0,none⟩,2,k.c⟩,k.m,k.cp,R.li,⟨B,k.lv.n+1,c'⟩⟩):=l;refine Wz ?_;refine Wh d (bw ⟨⟨some ⟨k.g,0,none⟩,2,k.c⟩,k.m,k.cp,R.li,⟨B,k.lv.n+1,c'⟩⟩) λzX g H=>?_;obtain⟨O,X,hM,hL,hB⟩:=dz g O X hM hL hB;refine Wz ?_;exact ah.cb Z Z Z Z H Z ⟨_,Z,O,_,zs,⟨⟨some ⟨k.g,0,none⟩,2,k.c⟩,k.m,k.cp,R.li,⟨B,k.lv.n+1,c'⟩⟩,Z,⟨zI,hM,hB,⟨[R.u0,R.u1],⟨X.row,dR.two X.z0 X.z1⟩⟩,⟨R.ls,hL⟩⟩⟩
  repeat'(first|refine Wz ?_|(refine CW.bo Z ?_)|((first|refine Wk (c1 _ n) ?_|refine Wk (c2 _) ?_|refine Wk (bE _ _ _ _) ?_);intro v w1 C hv;subst hv;obtain⟨n,x,d⟩:=aY C n x d))
  all_goals try omega
  refine Wh d (bw .zero) λw5 g H=>?_;have n:=jc g n;refine Wz ?_;exact ah.cb Z Z Z Z H Z ⟨_,Z,n,_,.form hq hc (by rw[za];omega),jy.zero 3 _ _⟩
 repeat'(first|refine Wz ?_|(refine CW.bo Z ?_)|refine SW.nR Z Z Z (λh=>?_) (λh=>?_)|((first|refine Wk (c1 _ n) ?_|refine Wk (bE _ _ _ _) ?_);intro v w1 C hv;subst hv;obtain⟨n,x,d⟩:=aY C n x d))
 all_goals try omega
 all_goals
  refine Wh d (bw .zero) λw5 g H=>?_;have n:=jc g n;refine Wz ?_;exact ah.cb Z Z Z Z H Z ⟨_,Z,n,_,.range hq hc,jy.zero 1 _ _⟩
end Go.Proofs.YtdlfabkacdgneaaGreatDoor
