/- Part 4 of what topWords_holds leans on. -/
import Derived.Test.YtohigmjjbgpfmaaGreatDoorPackTopWords3
import Derived.Maps.OwnSet
set_option linter.unusedVariables false
set_option linter.unusedSimpArgs false
set_option linter.defProp false
open Go.Proofs.Tryz
namespace Go.Proofs.YtohigmjjbgpfmaaGreatDoor
open Go.RowKit
def Oc (lo:Nat) (r:Option (List Int)) (v:Value) (w:World) : Prop:=match r with
 | none=>v = .tuple #[.slice none 0 0,.int .i64 8]
 | some out => ∃ A c,v = .tuple #[.slice A out.length c,.int .i64 0]∧Own w lo 3 1 bw A out.length c out∧out.length<=17592186044416
theorem Gx (n:Nat) : vS n []<=n:=ac2 (aeH _ _) (by simp)
theorem Gy (A:Option Addr) (n c:Nat) (l:List Int) (x most:Int) (w:World) (hl:Sl w 1 bw A n l) (hn:n*8<=140737488355328) :
 bI prog 154 [.slice A n c,.int .i64 x,.int .i64 most] w fun v w' => ∃ r,fO l most x [] r∧Oc w.heap.size r v w':=by
 refine aE func154 rfl ntmps154 rfl ?_;have hw:=Ext.refl w;have kb:n<=2305843009213693952:=by omega
 have hA:=hl.base;have mv:=hl.len;refine Wz ?_
 refine CW.loop (fun s:List Int×Int×Option Addr×Nat=>[(0,.slice A n c),(1,.int .i64 s.2.1),(2,.int .i64 most),(8,.slice s.2.2.1 s.1.length s.2.2.2)])
  (fun s w'=>s.1.length+vS n s.1<=n∧(∀ r,fO l most s.2.1 s.1 r->fO l most x [] r)∧Ext w w'∧Own w' w.heap.size 3 1 bw s.2.2.1 s.1.length s.2.2.2 s.1) (fun s=>vS n s.1) ([],x,none,0) ⟨rfl,rfl,rfl,rfl,trivial⟩
  ⟨by simpa using Gx n,fun _ h=>h,hw,Own.fv _ _ _ _ _ _⟩ ?_
 clear hw;rintro ⟨out,y,A1,c1⟩ w' ⟨hk,hF,hw,hO⟩
 simp only at hk hF hO ⊢;by_cases hy:y = -1
 ·refine Wz ?_;refine ae.dj rfl rfl rfl ⟨_,rfl,hw,some out,hF _ (by subst hy;exact .done _),A1,c1,rfl,hO,by omega⟩
 ·by_cases hm:most<=out.length
  ·refine Wz ?_;exact ae.dj rfl rfl rfl ⟨_,rfl,hw,none,hF _ (.bad hy (.inl hm)),rfl⟩
  ·by_cases hx : 0<=y∧y<n
   ·obtain ⟨k,rfl⟩:=ada hx.1;have gh:k<n:=by omega
    by_cases mS:(k:Int)∈out
    ·repeat' (first|refine Wz ?_|(refine Wk (qt _ _ _ _ _ _ kb) ?_;intro v w1 ai hv;subst hv;obtain ⟨hw,hO⟩:=cX ai hw hO;clear ai))
     refine Wk (g7 _ _ _ _ _ _ hO.sl (by omega)) fun v w1 ai hv => ?_
     rw [decide_eq_true mS] at hv;subst hv;have hw:=hw.trans ai;refine Wz ?_;exact ae.dj rfl rfl rfl ⟨_,rfl,hw,none,hF _ (.bad hy (.inr (.inr mS))),rfl⟩
    ·have hu:=Jk gh mS;repeat' (first|refine Wz ?_|(refine Wk (qt _ _ _ _ _ _ kb) ?_;intro v w1 ai hv;subst hv;obtain ⟨hw,hO⟩:=cX ai hw hO;clear ai))
     refine Wk (g7 _ _ _ _ _ _ hO.sl (by omega)) fun v w1 ai hv => ?_
     rw [decide_eq_false mS] at hv;subst hv;obtain ⟨hw,hO⟩:=cX ai hw hO;refine Wz ?_;refine SW.dR rfl rfl rfl rfl rfl fun b w1 ai hb hB => ?_
     obtain ⟨hw,hO⟩:=cX ai hw hO;refine SW.append hO (aS.vF (enc:=bw) hB) hw.size rfl rfl rfl (by omega) (by omega) fun A2 c2 w2 lm hg => ?_
     have hw:=aF hw hg (ac3 _) hO.ba;repeat' (first|refine Wz ?_|refine Wn hw (hl.one gh rfl) ?_)
     refine ae.again (out++[(k:Int)],l[k]'(hl.lt gh),A2,c2) ⟨rfl,rfl,rfl,by simp;rfl,trivial⟩ hu ⟨by simp only [List.length_append,List.length_singleton];omega,fun r h=>hF r (.step (by omega) (hl.lt gh) mS h),hw,by simpa using lm⟩
   ·repeat' (first|refine Wz ?_|(refine Wk (qt _ _ _ _ _ _ kb) ?_;intro v w1 ai hv;subst hv;obtain ⟨hw,hO⟩:=cX ai hw hO;clear ai))
    exact ae.dj rfl rfl rfl ⟨_,rfl,hw,none,hF _ (.bad hy (.inr (.inl (by omega)))),rfl⟩
variable {a a0 f o o0:Int} {l l0:List Block} {i:Nat} {z:ak}
def El (l:List Block) : Prop:=l.Pairwise mQ
theorem qB {y:Int} (h0 : 0<=o) (h4:o<4) (hm:y % pw o=0) : beside (beside y o) o=y∧(beside y o=y+pw o∨beside y o=y-pw o):=by
 unfold beside;have hp:=fB h0 (show o<=4 by omega);generalize pw o=q at *
 rcases hp with ⟨e,rfl⟩|⟨e,rfl⟩|⟨e,rfl⟩|⟨e,rfl⟩|⟨e,rfl⟩<;>(refine ⟨?_,?_⟩<;>split<;>(try split)<;>omega)
theorem Em (h:bU z) : El z.aj:=by
 have hu:=pD h;unfold El;rw [ac8];intro i j hi hj o9;by_cases e:j=i+1
 ·subst e;exact h.next i hj
 ·refine ⟨jF hu hj o9,fun hh => ?_⟩;obtain ⟨h1,h2,h3⟩:=hh;have g1:=jF hu (show i+1<z.aj.length by omega) (aeF i);have g2:=jF hu hj (show i+1<j by omega);have b1:=(h.eG (i+1) (by omega)).1;have b2:=(h.eG j hj).1;have p1:=cy b1.1 b1.2.1;have p2:=(qB b2.1 h1 b2.2.2.2.2).2;have p3:=cy b2.1 b2.2.1;rw [h2] at g1;omega
theorem Jl (h0 : 0<=o) (h4:o<4) (hm:a % pw o=0) (t1 t2 t3:Int) (i:Nat) : qi ⟨min a (beside a o),o+1,t1⟩ i=(qi ⟨a,o,t2⟩ i || qi ⟨beside a o,o,t3⟩ i):=by
 have h1:=(qB h0 h4 hm).2;have h2:=qv h0 (show o<=4 by omega);have h3:=cy h0 (show o<=4 by omega);rw [aeN];simp only [qi,Bool.and_eq_true,Bool.or_eq_true,decide_eq_true_eq];rw [h2];omega
theorem En (h:l.any (AJ a o)=true) (i:Nat) : ed l i=(ed (mn l a o) i || qi ⟨a,o,0⟩ i):=by
 rw [aeN];simp only [Bool.or_eq_true,ed,List.any_eq_true,mn,List.mem_filter];constructor
 ·rintro ⟨x,hx,hi⟩
  by_cases e:AJ a o x=true
  ·obtain ⟨e1,e2⟩:=jX.1 e;right;rw [<- hi,<- e1,<- e2];rfl
  ·left;exact ⟨x,⟨hx,by simp [e]⟩,hi⟩
 ·rintro (⟨x,⟨hx,_⟩,hi⟩|hi)
  ·exact ⟨x,hx,hi⟩
  ·obtain ⟨b,hb,hh⟩:=ade.1 h;obtain ⟨e1,e2⟩:=jX.1 hh;exact ⟨b,hb,by rw [<- hi,<- e1,<- e2];rfl⟩
structure Joined (f t:Int) (l:List Block) (a o:Int) (l':List Block) (a' o':Int) : Prop where
 ok:D5 f t l' a' o'
 nx:El l'
 Ic:∀ i,(ed l' i || qi ⟨a',o',0⟩ i)=(ed l i || qi ⟨a,o,0⟩ i)
 fin:o'<4->l'.any (AJ (beside a' o') o')=false
theorem uW {t:Int} (h0 : 0<=f) : ∀ (k:Nat) {l:List Block} {a o:Int},4-o<k->D5 f t l a o->El l->Joined f t l a o (iV k l a o).1 (iV k l a o).2.1 (iV k l a o).2.2
 | 0,l,a,o,hk,h,hn=>by have:=h.fit.2.1;omega
 | k+1,l,a,o,hk,h,hn=>by
   simp only [iV];split
   ·rename_i ho;split
    ·rename_i iC;have ih:=uW h0 k (by omega) (h.step h0 ho iC) (hn.sublist List.filter_sublist);refine ⟨ih.ok,ih.nx,fun i => ?_,ih.fin⟩;rw [ih.Ic i,Jl h.fit.1 ho h.fit.2.2.2.2 0 0 0,En iC i];rw [Bool.or_assoc,Bool.or_comm (qi _ i) (qi _ i)]
    ·rename_i iC;exact ⟨h,hn,fun _=>rfl,fun _=>by simpa using iC⟩
   ·rename_i ho;exact ⟨h,hn,fun _=>rfl,fun h=>absurd h ho⟩
theorem Od {t:Int} (h:Joined f t l0 a0 o0 l a o) (u:Int) : El (aM l (bE l a) ⟨a,o,u⟩):=by
 have hk:=h.ok;have hp:=cy hk.fit.1 hk.fit.2.1
 have Vz:∀ x∈l.take (bE l a),mQ x ⟨a,o,u⟩:=fun x hx=>by
  obtain ⟨j,hj,rfl⟩:=ac1 hx;simp only [List.length_take] at hj;rw [adH];have h1:=pE (l:=l) (a:=a) (k:=j) (by omega);have h2:=hk.NB _ (ac0 (show j<l.length by omega));refine ⟨by simp only;omega,fun hh => ?_⟩;obtain ⟨g1,g2,g3⟩:=hh;have:=h.fin g1
  rw [ado] at this;exact this _ (ac0 (show j<l.length by omega)) (jX.2 ⟨g3,g2⟩)
 have S9:∀ y∈l.drop (bE l a),mQ ⟨a,o,u⟩ y:=fun y hy=>by
  obtain ⟨j,hj,rfl⟩:=ac1 hy;simp only [List.length_drop] at hj;rw [adZ];have eQ:bE l a<l.length:=by omega
  have h1:=D7 eQ;have hm:=ac0 (show bE l a+j<l.length by omega);have h2:=hk.NB _ hm;have hb:=(hk.eG _ hm).1;have hpj:=cy hb.1 hb.2.1
  have h3:(l[bE l a]).At<=(l[bE l a+j]'(by omega)).At:=by
   rcases adj j with e|e
   ·subst e;simp
   ·have:=jF hk.rT (show bE l a+j<l.length by omega) (show bE l a<bE l a+j by omega)
    have C5:=(hk.eG _ (ac0 eQ)).1;have:=cy C5.1 C5.2.1
    omega
  refine ⟨by simp only;omega,fun hh => ?_⟩;obtain ⟨g1,g2,g3⟩:=hh;simp only at g2 g3;have e:=(qB hb.1 g1 hb.2.2.2.2).1;rw [<- g3,<- g2] at e;have:=h.fin (by omega)
  rw [ado] at this;exact this _ hm (jX.2 ⟨e.symm,g2.symm⟩)
 have fe:(l.take (bE l a)++l.drop (bE l a)).Pairwise mQ:=by rw [ac4];exact h.nx
 rw [adp] at fe;unfold El aM;rw [ac6,adp];refine ⟨fe.1,?_,fun x hx y hy => ?_⟩
 ·rw [adn,adY];exact ⟨S9,fe.2.1⟩
 ·rw [adn,ad4] at hy;rcases hy with rfl|hy
  ·exact Vz x hx
  ·exact fe.2.2 x hx y hy
theorem Jm (l:List Block) (i:Nat) (b:Block) (k:Nat) : ed (aM l i b) k=(ed l k || qi b k):=by
 have:ed l k=(ed (l.take i) k || ed (l.drop i) k):=by
  unfold ed;rw [<- List.any_append,ac4]
 rw [this];simp only [ed,aM,List.any_append,List.any_cons,List.any_nil,Bool.or_false];cases (l.take i).any fun b=>qi b k<;>cases qi b k<;>simp
theorem vT {b x:Block} (h:x∈aM l i b) : x=b∨x∈l:=by
 unfold aM at h;rw [ac9,ac9] at h;rcases h with (h|h)|h
 ·exact .inr (adu h)
 ·exact .inl (by simpa using h)
 ·exact .inr (adI h)
structure Kept (z z':ak) (a o:Int) : Prop where
 may:bU z'
 from_:z'.aU=z.aU
 o8:z'.To=z.To
 types:z'.Types=z.Types
 Ic:∀ i,ed z'.aj i=(ed z.aj i || qi ⟨a,o,0⟩ i)
theorem y9 (hz:bU z) (hf:j9 z.aU z.To a o) (ho:ka z.aj a o=false) : (fM z a o).1=0∧Kept z (fM z a o).2 a o:=by
 have h0 : 0<=z.aU:=hz.ok.1
 have hJ:=y4 (f:=0) (t:=0) hz hf ho;have hj:=uW h0 5 (by have:=hf.1;omega) hJ (Em hz);obtain ⟨⟨l,a',o'⟩,hq⟩ : ∃ u,iV 5 z.aj a o=u:=⟨_,rfl⟩;rw [hq] at hj;simp only at hj;obtain ⟨t,ht⟩ : ∃ t,z.Types.getD ((a'-z.aU) / 8).toNat 0=t:=⟨_,rfl⟩;rw [x8 (xV hz) hf ho hq ht]
 have VA:kH t:=by
  subst ht;rw [adM];cases e:z.Types[((a'-z.aU) / 8).toNat]? with
  | none=>exact ⟨by decide,by decide⟩
  | some v =>
    obtain ⟨h,rfl⟩:=ads.1 e;exact hz.types _ (ac0 h)
 have hn:=Od hj t;refine ⟨rfl,⟨hz.ok,hz.len,hz.types,fun i hi => ?_,fun i hi => ?_⟩,rfl,rfl,rfl,fun i => ?_⟩
 ·rcases vT (ac0 hi) with e|e
  ·simp only at e ⊢;rw [e];exact ⟨hj.ok.fit,VA⟩
  ·exact hj.ok.eG _ e
 ·unfold El at hn;rw [ac8] at hn;exact hn i (i+1) (by simp only at hi;omega) hi (aeF i)
 ·rw [Jm,<- hj.Ic i];rfl
variable {bs:List Block} {j k:Nat} {z0 z1:ak}
noncomputable def gp (s:ak×ak) (b:Block) : ak×ak:=if b.At<s.1.To then ((fM s.1 b.At b.Order).2,s.2) else (s.1,(fM s.2 b.At b.Order).2)
noncomputable def bV (s:ak×ak) (l:List Block) : ak×ak:=l.foldl gp s
theorem ni (s:ak×ak) (l:List Block) (k:Nat) (h:k<l.length) : bV s (l.take (k+1))=gp (bV s (l.take k)) l[k]:=by
 unfold bV;rw [ac5 h,aeZ];rfl
theorem nT (s:ak×ak) (l m:List Block) : bV s (l++m)=bV (bV s l) m:=aeZ
structure qC (s:ak×ak) (bs:List Block) : Prop where
 lN:bU s.1
 lq:bU s.2
 pK:s.1.aU=0
 DO:s.1.To=s.2.aU
 Jn:s.2.To=256
 Ic:∀ i,(ed s.1.aj i || ed s.2.aj i)=ed bs i
theorem iY (l m:List Block) (i:Nat) : ed (l++m) i=(ed l i || ed m i):=by simp [ed]
theorem k6 (h:bU z) : ∀ b∈z.aj,0<=b.At∧1<=pw b.Order:=fun b hb=>by
 obtain ⟨i,hi,rfl⟩:=ac1 hb;have h1:=(h.eG i hi).1;have h2:=h.ok.1;have:=cy h1.1 h1.2.1
 obtain ⟨_,_,h3,_,_⟩:=h1;omega
structure pL (bs:List Block) (b:Block) : Prop where
 ord : 0<=b.Order∧b.Order<=4
 at_ : 0<=b.At∧b.At<256
 al:b.At % pw b.Order=0
 fits:wT bs b
 C6:∀ x∈bs,0<=x.At∧1<=pw x.Order
theorem qC.free {s:ak×ak} (h:qC s bs) {b:Block} (hb:pL bs b) : ka s.1.aj b.At b.Order=false∧ka s.2.aj b.At b.Order=false:=by
 have hp:=cy hb.ord.1 hb.ord.2;have hm:=(sO hb.C6 hp.1).2 hb.fits;obtain ⟨m1,m2,m3,m4⟩:=hm
 have key:∀ l:List Block,(∀ x∈l,0<=x.At∧1<=pw x.Order)->(∀ i,ed l i=true->ed bs i=true)->ka l b.At b.Order=false:=fun l hl hc =>
  ((sO hl hp.1).1 ⟨m1,m2,m3,fun i h1 h2=>by
   cases e:ed l i with
   | false=>rfl
   | true=>have:=hc i e;rw [m4 i h1 h2] at this;cases this⟩).2.2
 exact ⟨key _ (k6 h.lN) fun i hi=>by rw [<- h.Ic i,hi];rfl,key _ (k6 h.lq) fun i hi=>by rw [<- h.Ic i,hi];simp⟩
theorem qC.low {s:ak×ak} (h:qC s bs) {b:Block} (hb:pL bs b) (hl:b.At<s.1.To) : j9 s.1.aU s.1.To b.At b.Order:=⟨hb.ord.1,hb.ord.2,by rw [h.pK];exact hb.at_.1,hl,hb.al⟩
theorem qC.vU {s:ak×ak} (h:qC s bs) {b:Block} (hb:pL bs b) (hl : ¬ b.At<s.1.To) : j9 s.2.aU s.2.To b.At b.Order:=⟨hb.ord.1,hb.ord.2,by rw [<- h.DO];omega,by rw [h.Jn];exact hb.at_.2,hb.al⟩
theorem za (b:Block) (i:Nat) : ed [b] i=qi b i:=by simp [ed]
theorem qC.back {s:ak×ak} (h:qC s bs) {b:Block} (hb:pL bs b) : qC (gp s b) (bs++[b])∧(gp s b).1.To=s.1.To:=by
 obtain ⟨o0,o1⟩:=h.free hb;unfold gp;by_cases hl:b.At<s.1.To
 ·rw [if_pos hl];obtain ⟨_,k⟩:=y9 h.lN (h.low hb hl) o0;refine ⟨⟨k.may,h.lq,by rw [<- h.pK];exact k.from_,by rw [<- h.DO];exact k.o8,h.Jn,fun i => ?_⟩,k.o8⟩;rw [iY,za,<- h.Ic i];simp only;rw [k.Ic i];have:qi ⟨b.At,b.Order,0⟩ i=qi b i:=rfl
  rw [this];cases ed s.1.aj i<;>cases ed s.2.aj i<;>cases qi b i<;>rfl
 ·rw [if_neg hl];obtain ⟨_,k⟩:=y9 h.lq (h.vU hb hl) o1;refine ⟨⟨h.lN,k.may,h.pK,by simp only;rw [k.from_];exact h.DO,by simp only;rw [k.o8];exact h.Jn,fun i => ?_⟩,rfl⟩;rw [iY,za,<- h.Ic i];simp only;rw [k.Ic i];have:qi ⟨b.At,b.Order,0⟩ i=qi b i:=rfl
  rw [this,Bool.or_assoc]
theorem oM:∀ {l s t:List Block},bB (some s) l=some t->t=s++l
 | [],s,t,h=>by simp [bB] at h;simp [h]
 | b::l,s,t,h=>by
   have e:bB (some s) (b::l)=bB (lM (some s) b) l:=rfl
   rw [e] at h;cases e2:lM (some s) b with
   | none=>rw [e2,iW] at h;cases h
   | some u =>
     rw [e2] at h;obtain ⟨cs,lJ,_,rfl⟩:=pH e2;cases lJ
     rw [oM h];simp
theorem qD {m:List Block} {b:Block} (h:(bB (some []) (l++b::m)).isSome=true) : wT l b:=by
 have h1:(bB (some []) (l++[b])).isSome=true:=jQ (m:=m) (by simpa using h)
 rw [dv] at h1;cases e:bB (some []) l with
 | none=>rw [e,iW] at h1;cases h1
 | some t =>
   have:=oM e
   rw [adV] at this;subst this;rw [e] at h1;cases e2:bB (some t) [b] with
   | none=>rw [e2] at h1;cases h1
   | some u =>
     have:lM (some t) b=some u:=e2
     obtain ⟨cs,lJ,hf,_⟩:=pH this;cases lJ
     exact hf
theorem Eo (h:(bB (some []) l).isSome=true) (hb:∀ b∈l,1<=pw b.Order) : ∀ x∈l,0<=x.At∧1<=pw x.Order:=by
 have hg:=kY (l:=l) Bt hb;obtain ⟨t,ht⟩:=adw.1 h;have e:=oM ht;rw [adV] at e;subst e;exact hg _ ht
structure nU (h:Heap) (z0 z1:ak) : Prop where
 cr:h.bp=[z0,z1]
 lN:bU z0
 lq:bU z1
 pK:z0.aU=0
 DO:z0.To=z1.aU
 Jn:z1.To=256
 all:(bB (some []) (z0.aj++z1.aj++a9 h.av)).isSome=true
theorem Ep {h:Heap} (hm:bJ h) : ∃ z0 z1,nU h z0 z1:=by
 obtain ⟨z0,z1,h1,h2,h3,h4,h5,h6,_,h8⟩:=hm.cr;exact ⟨z0,z1,h1,h2,h3,h4,h5,h6,jQ h8⟩
theorem zb {l:List aR}:∀ b∈a9 l,b.Order=0:=fun b hb=>by
 unfold a9 at hb;obtain ⟨x,_,hx⟩:=adm.1 hb;obtain ⟨p,_,rfl⟩:=adk.1 hx
 rfl
theorem nU.start {h:Heap} (d:nU h z0 z1) : qC (z0,z1) (z0.aj++z1.aj):=⟨d.lN,d.lq,d.pK,d.DO,d.Jn,fun i=>by rw [iY]⟩
theorem nU.pw {h:Heap} (d:nU h z0 z1) : ∀ b∈z0.aj++z1.aj++a9 h.av,1<=pw b.Order:=fun b hb=>by
 rcases ac9.1 hb with hb|hb
 ·rcases ac9.1 hb with hb|hb
  ·exact (k6 d.lN b hb).2
  ·exact (k6 d.lq b hb).2
 ·rw [zb b hb,jh];omega
theorem nU.next {h:Heap} (d:nU h z0 z1) (hk:k<(a9 h.av).length) : pL (z0.aj++z1.aj++(a9 h.av).take k) (a9 h.av)[k]:=by
 have fe:=d.all;have e:z0.aj++z1.aj++a9 h.av=(z0.aj++z1.aj++(a9 h.av).take k)++(a9 h.av)[k]::(a9 h.av).drop (k+1):=by simp
 rw [e] at fe;have hf:=qD fe;have ho:=zb _ (ac0 hk)
 have hg:=Eo (jQ fe) (fun b hb=>d.pw b (by
  rcases ac9.1 hb with hb|hb
  ·exact adC _ hb
  ·exact aev _ (adu hb)))
 have hp:=jh;refine ⟨by rw [ho];decide,⟨hf.1,?_⟩,by rw [ho,hp];omega,hf,hg⟩;have:=hf.2.1
 rw [ho,hp] at this;omega
theorem nU.inv {h:Heap} (d:nU h z0 z1) : ∀ k,k<=(a9 h.av).length->qC (bV (z0,z1) ((a9 h.av).take k)) (z0.aj++z1.aj++(a9 h.av).take k)
 | 0,_=>by simpa [bV] using d.start
 | k+1,hk=>by
   have ih:=(d.inv k (by omega)).back (d.next (show k<_ by omega));rw [ni _ _ _ (by omega),ac5 (by omega),<- ac6];exact ih.1
def ki (l:List aR) (i:Nat) : Nat:=(a9 (l.take i)).length
theorem zd {l:List aR} (hi:i<l.length) : ki l (i+1)=ki l i+l[i].ax.length:=by
 unfold ki;rw [rX _ _ hi];simp
theorem Gz (l:List aR) (i:Nat) : a9 l=a9 (l.take i)++a9 (l.drop i):=by
 unfold a9;rw [<- adi,ac4]
theorem ya {l:List aR} (hi:i<l.length) (hj:j<l[i].ax.length) : ∃ h:ki l i+j<(a9 l).length,(a9 l)[ki l i+j]=ct (l[i].ax[j]):=by
 have e:=Gz l i;have e2:l.drop i=l[i]::l.drop (i+1):=by simp
 have e3:a9 (l.drop i)=l[i].ax.map ct++a9 (l.drop (i+1)):=by rw [e2];rfl
 have eQ:ki l i+j<(a9 l).length:=by rw [e,e3];simp [ki];omega
 refine ⟨eQ,?_⟩
 have:(a9 l)[ki l i+j]?=some (ct (l[i].ax[j])):=by
  rw [e,adL (by unfold ki;omega)];have:ki l i+j-(a9 (l.take i)).length=j:=by unfold ki;omega
  rw [this,e3,adF (by simpa using hj)];simp [hj]
 rw [ac7 eQ] at this;exact Option.some.inj this
theorem C7 (l:List aR) : ki l l.length=(a9 l).length:=by simp [ki]
noncomputable def oN (h:Heap) (z0 z1:ak) : Heap:=⟨[(bV (z0,z1) (a9 h.av)).1,(bV (z0,z1) (a9 h.av)).2],h.dK,h.bG,[],h.Live⟩
variable {α:Type} {L:List aR}
def iZ (a b:aR) : Prop:=a.fV=b.fV∧a.ak=b.ak∧a.Ty=b.Ty
instance (a b:aR) : Decidable (iZ a b):=inferInstanceAs (Decidable (_∧_))
def Er (L:List aR) : Prop:=L.Pairwise da
theorem wW {a b c:aR} (h1:da a b) (h2:da b c) : da a c:=by unfold da at *;omega
theorem BB (a b:aR) : da a b∨iZ a b∨da b a:=by unfold da iZ;omega
theorem Jo {a b:aR} (h:da a b) : ¬ iZ a b ∧ ¬ iZ b a ∧ ¬ da b a:=by unfold da iZ at *;omega
theorem C8 {c t:Int} (h:nf c t L) : Er L:=by
 have key:∀ (d i:Nat) (hj:i+d+1<L.length),da (L[i]'(by omega)) L[i+d+1]:=by
  intro d;induction d with
  | zero=>intro i hj;exact h.next i hj
  | succ d ih=>intro i hj;exact wW (ih i (by omega)) (h.next (i+d+1) (by omega))
 unfold Er;rw [ac8];intro i j hi hj o9;have:=key (j-i-1) i (by omega)
 have e:i+(j-i-1)+1=j:=by omega
 simp only [e] at this;exact this
theorem Er.get (h:Er L) (hj:j<L.length) (o9:i<j) : da (L[i]'(Nat.lt_trans o9 hj)) L[j]:=by
 unfold Er at h;rw [ac8] at h;exact h i j (by omega) hj o9
def bu (L:List aR) (x:aR) : Nat:=L.findIdx fun l => !decide (da l x)
theorem nj (L:List aR) (x:aR) : bu L x<=L.length:=List.findIdx_le_length
theorem ze {x:aR} (hk:k<bu L x) : da (L[k]'(adX hk (nj L x))) x:=by
 have:=List.not_of_lt_findIdx hk
 simpa using this
theorem Oe {x:aR} (h:bu L x<L.length) : ¬ da (L[bu L x]) x:=by
 have:=List.findIdx_getElem (w:=h)
 exact of_decide_eq_false (by rw [ae1] at this;exact this)
theorem vV {x:aR} (hi:i<=L.length) (h1:∀ (k:Nat) (h:k<L.length),k<i->da L[k] x) (h2:∀ h:i<L.length,¬ da L[i] x) : bu L x=i:=by
 unfold bu;by_cases h:i<L.length
 ·exact (List.findIdx_eq h).2 ⟨by simpa using h2 h,fun j hj=>by simpa using h1 j (by omega) hj⟩
 ·have e:i=L.length:=by omega
  subst e;rw [List.findIdx_eq_length];intro y hy;obtain ⟨k,hk,rfl⟩:=ac1 hy;simpa using h1 k hk hk
def dx (L:List aR) (x:aR) : Bool:=if h:bu L x<L.length then decide (iZ L[bu L x] x) else false
theorem jY {x:aR} (h:dx L x=true) : ∃ hk:bu L x<L.length,iZ L[bu L x] x:=by
 unfold dx at h;split at h
 ·rename_i hk;exact ⟨hk,of_decide_eq_true h⟩
 ·cases h
theorem Og {x:aR} (h:dx L x=false) (hk:bu L x<L.length) : da x L[bu L x]:=by
 unfold dx at h;rw [dif_pos hk] at h;have h1:=of_decide_eq_false h;have h2:=Oe hk;rcases BB L[bu L x] x with e|e|e
 ·exact absurd e h2
 ·exact absurd e h1
 ·exact e
theorem ku {x y:aR} (h:iZ x y) : bu L x=bu L y∧dx L x=dx L y:=by
 have e:(fun l => !decide (da l x))=(fun l:aR => !decide (da l y)):=by
  funext l
  have:da l x↔da l y:=by unfold da iZ at *;omega
  simp [this]
 have e1:bu L x=bu L y:=by unfold bu;rw [e]
 refine ⟨e1,?_⟩;unfold dx;simp only [e1];split
 ·have:iZ L[bu L y] x↔iZ L[bu L y] y:=by unfold iZ at *;omega
  simp [this]
 ·rfl
def iU (L:List aR) (x:aR) : List aR:=if dx L x then L.set (bu L x) x else aM L (bu L x) x
theorem r5 {x:aR} (h:dx L x=true) : iU L x=L.set (bu L x) x:=by rw [iU,if_pos h]
theorem r6 {x:aR} (h:dx L x=false) : iU L x=aM L (bu L x) x:=by rw [iU,if_neg (by simp [h])]
def dc (L:List aR) (x:aR) : List Int:=if dx L x then (L.getD (bu L x) x).ax else []
theorem iK {x:aR} (h:dx L x=true) (hk:bu L x<L.length) : dc L x=L[bu L x].ax:=by
 rw [dc,if_pos h,adM,ac7 hk];rfl
theorem nG {x:aR} (h:dx L x=false) : dc L x=[]:=by rw [dc,if_neg (by simp [h])]
theorem de (l:List α) (h:i<=l.length) (x : α) : (aM l i x).length=l.length+1:=by simp [aM];omega
theorem uX {l:List α} (h:i<=l.length) {x : α} (hk:k<i) : (aM l i x)[k]?=l[k]?:=by
 unfold aM;rw [ac6,adF (by simp;omega),aeA hk]
theorem lu {l:List α} (h:i<=l.length) {x : α}:(aM l i x)[i]?=some x:=by
 unfold aM;rw [ac6,adL (by simp;omega)];have:i-(l.take i).length=0:=by simp;omega
 rw [this];rfl
theorem zf {l:List α} (h:i<=l.length) {x : α} (hk:i<=k) : (aM l i x)[k+1]?=l[k]?:=by
 unfold aM;rw [ac6,adL (by simp;omega)];have:k+1-(l.take i).length=(k-i)+1:=by simp;omega
 rw [this,adn,List.getElem?_cons_succ,aez];congr 1
 omega
theorem vW {l:List α} (h:i<=l.length) (x y : α) : (aM l i x).set i y=aM l i y:=by
 unfold aM;rw [ac6,ac6,ad2 _ _ (by simp;omega)];have:i-(l.take i).length=0:=by simp;omega
 rw [this];rfl
theorem zg {x:aR}:(iU L x)[bu L x]?=some x:=by
 cases h:dx L x
 ·rw [r6 h];exact lu (nj L x)
 ·obtain ⟨hk,_⟩:=jY h;rw [r5 h,ad5 hk]
theorem Es {x:aR}:bu (iU L x) x=bu L x∧dx (iU L x) x=true:=by
 have hg:=zg (L:=L) (x:=x);obtain ⟨hk,hx⟩:=ads.1 hg
 have e:bu (iU L x) x=bu L x:=by
  refine vV (by omega) (fun j hj mO => ?_) (fun _ => ?_)
  ·have h0:=ze (L:=L) (x:=x) mO
   have e1:(iU L x)[j]?=L[j]?:=by
    cases h:dx L x
    ·rw [r6 h];exact uX (nj L x) mO
    ·rw [r5 h,ad7 (by omega)]
   rw [ac7 hj,ac7 (adX mO (nj L x))] at e1;injection e1 with e1
   rw [e1];exact h0
  ·rw [hx];unfold da;omega
 refine ⟨e,?_⟩;unfold dx;simp only [e,dif_pos hk,hx];exact decide_eq_true ⟨rfl,rfl,rfl⟩
theorem Et {x y:aR} (h:iZ x y) : (iU L x).set (bu L x) y=iU L y:=by
 obtain ⟨e1,e2⟩:=ku (L:=L) h;cases hh:dx L x
 ·rw [r6 hh,r6 (by rw [<- e2];exact hh),vW (nj L x),e1]
 ·rw [r5 hh,r5 (by rw [<- e2];exact hh),aeu,e1]
variable {N b:Nat} {w w':World} {r0 r1:dZ}
def Marks (w:World) (b N:Nat) : Option (List Block)->Prop
 | some bs=>aS w b 191 (iJ (ed bs) N false)
 | none => ∃ p,aS w b 191 (iJ p N true)
theorem Marks.ext {s:Option (List Block)} (h:Marks w b N s) (hx:Ext w w') : Marks w' b N s:=by
 cases s with
 | none=>obtain ⟨p,h⟩:=h;exact ⟨p,aS.ext h hx⟩
 | some bs=>exact aS.ext h hx
theorem Marks.bad {s:Option (List Block)} (h:Marks w b N s) (hN:N=256) : w.cell? ((⟨b,0,none⟩ : Addr).add 256)=some (.bool s.isNone):=by
 subst hN;cases s with
 | none=>obtain ⟨p,h⟩:=h;exact aS.cell h (y6 _ _ _)
 | some bs=>exact aS.cell h (y6 _ _ _)
theorem Marks.gr {s:Option (List Block)} (h:Marks w b N s) (hg:w.grownBy w' (some b)) : rF w w' 191:=by
 cases s with
 | none=>obtain ⟨p,h⟩:=h;exact aS.gr h hg
 | some bs=>exact aS.gr h hg
theorem vX (b:Nat) (s:Option (List Block)) (x:Block) (N:Nat) (hN:N=256) (w:World) (hM:Marks w b N s) (hs:rW s) (hp : 1<=pw x.Order∧pw x.Order<=16) :
 iI prog 107 [.pointer (some ⟨b,0,none⟩),.int .i64 x.At,.int .i64 (pw x.Order)] w fun v w'=>Marks w' b N (lM s x)∧w.grownBy w' (some b):=by
 cases s with
 | none =>
   obtain ⟨p,hB⟩:=hM;refine ⟨Calls.mono (Ec b p true N hN x.At (pw x.Order) w hB ⟨by omega,hp.2⟩).out ?_⟩;rintro e w' ⟨v,he,p',Ja,vI,hg,h⟩
   refine ⟨v,he,?_,hg⟩;have:Ja=true:=by rcases h with ⟨_,h,_⟩|⟨_,h⟩<;>exact h
   subst this;exact ⟨p',vI⟩
 | some bs =>
   refine ⟨Calls.mono (Ec b (ed bs) false N hN x.At (pw x.Order) w hM ⟨by omega,hp.2⟩).out ?_⟩;rintro e w' ⟨v,he,p',Ja,vI,hg,h⟩
   refine ⟨v,he,?_,hg⟩;have Ln:=sO (hs bs rfl) (b:=x) hp.1;rcases h with ⟨h1,rfl,rfl⟩|⟨h1,rfl⟩
   ·have:lM (some bs) x=some (bs++[x]):=by simp [lM,Ln.1 h1]
    rw [this];show aS w' b _ _
    rw [<- qy (fun i _=>Lo bs x i)];exact vI
   ·have:lM (some bs) x=none:=by
     simp only [lM];rw [if_neg (fun hf=>h1 (Ln.2 hf))]
    rw [this];exact ⟨p',vI⟩
theorem vY (r s:du) (a b:aR) (w:World) (ha:r.fV=a.fV∧r.ak=a.ak∧r.Ty=a.Ty) (hb:s.fV=b.fV∧s.ak=b.ak∧s.Ty=b.Ty) :
 bI prog 144 [.agg (ck r).toArray,.agg (ck s).toArray] w fun v _=>v = .bool (decide (da a b)):=by
 refine aE func144 rfl ntmps144 rfl ?_;refine CW.seq (CW.region (SW.box rfl rfl fun b2 w1 hw fk au => ?_));refine SW.box rfl rfl fun b3 w2 bt cg ap => ?_
 (obtain ⟨hw,au⟩:=cX bt hw au);obtain ⟨a1,a2,a3⟩:=ha;obtain ⟨b1,Zw,Zx⟩:=hb;have key:da a b↔(r.fV<s.fV∨(r.fV=s.fV∧(r.ak<s.ak∨(r.ak=s.ak∧r.Ty<s.Ty)))):=by unfold da;rw [a1,a2,a3,b1,Zw,Zx]
 by_cases h1:r.fV<s.fV
 ·rw [decide_eq_true (key.2 (by omega))];refine Wz ?_;all_goals first|(exfalso;omega)|exact ae.bj rfl rfl ⟨_,rfl,hw,by simp [h1]⟩
 ·by_cases h2:r.fV=s.fV
  ·by_cases h3:r.ak<s.ak
   ·rw [decide_eq_true (key.2 (by omega))];refine Wz ?_;all_goals first|(exfalso;omega)|exact ae.bj rfl rfl ⟨_,rfl,hw,by simp [h3]⟩
   ·by_cases h4:r.ak=s.ak
    ·by_cases h5:r.Ty<s.Ty
     ·rw [decide_eq_true (key.2 (by omega))];refine Wz ?_;all_goals first|(exfalso;omega)|exact ae.bj rfl rfl ⟨_,rfl,hw,by simp [h5]⟩
     ·rw [decide_eq_false (fun h=>by have:=key.1 h;omega)];refine Wz ?_;all_goals first|(exfalso;omega)|exact ae.bj rfl rfl ⟨_,rfl,hw,by simp [h5]⟩
    ·rw [decide_eq_false (fun h=>by have:=key.1 h;omega)];refine Wz ?_;all_goals first|(exfalso;omega)|exact ae.bj rfl rfl ⟨_,rfl,hw,by simp [h3]⟩
  ·rw [decide_eq_false (fun h=>by have:=key.1 h;omega)];refine Wz ?_;all_goals first|(exfalso;omega)|exact ae.bj rfl rfl ⟨_,rfl,hw,by simp [h1]⟩
structure A9 (w:World) (r:ju) (h:Heap) (r0 r1:dZ) (z0 z1:ak) : Prop where
 rd:HY w r h
 eq:h.bp=[z0,z1]
 n:r.bp.n=2
 row:Sl w 4 dp r.bp.A r.bp.n [r0,r1]
 z0:F6 w r0 z0
 z1:F6 w r1 z1
theorem A9.ext {r:ju} {h:Heap} (a:A9 w r h r0 r1 z0 z1) (hx:Ext w w') : A9 w' r h r0 r1 z0 z1 :=
 ⟨a.rd.ext hx,a.eq,a.n,a.row.ext hx,a.z0.ext hx,a.z1.ext hx⟩
theorem A9.c0 {r:ju} {h:Heap} (a:A9 w r h r0 r1 z0 z1) (j:Nat) (u:Value) (hu:(dp r0)[j]?=some u) : w.cell? (((r.bp.A.getD default).add (0*4)).add j)=some u:=a.row.cell 0 (by simp) j u hu
theorem A9.c1 {r:ju} {h:Heap} (a:A9 w r h r0 r1 z0 z1) (j:Nat) (u:Value) (hu:(dp r1)[j]?=some u) : w.cell? (((r.bp.A.getD default).add (1*4)).add j)=some u:=a.row.cell 1 (by simp) j u hu
theorem zh {l:List α} (h:l.length=2) : ∃ a b,l=[a,b]:=by
 match l,h with
 | [a,b],_=>exact ⟨a,b,rfl⟩
theorem HY.two {r:ju} {h:Heap} (a:HY w r h) (hl:h.bp.length=2) : ∃ r0 r1 z0 z1,A9 w r h r0 r1 z0 z1:=by
 obtain ⟨zs,hz⟩:=a.cr;obtain ⟨z0,z1,e1⟩:=zh hl;have l0:=hz.each.len;obtain ⟨r0,r1,e2⟩:=zh (show zs.length=2 by omega);subst e2;have l1:=hz.row.len;have h0:=hz.each.get 0 (by simp) (by omega);have h1:=hz.each.get 1 (by simp) (by omega);simp only [e1] at h0 h1;exact ⟨r0,r1,z0,z1,a,e1,by simpa using l1.symm,hz.row,h0,h1⟩
theorem Jp (r:ju) (h:Heap) (r0 r1:dZ) (z0 z1:ak) (x:Int) (w:World) (hr:A9 w r h r0 r1 z0 z1) :
 bI prog 96 [.agg (dC r).toArray,.int .i64 x] w fun v _=>v = .int .i64 (if x<z0.To then 0 else 1):=by
 refine aE func96 rfl ntmps96 rfl ?_;refine CW.seq (CW.region (SW.box rfl rfl fun b2 w1 hw fk au => ?_));have hn:=hr.n;have hA:=hr.row.base;have e1:=hr.z0.o8;by_cases hx:x<z0.To
 ·rw [if_pos hx];repeat' (first|refine Wz ?_|refine SW.st (cm (0) rfl rfl (by assumption) (by omega) (by omega)) rfl ?_|refine Wn hw (hr.c0 1 _ rfl) ?_)
  exact ae.bj rfl rfl ⟨_,rfl,hw,rfl⟩
 ·rw [if_neg hx];repeat' (first|refine Wz ?_|refine SW.st (cm (0) rfl rfl (by assumption) (by omega) (by omega)) rfl ?_|refine Wn hw (hr.c0 1 _ rfl) ?_)
  exact ae.bj rfl rfl ⟨_,rfl,hw,rfl⟩
variable {cpus:Int} {w1 w2:World}
structure GB (w w':World) (b:Nat) : Prop where
 g:w.grownBy w' (some b)
theorem GB.refl (w:World) (b:Nat) : GB w w b:=⟨World.grownBy.refl _ _⟩
theorem GB.ext (h:GB w w1 b) (hx:Ext w1 w2) : GB w w2 b:=⟨bQ h.g (hx.gr (some b)) (.inl rfl)⟩
theorem GB.step (h:GB w w1 b) (hg:w1.grownBy w2 (some b)) : GB w w2 b:=⟨bQ h.g hg (.inl rfl)⟩
theorem Jq (b:Nat) (s:Option (List Block)) (p:Int) (N:Nat) (hN:N=256) (w:World) (hM:Marks w b N s) (hs:rW s) :
 iI prog 107 [.pointer (some ⟨b,0,none⟩),.int .i64 p,.int .i64 1] w fun v w'=>Marks w' b N (lM s (ct p))∧w.grownBy w' (some b):=by
 have h:=vX b s (ct p) N hN w hM hs (by simp [ct,jh]);simp only [ct,jh] at h ⊢;exact h
def LF (w wE:World) (b N:Nat) (s:Option (List Block)) (h:Heap) (to:Int) (v:Value) (w':World) : Prop :=
 Ext w w'∧wE.grownBy w' (some b)∧((v = .bool true∧nf h.bG to h.av∧Marks w' b N (bB s (a9 h.av)))∨(v = .bool false ∧ ¬ (nf h.bG to h.av∧(bB s (a9 h.av)).isSome=true)))
structure Eu (cpus to:Int) (ls:List aR) (k:Nat) : Prop where
 head:∀ (i:Nat) (h:i<ls.length),i<k->lj cpus ls[i]
 next:∀ (i:Nat) (h:i+1<ls.length),i+1<k->da ls[i] ls[i+1]
 kh:∀ (i:Nat) (h:i<ls.length),i<k -> ∀ p∈(ls[i]).ax,(p<to↔(ls[i]).ak=0)
theorem Eu.nil (cpus to:Int) (ls:List aR) : Eu cpus to ls 0:=⟨fun i _ h=>by omega,fun i _ h=>by omega,fun i _ h=>by omega⟩
theorem Eu.all {to:Int} {ls:List aR} (h:Eu cpus to ls k) (hk:ls.length<=k) : nf cpus to ls:=⟨fun i hi=>h.head i hi (by omega),fun i hi=>h.next i hi (by omega),fun i hi=>h.kh i hi (by omega)⟩
theorem Eu.snoc {to:Int} {ls:List aR} (h:Eu cpus to ls k) (hk:k<ls.length) (h1:lj cpus ls[k]) (h2:∀ (h : 0<k),da ls[k-1] ls[k]) (h3:∀ p∈(ls[k]).ax,(p<to↔(ls[k]).ak=0)) : Eu cpus to ls (k+1):=by
 refine ⟨fun i hi D0 => ?_,fun i hi D0 => ?_,fun i hi D0 => ?_⟩
 ·by_cases e:i=k
  ·subst e;exact h1
  ·exact h.head i hi (by omega)
 ·by_cases e:i+1=k
  ·subst e;exact h2 (by omega)
  ·exact h.next i hi (by omega)
 ·by_cases e:i=k
  ·subst e;exact h3
  ·exact h.kh i hi (by omega)
theorem Ev {s:Option (List Block)} {ls:List aR} (hk:k<ls.length) (hj:j<=(ls[k]).ax.length) (h:bB (bB s (a9 (ls.take k))) (((ls[k]).ax.take j).map ct)=none) : bB s (a9 ls)=none:=by
 rw [<- dv] at h
 have e:a9 ls=(a9 (ls.take k)++((ls[k]).ax.take j).map ct)++(((ls[k]).ax.drop j).map ct++a9 (ls.drop (k+1))):=by
  have e1:ls=ls.take (k+1)++ls.drop (k+1):=by simp
  have e2:((ls[k]).ax.take j).map ct++((ls[k]).ax.drop j).map ct=(ls[k]).ax.map ct:=by rw [<- adr,ac4]
  have e3:a9 ls=a9 (ls.take (k+1))++a9 (ls.drop (k+1)):=by unfold a9;rw [<- adi,<- e1]
  rw [e3,rX _ _ hk,<- e2];simp only [List.append_assoc]
 rw [e,dv,h,iW]
set_option maxHeartbeats 8000000 in
theorem Jr (r:ju) (h:Heap) (r0 r1:dZ) (z0 z1:ak) (b N:Nat) (hN:N=256) (s:Option (List Block)) (w wE:World) (hw:Ext w wE) (DK:w.heap.size<=b) (hr:A9 w r h r0 r1 z0 z1) (hM:Marks wE b N s) (QJ:rW s) (rH:r.av.n<=1000000000000000000) :
 iI prog 108 [.agg (dC r).toArray,.pointer (some ⟨b,0,none⟩)] wE (LF w wE b N s h z0.To):=by
 refine dh func108 rfl ntmps108 rfl ?_;have hE:=GB.refl wE b;refine CW.seq (CW.region (SW.box rfl rfl fun b2 w2 bt fk au => ?_));(obtain ⟨hw,hM,hE⟩:=cj bt hw hM hE);obtain ⟨ls,hl⟩:=hr.rd.lists;have qj:=hr.rd.cpus;obtain ⟨AV,VB⟩:=hl.len;have hA:=hl.row.base;refine Wz ?_
 refine CW.loop (fun k:Nat=>[(1,.pointer (some ⟨b,0,none⟩)),(2,.pointer (some ⟨b2,0,none⟩)),(10,.slice r.av.A r.av.n r.av.c),(11,.int .i64 (r.av.n:Int)),(12,.int .i64 (k:Int))])
  (fun k w'=>k<=r.av.n∧Ext w w'∧GB wE w' b∧aS w' b2 41 (dC r)∧Marks w' b N (bB s (a9 (h.av.take k)))∧Eu h.bG z0.To h.av k) (fun k=>r.av.n-k) 0
  ⟨rfl,rfl,rfl,rfl,rfl,trivial⟩ ⟨by omega,hw,hE,au,hM,.nil _ _ _⟩ ?_
 clear hw hE au hM bt;rintro k w' ⟨hk,hw,hE,au,hM,hP⟩
 by_cases gh:k<r.av.n
 ·have iw:k<ls.length:=by omega
  have Oh:k<h.av.length:=by omega
  have Oi:=hl.each.get k iw Oh;have Zy:=Oi.cpu;have Zz:=Oi.kh;have eQ:=Oi.ty;have hln:=Oi.bC.len;have hAp:=Oi.bC.base;have vZ:=Oi.bC;have gg:=hl.row.all gh;have kv:=hl.row.all (i:=k-1) (show k-1<r.av.n by omega)
  have ZA:rW (bB s (a9 (h.av.take k))):=kY QJ fun x hx=>by
   unfold a9 at hx;obtain ⟨y,_,hy⟩:=adm.1 hx;obtain ⟨p,_,rfl⟩:=adk.1 hy;simp [ct,jh]
  repeat' (first|refine Wz ?_|refine Wo hw ((gg)) ?_)
  refine SW.alloc rfl fun b6 w1 ai dt aq => ?_
  refine Wz ?_;refine SW.ag aq rfl rfl rfl rfl (im.one (enc:=ck) _) fun w2 bP hg => ?_
  have ar:=ai.own dt hg;have cG:=hw.up dt
  obtain ⟨hw,au,hM,hE⟩:=dG ar hw au hM hE;have aq:=bP;clear bP ai hg ar;refine Wz ?_;by_cases PB:lj r.bG h.av[k]
  ·obtain ⟨e1,e2,e3,e4⟩:=id PB;obtain ⟨q,hq⟩ : ∃ q,decide (da (h.av[k-1]'(by omega)) h.av[k])=q:=⟨_,rfl⟩;have QK:=hl.each.get (k-1) (by omega) (by omega)
   have cL:∀ w',bI prog 144 [.agg (ck (ls[k-1]'(by omega))).toArray,.agg (ck ls[k]).toArray] w' fun v _=>v = .bool q:=fun w'=>by
    have:=vY (ls[k-1]'(by omega)) ls[k] (h.av[k-1]'(by omega)) h.av[k] w' ⟨QK.cpu,QK.kh,QK.ty⟩ ⟨Zy,Zz,eQ⟩
    rwa [hq] at this
   have wX:k=0∨(0<k∧q=true)∨(0<k∧q=false):=by cases q<;>simp<;>omega
   rw [or_comm,or_assoc] at wX;rcases wX with ⟨AI,rfl⟩|⟨AI,rfl⟩|AI
   rotate_left
   ·repeat' (first|refine Wz ?_|(first|refine CW.gj rfl ?_|(apply CW.bF mixed;(· kernel_rfl);rotate_left;intro w1 ai;obtain ⟨hw,au,aq,hM,hE⟩:=fI ai hw au aq hM hE;clear ai;rotate_right))|refine SW.st (cm (k-1) rfl rfl (by assumption) (by omega) (by omega)) rfl ?_|refine Wo hw ((kv)) ?_|refine SW.dF rfl rfl (fun w1 ai=>(cL _)) ?_|exact SW.eI rfl)
    exact ae.bj rfl rfl ⟨_,rfl,hw,hE.g,.inr ⟨rfl,fun hh=>by
     have:=hh.1.next (k-1) (by omega)
     simp only [show k-1+1=k by omega] at this;exact of_decide_eq_false hq this⟩⟩
   all_goals
    have ZB:∀ (h0 : 0<k),da (h.av[k-1]'(by omega)) h.av[k]:=fun h0=>by first|exact of_decide_eq_true hq|omega
    repeat' (first|refine Wz ?_|(first|refine CW.fU rfl ?_|(apply CW.bF mixed;(· kernel_rfl);rotate_left;intro w1 ai;obtain ⟨hw,au,aq,hM,hE⟩:=fI ai hw au aq hM hE;clear ai;rotate_right))|refine SW.st (cm (k-1) rfl rfl (by assumption) (by omega) (by omega)) rfl ?_|refine Wo hw ((kv)) ?_|refine SW.dF rfl rfl (fun w1 ai=>(cL _)) ?_|exact SW.eI rfl)
    clear cL hq gg kv
    refine CW.loop (fun j:Nat=>[(1,.pointer (some ⟨b,0,none⟩)),(2,.pointer (some ⟨b2,0,none⟩)),(6,.pointer (some ⟨b6,0,none⟩)),(10,.slice r.av.A r.av.n r.av.c),(11,.int .i64 (r.av.n:Int)),(12,.int .i64 (k:Int)),(75,.slice ls[k].ax.A ls[k].ax.n ls[k].ax.c),(76,.int .i64 (ls[k].ax.n:Int)),(77,.int .i64 (j:Int))])
     (fun j w'=>j<=ls[k].ax.n∧Ext w w'∧GB wE w' b∧aS w' b2 41 (dC r)∧aS w' b6 159 (ck ls[k])∧Marks w' b N (bB (bB s (a9 (h.av.take k))) ((h.av[k].ax.take j).map ct)) ∧ ∀ (i:Nat) (hi:i<h.av[k].ax.length),i<j->(h.av[k].ax[i]<z0.To↔h.av[k].ak=0)) (fun j=>ls[k].ax.n-j) 0
     ⟨rfl,rfl,rfl,rfl,rfl,rfl,rfl,rfl,rfl,trivial⟩ ⟨by omega,hw,hE,au,aq,hM,fun i _ h=>by omega⟩ ?_
    clear hw hE au aq hM dt cG;rintro j w' ⟨hj,hw,hE,au,aq,hM,hZ⟩
    by_cases pB:j<ls[k].ax.n
    ·have pA:j<h.av[k].ax.length:=by omega
     repeat' (first|refine Wz ?_|refine Wn hw (vZ.one pB rfl) ?_)
     refine SW.dT rfl rfl (Jq b _ h.av[k].ax[j] N hN _ hM (kY ZA fun x hx=>by
      obtain ⟨p,_,rfl⟩:=adk.1 hx;simp [ct,jh])) fun v w5 hv => ?_
     obtain ⟨uY,DV⟩:=hv;have hG:=hM.gr DV;have hw:=hw.own DK DV;have hE:=hE.step DV;(obtain ⟨au,aq⟩:=cX hG au aq)
     have e5:lM (bB (bB s (a9 (h.av.take k))) ((h.av[k].ax.take j).map ct)) (ct h.av[k].ax[j])=bB (bB s (a9 (h.av.take k))) ((h.av[k].ax.take (j+1)).map ct):=by
      rw [ac5 pA,adr,dv];rfl
     rw [e5] at uY;have xC:=uY.bad hN;generalize hp:h.av[k].ax[j]=p
     obtain ⟨y,hy⟩ : ∃ y,(if p<z0.To then (0:Int) else 1)=y:=⟨_,rfl⟩
     have cZ:∀ w',Ext w w'->bI prog 96 [.agg (dC r).toArray,.int .i64 p] w' fun v _=>v = .int .i64 y:=fun w' hx=>by
      have:=Jp r h r0 r1 z0 z1 p w' (hr.ext hx)
      rwa [hy] at this
     cases hs:bB (bB s (a9 (h.av.take k))) ((h.av[k].ax.take (j+1)).map ct) with
     | none =>
       rw [hs] at xC;repeat' (first|refine Wz ?_|((apply CW.bF mixed;(· kernel_rfl);rotate_left;intro w1 ai;obtain ⟨hw,au,aq,uY,hE⟩:=fI ai hw au aq uY hE;clear ai;rotate_right))|refine SW.skip rfl rfl rfl rfl ?_|refine Wl xC ?_|exact SW.eI rfl)
       exact ae.bj rfl rfl ⟨_,rfl,hw,hE.g,.inr ⟨rfl,fun hh=>by
        have:=hh.2
        rw [Ev Oh (by omega) hs] at this;cases this⟩⟩
     | some bs =>
       rw [hs] at xC;by_cases hz:y=ls[k].ak
       ·repeat' (first|refine Wz ?_|((apply CW.bF mixed;(· kernel_rfl);rotate_left;intro w1 ai;obtain ⟨hw,au,aq,uY,hE⟩:=fI ai hw au aq uY hE;clear ai;rotate_right))|refine SW.want rfl rfl ?_|refine Wl xC ?_|refine SW.dF rfl rfl (fun w1 ai=>(cZ _ (hw.trans ai))) ?_|exact SW.eI rfl)
        refine ae.again (j+1) ⟨rfl,rfl,rfl,rfl,rfl,rfl,rfl,rfl,rfl,trivial⟩ (by omega) ⟨by omega,hw,hE,au,aq,uY,fun i hi o9 => ?_⟩;by_cases e:i=j
        ·subst e;rw [hp];split at hy<;>constructor<;>intro _<;>omega
        ·exact hZ i hi (by omega)
       ·repeat' (first|refine Wz ?_|((apply CW.bF mixed;(· kernel_rfl);rotate_left;intro w1 ai;obtain ⟨hw,au,aq,uY,hE⟩:=fI ai hw au aq uY hE;clear ai;rotate_right))|refine SW.want rfl rfl ?_|refine Wl xC ?_|refine SW.dF rfl rfl (fun w1 ai=>(cZ _ (hw.trans ai))) ?_|exact SW.eI rfl)
        exact ae.bj rfl rfl ⟨_,rfl,hw,hE.g,.inr ⟨rfl,fun hh=>by
         have:=hh.1.kh k Oh p (by rw [<- hp];exact ac0 _)
         split at hy<;>omega⟩⟩
    ·obtain rfl:j=ls[k].ax.n:=by omega
     rw [adf (l:=h.av[k].ax) (by omega),<- dv,<- rX _ _ Oh] at hM;refine Wz ?_;refine ae.again (k+1) ⟨rfl,rfl,rfl,rfl,rfl,trivial⟩ (by omega) ⟨by omega,hw,hE,au,hM,hP.snoc Oh (by rwa [<- qj]) ZB fun p hp => ?_⟩;obtain ⟨i,hi,rfl⟩:=ac1 hp;exact hZ i hi (by omega)
  ·have oD : ¬ nf h.bG z0.To h.av:=fun hh=>PB (by have:=hh.head k Oh;rwa [<- qj] at this)
   have ZC : ¬ (((0<=ls[k].fV∧ls[k].fV<r.bG)∧(0<=ls[k].ak∧ls[k].ak<=1)∧(0<=ls[k].Ty∧ls[k].Ty<=2)∧(1<=ls[k].ax.n∧ls[k].ax.n<=8))):=fun hh=>PB (by unfold lj;omega)
   have lJ:ls[k].fV<0∨(0<=ls[k].fV∧(r.bG<=ls[k].fV∨(ls[k].fV<r.bG∧(ls[k].ak<0∨(0<=ls[k].ak∧(1<ls[k].ak∨(ls[k].ak<=1∧(ls[k].Ty<0∨(0<=ls[k].Ty∧(3<=ls[k].Ty∨(ls[k].Ty<3∧(ls[k].ax.n=0∨(0<ls[k].ax.n∧8<ls[k].ax.n))))))))))))):=by omega
   rcases lJ with d|⟨d1,d|⟨d2,d|⟨d3,d|⟨d4,d|⟨d5,d|⟨d6,d|⟨d7,d⟩⟩⟩⟩⟩⟩⟩
   repeat' (first|refine Wz ?_|((apply CW.bF mixed;(· kernel_rfl);rotate_left;intro w1 ai;obtain ⟨hw,au,aq,hM,hE⟩:=fI ai hw au aq hM hE;clear ai;rotate_right))|exact SW.eI rfl)
   all_goals exact ae.bj rfl rfl ⟨_,rfl,hw,hE.g,.inr ⟨rfl,fun hh=>oD hh.1⟩⟩
 ·obtain rfl:k=r.av.n:=by omega
  rw [adf (l:=h.av) (by omega)] at hM;refine Wz ?_;exact ae.bj rfl rfl ⟨_,rfl,hw,hE.g,.inl ⟨rfl,hP.all (by omega),hM⟩⟩
theorem wY:∀ {s:Option (List Block)},(bB s l).isSome=true -> ∀ b∈l,0<=b.At∧b.At+pw b.Order<=256:=by
 induction l with
 | nil=>intro s _ b hb;simp at hb
 | cons x l ih =>
   intro s h b hb;have h':(bB (lM s x) l).isSome=true:=h
   rcases ad4.1 hb with rfl|hb
   ·cases e:lM s b with
    | none=>rw [e,iW] at h';cases h'
    | some bs=>obtain ⟨cs,_,hf,_⟩:=pH e;exact ⟨hf.1,hf.2.1⟩
   ·exact ih h' b hb
def Ie (b:Block) : Prop:=(0<=b.Order∧b.Order<=4)∧0<=b.At∧b.At % pw b.Order=0∧kH b.Ty
structure C9 (l:List Block) (k:Nat) : Prop where
 each:∀ (i:Nat) (h:i<l.length),i<k->Ie l[i]
 next:∀ (i:Nat) (h:i+1<l.length),i+1<k->l[i].At<l[i+1].At
theorem C9.nil (l:List Block) : C9 l 0:=⟨fun i _ h=>by omega,fun i _ h=>by omega⟩
theorem C9.snoc (h:C9 l k) (hk:k<l.length) (h1:Ie l[k]) (h2:∀ (h : 0<k),l[k-1].At<l[k].At) : C9 l (k+1):=by
 refine ⟨fun i hi D0 => ?_,fun i hi D0 => ?_⟩
 ·by_cases e:i=k
  ·subst e;exact h1
  ·exact h.each i hi (by omega)
 ·by_cases e:i+1=k
  ·subst e;exact h2 (by omega)
  ·exact h.next i hi (by omega)
theorem C9.ok {s:Option (List Block)} (h:C9 l k) (hk:l.length<=k) (hf:(bB s l).isSome=true) : fP l:=by
 refine ⟨fun i hi => ?_,fun i hi=>h.next i hi (by omega)⟩;obtain ⟨h1,h2,h3,h4⟩:=h.each i hi (by omega);have h5:=wY hf _ (ac0 hi);have h6:=cy h1.1 h1.2;exact ⟨h1,⟨h2,by omega⟩,h3,h4⟩
def Ew (n:Int) : Bool:=decide (n<0) || decide (256<n)
theorem LG (x:Int) (w:World) : bI prog 106 ([.int .i64 x]++[]) w fun v _=>v = .bool (Ew x):=by
 refine aE func106 rfl ntmps106 rfl ?_;have hw:=Ext.refl w;have lJ:x<0∨(0<=x∧(256<x∨x<=256)):=by omega
 rcases lJ with d|⟨d1,d|d⟩
 repeat' (first|refine Wz ?_|fail);all_goals exact ae.bj rfl rfl ⟨_,rfl,hw,by unfold Ew;simp;omega⟩
def fF (z:ak) : Prop:=(-9223372036854775808<=z.aU∧z.aU<=9223372036854775807)∧(-9223372036854775808<=z.To∧z.To<=9223372036854775807)
def zj (h:Heap) : Prop:=h.bp.length=2∧h.dK.length=2∧1<=h.bG∧h.bG<=4
instance (h:Heap) : Decidable (zj h):=inferInstanceAs (Decidable (_∧_))
theorem bJ.VC {h:Heap} (a:bJ h) : zj h:=by
 obtain ⟨z0,z1,e,_⟩:=a.cr;obtain ⟨m0,m1,e',_⟩:=a.ef;exact ⟨by rw [e];rfl,by rw [e'];rfl,a.cpus⟩
structure Da (h:Heap) (z0 z1:ak) : Prop where
 one:bU z0
 two:bU z1
 from_:z0.aU=0
 DO:z0.To=z1.aU
 o8:z1.To=256
 ef:h.dK.any Ew=false
theorem bJ.front {h:Heap} (a:bJ h) (e:h.bp=[z0,z1]) : Da h z0 z1:=by
 obtain ⟨y0,y1,e',a1,a2,a3,a4,a5,_⟩:=a.cr;rw [e] at e';simp only [List.cons.injEq,and_true] at e';obtain ⟨rfl,rfl⟩:=e';obtain ⟨m0,m1,e',b1,b2⟩:=a.ef;exact ⟨a1,a2,a3,a4,a5,by rw [e'];simp [Ew];omega⟩
def qE (h:Heap) (z0 z1:ak) : Option (List Block):=bB (some []) (z0.aj++z1.aj)
theorem bJ.rest {h:Heap} (a:bJ h) (e:h.bp=[z0,z1]) : nf h.bG z0.To h.av∧fP h.Live∧(bB (bB (qE h z0 z1) (a9 h.av)) h.Live).isSome=true:=by
 obtain ⟨y0,y1,e',a1,a2,a3,a4,a5,a6,a7⟩:=a.cr;rw [e] at e';simp only [List.cons.injEq,and_true] at e';obtain ⟨rfl,rfl⟩:=e';refine ⟨a6,a.live,?_⟩;rw [dv,dv] at a7;exact a7
theorem bJ.of {h:Heap} (e:h.bp=[z0,z1]) (hd:zj h) (hf:Da h z0 z1) (h1:nf h.bG z0.To h.av) (h2:fP h.Live) (h3:(bB (bB (qE h z0 z1) (a9 h.av)) h.Live).isSome=true) : bJ h:=by
 refine ⟨⟨z0,z1,e,hf.one,hf.two,hf.from_,hf.DO,hf.o8,h1,?_⟩,?_,hd.2.2,h2⟩
 ·rw [dv,dv];exact h3
 ·obtain ⟨m0,m1,em⟩:=zh hd.2.1;have:=hf.ef
  rw [em] at this;simp [Ew] at this;exact ⟨m0,m1,em,by omega,by omega⟩
set_option maxHeartbeats 8000000 in
theorem qF (r:ju) (h:Heap) (w:World) (hr:HY w r h) (hs:h.small) (NF:∀ z∈h.bp,fF z) :
 bI prog 61 [.agg (dC r).toArray] w fun v _=>v = .int .i64 (if iX h then 0 else 8):=by
 refine aE func61 rfl ntmps61 rfl ?_;refine CW.seq (CW.region (SW.box rfl rfl fun b1 w1 hw lc aW => ?_));have qj:=hr.cpus;have S8:=hr.ef.len;obtain ⟨ZD,Db⟩:=hr.cr;obtain ⟨VD,Gs⟩:=Db.len;clear Db VD ZD;by_cases hd:zj h
 ·obtain ⟨d1,d2,d3⟩:=id hd;obtain ⟨r0,r1,z0,z1,zm⟩:=hr.two d1;have Ba:=zm.eq;have hA:=zm.row.base;have C5:=NF z0 (by rw [Ba];simp);have tm:=NF z1 (by rw [Ba];simp);have s0:=hs.free z0 (by rw [Ba];simp);have s1:=hs.free z1 (by rw [Ba];simp);have eF0:=zm.z0.from_;have ZE:=zm.z0.o8;have eF1:=zm.z1.from_;have eT1:=zm.z1.o8;have l0:=zm.z0.free.len;have l1:=zm.z1.free.len;have t0:=zm.z0.types.len;have t1:=zm.z1.types.len;unfold fF at C5 tm;obtain ⟨q0,VE⟩ : ∃ q,fD z0=q:=⟨_,rfl⟩;obtain ⟨q1,LH⟩ : ∃ q,fD z1=q:=⟨_,rfl⟩
  have c0:∀ w',Ext w w'->bI prog 80 [.agg (dp r0).toArray] w' fun v _=>v = .int .i64 (if q0 then 0 else 8):=fun w' hx=>by
   have:=kJ r0 z0 w' (zm.z0.ext hx) (by omega) (by omega) (by omega) (by omega)
   rwa [VE] at this
  have c1:∀ w',Ext w w'->bI prog 80 [.agg (dp r1).toArray] w' fun v _=>v = .int .i64 (if q1 then 0 else 8):=fun w' hx=>by
   have:=kJ r1 z1 w' (zm.z1.ext hx) (by omega) (by omega) (by omega) (by omega)
   rwa [LH] at this
  have Sa:(q0=true∧q1=true)∨(q0=false)∨(q0=true∧q1=false):=by cases q0<;>cases q1<;>simp
  rcases Sa with ⟨rfl,rfl⟩|rfl|⟨rfl,rfl⟩
  all_goals simp only [if_true,Bool.false_eq_true,if_false] at c0 c1
  repeat' (first|refine Wz ?_|refine SW.st (cm (0) rfl rfl (by assumption) (by omega) (by omega)) rfl ?_|refine SW.st (cm (1) rfl rfl (by assumption) (by omega) (by omega)) rfl ?_|refine Wo hw ((zm.c0)) ?_|refine Wo hw ((zm.c1)) ?_|((first|refine Wk (c0 _ hw) ?_|refine Wk (c1 _ hw) ?_);intro v w1 ai hv;subst hv;obtain ⟨hw,aW⟩:=cX ai hw aW;clear ai))
  rotate_left
  ·exact ae.bj rfl rfl ⟨_,rfl,hw,by rw [ng (fun hh=>by have:=fg.2 (hh.front Ba).one;rw [VE] at this;cases this)];rfl⟩
  ·exact ae.bj rfl rfl ⟨_,rfl,hw,by rw [ng (fun hh=>by have:=fg.2 (hh.front Ba).two;rw [LH] at this;cases this)];rfl⟩
  clear c0 c1;have LI:=fg.1 VE;have N2:=fg.1 LH
  have cO:∀ w',Ext w w'->bI prog 105 [.slice r.dK.A r.dK.n r.dK.c,.func (.func 106) #[] ([] : List Value).toArray] w' fun v _=>v = .bool (h.dK.any Ew):=fun w' h =>
   iE _ _ _ _ _ (hr.ef.ext h) _ [] Ew (fun x => .int .i64 x) (fun x=>rfl) (fun x _ w1 _=>LG x w1) (by omega)
  obtain ⟨qm,VF⟩ : ∃ q,h.dK.any Ew=q:=⟨_,rfl⟩;rw [VF] at cO;have lJ:(r0.aU=0∧r0.To=r1.aU∧r1.To=256∧qm=false)∨r0.aU≠0∨(r0.aU=0∧r0.To≠r1.aU)∨(r0.aU=0∧r0.To=r1.aU∧r1.To≠256)∨(r0.aU=0∧r0.To=r1.aU∧r1.To=256∧qm=true):=by cases qm<;>simp<;>omega
  rcases lJ with ⟨d1,d2,d3,rfl⟩|d|⟨d1,d⟩|⟨d1,d2,d⟩|⟨d1,d2,d3,rfl⟩
  repeat' (first|refine Wz ?_|((apply CW.bF mixed;(· kernel_rfl);rotate_left;intro w1 ai;obtain ⟨hw,aW⟩:=cX ai hw aW;clear ai;rotate_right))|refine SW.st (cm (0) rfl rfl (by assumption) (by omega) (by omega)) rfl ?_|refine SW.st (cm (1) rfl rfl (by assumption) (by omega) (by omega)) rfl ?_|refine Wn hw (zm.c0 0 _ rfl) ?_|refine Wn hw (zm.c0 1 _ rfl) ?_|refine Wn hw (zm.c1 0 _ rfl) ?_|refine Wn hw (zm.c1 1 _ rfl) ?_|refine SW.dF rfl rfl (fun w1 ai=>(cO _ (hw.trans ai))) ?_|exact SW.eI rfl)
  rotate_left
  iterate 3 exact ae.bj rfl rfl ⟨_,rfl,hw,by rw [ng (fun hh=>by have:=hh.front Ba;have:=this.from_;have:=(hh.front Ba).DO;have:=(hh.front Ba).o8;omega)];rfl⟩
  ·exact ae.bj rfl rfl ⟨_,rfl,hw,by rw [ng (fun hh=>by have:=(hh.front Ba).ef;rw [VF] at this;cases this)];rfl⟩
  have Ta:Da h z0 z1:=⟨LI,N2,by omega,by omega,by omega,VF⟩
  clear cO;have hn:=zm.n
  have m7:∀ z∈h.bp,∀ b∈z.aj,0<=b.Order∧b.Order<=4:=fun z hz b hb=>by
   obtain ⟨i,hi,rfl⟩:=ac1 hb;rw [Ba] at hz;simp only [List.mem_cons,List.not_mem_nil,or_false] at hz;rcases hz with rfl|rfl
   ·exact ⟨(LI.eG i hi).1.1,(LI.eG i hi).1.2.1⟩
   ·exact ⟨(N2.eG i hi).1.1,(N2.eG i hi).1.2.1⟩
  have XT:∀ k,rW (bB (some []) ((h.bp.take k).flatMap ak.aj)):=fun k=>kY Bt fun x hx=>by
   obtain ⟨z,hz,hx⟩:=adm.1 hx;have:=m7 z (adu hz) x hx
   exact (cy this.1 this.2).1
  refine SW.box rfl rfl fun b3 w2 bt cg ap => ?_
  have fW:=hw.up cg
  have hM:Marks w2 b3 256 (some []):=by
   refine Eq.mp (congrArg (fun c=>aS w2 b3 191 c) ?_) ap;kernel_rfl
  clear ap;(obtain ⟨hw,aW⟩:=cX bt hw aW);repeat' (first|refine Wz ?_|fail)
  refine CW.loop (fun k:Nat=>[(1,.pointer (some ⟨b1,0,none⟩)),(3,.pointer (some ⟨b3,0,none⟩)),(81,.slice r.bp.A r.bp.n r.bp.c),(82,.int .i64 (r.bp.n:Int)),(83,.int .i64 (k:Int))])
   (fun k w'=>k<=2∧Ext w w'∧aS w' b1 41 (dC r)∧Marks w' b3 256 (bB (some []) ((h.bp.take k).flatMap ak.aj))) (fun k=>2-k) 0
   ⟨rfl,rfl,rfl,rfl,rfl,trivial⟩ ⟨by omega,hw,aW,hM⟩ ?_
  clear hw aW hM bt;rintro k w' ⟨hk,hw,aW,hM⟩
  by_cases yb:k<2
  ·have ZF:k<h.bp.length:=by omega
   have gg:=zm.row.all (i:=k) (by omega)
   have Tb:F6 w ([r0,r1][k]'(by simpa using yb)) h.bp[k]:=by
    simp only [Ba];have:k=0∨k=1:=by omega
    rcases this with rfl|rfl
    ·exact zm.z0
    ·exact zm.z1
   generalize hrk:([r0,r1][k]'(by simpa using yb))=rk at gg Tb
   have wR:=m7 h.bp[k] (ac0 _);have Vp:=hs.free h.bp[k] (ac0 _)
   have GA:(h.bp.take (k+1)).flatMap ak.aj=(h.bp.take k).flatMap ak.aj++h.bp[k].aj:=by
    rw [ac5 ZF,adi];simp
   generalize h.bp[k]=zk at Tb wR Vp GA
   have hAk:=Tb.free.base;have Ji:=Tb.free.len;repeat' (first|refine Wz ?_|refine Wo hw ((gg)) ?_)
   refine SW.alloc rfl fun b5 w1 ai gm aL => ?_
   skip;refine SW.ag aL rfl rfl rfl rfl (fE _) fun w2 eJ hg => ?_
   have ar:=ai.own gm hg;have jD:=hw.up gm
   obtain ⟨hw,aW,hM⟩:=cj ar hw aW hM;have aL:=eJ;clear eJ ai hg ar;repeat' (first|refine Wz ?_|fail)
   refine CW.loop (fun j:Nat=>[(1,.pointer (some ⟨b1,0,none⟩)),(3,.pointer (some ⟨b3,0,none⟩)),(81,.slice r.bp.A r.bp.n r.bp.c),(82,.int .i64 (r.bp.n:Int)),(83,.int .i64 (k:Int)),(88,.slice rk.aj.A rk.aj.n rk.aj.c),(89,.int .i64 (rk.aj.n:Int)),(90,.int .i64 (j:Int))])
    (fun j w'=>j<=rk.aj.n∧Ext w w'∧aS w' b1 41 (dC r)∧Marks w' b3 256 (bB (bB (some []) ((h.bp.take k).flatMap ak.aj)) (zk.aj.take j))) (fun j=>rk.aj.n-j) 0
    ⟨rfl,rfl,rfl,rfl,rfl,rfl,rfl,rfl,trivial⟩ ⟨by omega,hw,aW,hM⟩ ?_
   clear hw aW hM aL gm jD;rintro j w' ⟨hj,hw,aW,hM⟩
   by_cases pB:j<rk.aj.n
   ·have pA:j<zk.aj.length:=by omega
    obtain ⟨o1,o2⟩:=wR zk.aj[j] (ac0 _);have hp:=cy o1 o2;repeat' (first|refine Wz ?_|refine Wo hw ((Tb.free.all pB)) ?_)
    refine SW.alloc rfl fun b7 w1 ai iB bd => ?_
    skip;refine SW.ag bd rfl rfl rfl rfl (im.one (enc:=aO) _) fun w2 bq hg => ?_
    have ar:=ai.own iB hg;have fX:=hw.up iB
    obtain ⟨hw,aW,hM⟩:=cj ar hw aW hM;have bd:=bq;clear bq ai hg ar;repeat' (first|refine Wz ?_|fail);refine CW.any 6 mixed (dg (by kernel_rfl)) rfl fun w1 ai aJ => ?_
    obtain ⟨hw,aW,hM,bd⟩:=dG ai hw aW hM bd;clear ai;refine Wa ?_;refine Wu 5 aJ rfl (fA (r:=pw zk.aj[j].Order) rfl rfl (by omega) (by omega) (by simp [pw]) (by omega) (by omega)) ?_;refine SA.done (by kernel_rfl) ?_;refine SW.dT rfl rfl (vX b3 _ zk.aj[j] 256 rfl _ hM (kY (XT k) fun x hx=>by have:=wR x (adu hx);exact (cy this.1 this.2).1) ⟨by omega,by omega⟩) fun v w5 hv => ?_
    obtain ⟨uY,DV⟩:=hv;have hG:=hM.gr DV;have hw:=hw.own fW DV;(have aW:=aW.aN hG rfl);rw [<- wU _ _ _ pA] at uY;repeat' (first|refine Wz ?_|fail);exact ae.again (j+1) ⟨rfl,rfl,rfl,rfl,rfl,rfl,rfl,rfl,trivial⟩ (by omega) ⟨by omega,hw,aW,uY⟩
   ·obtain rfl:j=rk.aj.n:=by omega
    rw [adf (l:=zk.aj) (by omega),<- dv,<- GA] at hM;repeat' (first|refine Wz ?_|fail);exact ae.again (k+1) ⟨rfl,rfl,rfl,rfl,rfl,trivial⟩ (by omega) ⟨by omega,hw,aW,hM⟩
  ·obtain rfl:k=2:=by omega
   have VG:=XT 2;have ZG:bB (some []) ((h.bp.take 2).flatMap ak.aj)=qE h z0 z1:=by rw [Ba];simp [qE]
   rw [ZG] at hM VG;repeat' (first|refine Wz ?_|fail);obtain ⟨ls,FU⟩:=hr.lists;have mv:=FU.len.2;have yd:=hs.lists;clear FU ls;refine SW.dT rfl rfl (Jr r h r0 r1 z0 z1 b3 256 rfl (qE h z0 z1) w _ hw fW zm hM VG (by omega)) fun v w5 hv => ?_
   obtain ⟨ox,DV,jT⟩:=hv;have hG:=hM.gr DV;have hw:=ox;(have aW:=aW.aN hG rfl);clear hM ox DV hG;rcases jT with ⟨rfl,hL,hM⟩|⟨rfl,oD⟩
   rotate_left
   ·repeat' (first|refine Wz ?_|(refine CW.gj rfl ?_))
    exact ae.bj rfl rfl ⟨_,rfl,hw,by rw [ng (fun hh=>oD ⟨(hh.rest Ba).1,jQ (m:=h.Live) (by rw [dv];exact (hh.rest Ba).2.2)⟩)];rfl⟩
   have XU:rW (bB (qE h z0 z1) (a9 h.av)):=kY VG fun x hx=>by
    unfold a9 at hx;obtain ⟨y,_,hy⟩:=adm.1 hx;obtain ⟨p,_,rfl⟩:=adk.1 hy;simp [ct,jh]
   have PC:bJ h->(bB (bB (qE h z0 z1) (a9 h.av)) h.Live).isSome=true:=fun hh=>(hh.rest Ba).2.2
   have XV:fP h.Live->(bB (bB (qE h z0 z1) (a9 h.av)) h.Live).isSome=true->bJ h:=fun a b=>bJ.of Ba hd Ta hL a b
   generalize bB (qE h z0 z1) (a9 h.av)=S at hM XU PC XV
   have PD:=hr.live;have R9:=hr.live.len;have ZH:=hr.live.base;have hsv:=hs.live;repeat' (first|refine Wz ?_|fail)
   refine CW.loop (fun k:Nat=>[(1,.pointer (some ⟨b1,0,none⟩)),(3,.pointer (some ⟨b3,0,none⟩)),(108,.slice r.Live.A r.Live.n r.Live.c),(109,.int .i64 (r.Live.n:Int)),(110,.int .i64 (k:Int))])
    (fun k w'=>k<=r.Live.n∧Ext w w'∧aS w' b1 41 (dC r)∧Marks w' b3 256 (bB S (h.Live.take k))∧C9 h.Live k) (fun k=>r.Live.n-k) 0
    ⟨rfl,rfl,rfl,rfl,rfl,trivial⟩ ⟨by omega,hw,aW,hM,.nil _⟩ ?_
   clear hw aW hM;rintro k w' ⟨hk,hw,aW,hM,hP⟩
   by_cases gh:k<r.Live.n
   ·have iw:k<h.Live.length:=by omega
    have Dc:k-1<r.Live.n:=by omega
    have Oj:bJ h->vN h.Live[k]∧(0<k->(h.Live[k-1]'(by omega)).At<h.Live[k].At):=fun hh=>⟨hh.live.each k iw,fun h0=>by
     have:=hh.live.next (k-1) (by omega)
     simpa only [show k-1+1=k by omega] using this⟩
    have PE:=PD.jL Dc (j:=0) rfl;repeat' (first|refine Wz ?_|refine Wo hw ((PD.all gh)) ?_)
    refine SW.alloc rfl fun b9 w1 ai nQ bD => ?_
    repeat' (first|refine Wz ?_|fail);refine SW.ag bD rfl rfl rfl rfl (im.one (enc:=aO) _) fun w2 jM hg => ?_
    have ar:=ai.own nQ hg;have rU:=hw.up nQ
    obtain ⟨hw,aW,hM⟩:=cj ar hw aW hM;have bD:=jM;clear jM ai hg ar;repeat' (first|refine Wz ?_|fail);have lK:Ie h.Live[k]->(0<k->(h.Live[k-1]'(by omega)).At<h.Live[k].At)->C9 h.Live (k+1):=fun a b=>hP.snoc iw a fun h0=>b h0
    have GA:=wU S h.Live k iw;generalize VH:h.Live[k]=bb at bD Oj lK GA
    generalize XK:(h.Live[k-1]'(by omega)).At=pv at Oj lK PE
    simp only [Ie,vN,kH] at Oj lK
    have hp:bb.Order<0∨4<bb.Order∨(1<=pw bb.Order∧pw bb.Order<=16):=by
     by_cases h1 : 0<=bb.Order
     ·by_cases h2:bb.Order<=4
      ·exact .inr (.inr (cy h1 h2))
      ·omega
     ·omega
    have em:bb.At<0∨bb.At.tmod (pw bb.Order)=bb.At % pw bb.Order:=by
     by_cases h1 : 0<=bb.At
     ·exact .inr (adE h1)
     ·omega
    have lJ:bb.Order<0∨(0<=bb.Order∧(4<bb.Order∨(bb.Order<=4∧(bb.At<0∨(0<=bb.At∧(bb.At.tmod (pw bb.Order)≠0∨(bb.At.tmod (pw bb.Order)=0∧(bb.Ty<0∨(0<=bb.Ty∧(3<=bb.Ty∨(bb.Ty<3∧((0<k∧bb.At<=pv)∨k=0∨(0<k∧pv<bb.At)))))))))))) ):=by omega
    rcases lJ with d|⟨d1,d|⟨d2,d|⟨d3,d|⟨d4,d|⟨d5,d|⟨d6,⟨AI,d⟩|AI|⟨AI,d⟩⟩⟩⟩⟩⟩⟩
    all_goals (apply CW.bF mixed;(· kernel_rfl);rotate_left;intro w1 ai;obtain ⟨hw,aW,bD,hM⟩:=dG ai hw aW bD hM;clear ai;rotate_right)
    repeat' (first|refine Wz ?_|refine SW.st (cm (k-1) rfl rfl (by assumption) (by omega) (by omega)) rfl ?_|refine Wn hw PE ?_|(refine SW.st (fA (r:=pw bb.Order) rfl rfl (by omega) (by omega) (by simp [pw]) (by omega) (by omega)) rfl ?_)|exact SW.eI rfl)
    iterate 7 exact ae.bj rfl rfl ⟨_,rfl,hw,by rw [ng (fun hh=>by have:=Oj hh;omega)];rfl⟩
    all_goals
     have lK:=lK ⟨⟨d1,d2⟩,d3,by omega,by omega⟩ (fun h0=>by omega);refine CW.any 6 mixed (dg (by kernel_rfl)) rfl fun w1 ai aJ => ?_
     obtain ⟨hw,aW,hM,bD⟩:=dG ai hw aW hM bD;clear ai;refine Wa ?_;refine Wu 5 aJ rfl (fA (r:=pw bb.Order) rfl rfl (by omega) (by omega) (by simp [pw]) (by omega) (by omega)) ?_;refine SA.done (by kernel_rfl) ?_
     refine SW.dT rfl rfl (vX b3 _ bb 256 rfl _ hM (kY XU fun x hx=>by
      obtain ⟨i,hi,rfl⟩:=ac1 hx;rw [adH];have:=(hP.each i (by simp at hi;omega) (by simp at hi;omega)).1
      exact (cy this.1 this.2).1) ⟨by omega,by omega⟩) fun v w5 hv => ?_
     obtain ⟨uY,DV⟩:=hv;have hG:=hM.gr DV;have hw:=hw.own fW DV;(have aW:=aW.aN hG rfl);rw [<- GA] at uY;repeat' (first|refine Wz ?_|fail);exact ae.again (k+1) ⟨rfl,rfl,rfl,rfl,rfl,trivial⟩ (by omega) ⟨by omega,hw,aW,uY,lK⟩
   ·obtain rfl:k=r.Live.n:=by omega
    rw [adf (by omega)] at hM;have xC:=hM.bad rfl;cases hS:bB S h.Live with
    | none =>
      rw [hS] at xC;repeat' (first|refine Wz ?_|(refine CW.gj rfl ?_)|refine Wl xC ?_)
      exact ae.bj rfl rfl ⟨_,rfl,hw,by rw [ng (fun hh=>by have:=PC hh;rw [hS] at this;cases this)];rfl⟩
    | some bs =>
      rw [hS] at xC;repeat' (first|refine Wz ?_|(refine CW.fU rfl ?_)|refine Wl xC ?_)
      exact ae.bj rfl rfl ⟨_,rfl,hw,by rw [CU (XV (hP.ok (s:=S) (by omega) (by rw [hS];rfl)) (by rw [hS];rfl))];rfl⟩
 ·rw [ng (fun hh=>hd hh.VC)];have lJ:r.bp.n≠2∨(r.bp.n=2∧(r.dK.n≠2∨(r.dK.n=2∧(r.bG<1∨(1<=r.bG∧4<r.bG))))):=by unfold zj at hd;omega
  rcases lJ with d|⟨d1,d|⟨d2,d|⟨d3,d⟩⟩⟩
  repeat' (first|refine Wz ?_|fail);all_goals exact ae.bj rfl rfl ⟨_,rfl,hw,rfl⟩
variable {p:α -> Bool}
theorem BC {q:α -> Bool}:∀ {l:List α},(∀ x∈l,p x=true->q x=true)->(∃ x∈l,p x=false∧q x=true)->l.countP p<l.countP q
 | [],_,h=>by obtain ⟨x,hx,_⟩:=h;simp at hx
 | a::l,h1,h2=>by
   rw [List.countP_cons,List.countP_cons];have hle:l.countP p<=l.countP q:=List.countP_mono_left (fun x hx=>h1 x (by simp [hx]))
   obtain ⟨x,hx,hp,hq⟩:=h2;rcases ad4.1 hx with rfl|hx
   ·simp [hp,hq];omega
   ·have ih:=BC (l:=l) (fun y hy=>h1 y (by simp [hy])) ⟨x,hx,hp,hq⟩;have:=h1 a (by simp)
    cases QL:p a<;>cases ZI:q a<;>simp [QL,ZI] at this ⊢<;>omega
theorem zn:∀ {l:List Block} {cs bs:List Block},(∀ b∈l,1<=pw b.Order)->bB (some cs) l=some bs->cs.length<=(List.range 256).countP (ed cs)->(∀ x∈cs,0<=x.At∧1<=pw x.Order)->bs.length<=(List.range 256).countP (ed bs)
 | [],cs,bs,_,h,hc,_=>by injection h with h;subst h;exact hc
 | b::l,cs,bs,hp,h,hc,hg=>by
   have h':bB (lM (some cs) b) l=some bs:=h
   cases e:lM (some cs) b with
   | none=>rw [e,iW] at h';cases h'
   | some ds =>
     rw [e] at h';obtain ⟨cs',e1,hf,rfl⟩:=pH e;injection e1 with e1
     subst e1;have h1:=hp b (by simp);have lP:=(sO hg h1).2 hf;refine zn (fun x hx=>hp x (by simp [hx])) h' ?_ (fun x hx => ?_)
     ·have:=BC (p:=ed cs) (q:=ed (cs++[b])) (l:=List.range 256) (fun x _ hx=>by simp only [ed,List.any_append,Bool.or_eq_true] at hx ⊢;exact .inl hx)
       ⟨b.At.toNat,by simp;have:=hf.1;have:=hf.2.1;omega,lP.2.2.2 _ (by have:=hf.1;omega) (by have:=hf.1;omega),by
        simp only [ed,List.any_append,Bool.or_eq_true];right;have:=hf.1
        simp [qi];omega⟩
      simp;omega
     ·rcases ac9.1 hx with hx|hx
      ·exact hg x hx
      ·simp at hx;subst hx;exact ⟨hf.1,h1⟩
theorem GC (hp:∀ b∈l,1<=pw b.Order) (h:bB (some []) l=some bs) : bs.length<=256:=by
 have:=zn hp h (by simp) (fun x hx=>by simp at hx)
 have h2:(List.range 256).countP (ed bs)<=(List.range 256).length:=List.countP_le_length
 simp at h2;omega
section
variable {P:Program} {n:Nat} {ops:Array Oper} {Q:Exit->Act->World->Prop} {rest:List Oper} {L:Env} {w:World}
end
theorem PF (b:Nat) : (⟨b,0,none⟩ : Addr).add 0=⟨b,0,none⟩:=by unfold Addr.add;simp
variable {cpu:Int}
theorem kE (h:fP l) : l.Pairwise fun x y=>x.At<y.At:=by
 have key:∀ (d i:Nat) (hj:i+d+1<l.length),(l[i]'(by omega)).At<l[i+d+1].At:=by
  intro d;induction d with
  | zero=>intro i hj;exact h.next i hj
  | succ d ih=>intro i hj;exact Int.lt_trans (ih i (by omega)) (h.next (i+d+1) (by omega))
 rw [ac8];intro i j hi hj o9;have:=key (j-i-1) i (by omega)
 have e:i+(j-i-1)+1=j:=by omega
 simp only [e] at this;exact this
theorem jx (h:bO l a=true) : ∃ hk:bE l a<l.length,l[bE l a].At=a:=by
 unfold bO at h;split at h
 ·rename_i hk;exact ⟨hk,of_decide_eq_true h⟩
 ·cases h
theorem qG (hu:l.Pairwise fun x y=>x.At<y.At) (hk:k<l.length) (h:l[k].At=a) : bE l a=k∧bO l a=true:=by
 rw [ac8] at hu;have e:bE l a=k:=HV (by omega) (fun j hj mO=>by have:=hu j k hj hk mO;omega) (fun _=>by omega)
 refine ⟨e,?_⟩;unfold bO;simp only [e,dif_pos hk];exact decide_eq_true h
theorem GD (h:∀ (k:Nat) (hk:k<l.length),l[k].At≠a) : bO l a=false:=by
 unfold bO;split
 ·rename_i hk;exact decide_eq_false (h _ hk)
 ·rfl
theorem LJ (hu:l.Pairwise fun x y=>x.At<y.At) (hk:k<l.length) (ha:l[k].At=a) (ho:l[k].Order=o) : l.eraseIdx k=mn l a o:=by
 rw [ac8] at hu
 have bL:∀ (j:Nat) (hj:j<l.length),j≠k->AJ a o l[j]=false:=fun j hj mO=>by
  cases hh:AJ a o l[j] with
  | false=>rfl
  | true =>
    obtain ⟨e1,e2⟩:=jX.1 hh;rcases adD j k with h1|h1|h1
    ·have:=hu j k hj hk h1;omega
    ·exact absurd h1 mO
    ·have:=hu k j hk hj h1;omega
 have e:l=l.take k++l[k]::l.drop (k+1):=by simp
 have hL:∀ x∈l.take k,AJ a o x=false:=fun x hx=>by
  obtain ⟨j,hj,rfl⟩:=ac1 hx;simp at hj;rw [adH];exact bL j (by omega) (by omega)
 have hR:∀ x∈l.drop (k+1),AJ a o x=false:=fun x hx=>by
  obtain ⟨j,hj,rfl⟩:=ac1 hx;simp at hj;rw [adZ];exact bL _ (by omega) (by omega)
 have hm:AJ a o l[k]=true:=jX.2 ⟨ha,ho⟩
 unfold mn;rw [adB]
 conv=>rhs;rw [e]
 rw [List.filter_append,List.filter_cons];simp only [hm,Bool.not_true,Bool.false_eq_true,if_false];rw [aex.2 (fun x hx=>by simp [hL x hx]),aex.2 (fun x hx=>by simp [hR x hx])]
noncomputable def zo (z:ak) (a:Int) : Int:=z.Types.getD ((a-z.aU) / 8).toNat 0
noncomputable def keyOf (z0 z1:ak) (cpu a:Int) : aR:=⟨cpu,if a<z0.To then 0 else 1,if a<z0.To then zo z0 a else zo z1 a,[]⟩
def m8 (x:aR) (pg:List Int) : aR:=⟨x.fV,x.ak,x.Ty,pg⟩
noncomputable def r7 (h:Heap) (z0 z1:ak) (b:Block) (lv:List Block) : Heap:=⟨[(gp (z0,z1) b).1,(gp (z0,z1) b).2],h.dK,h.bG,h.av,lv⟩
noncomputable def kw (h:Heap) (z0 z1:ak) (x:aR) (pg:List Int) (lv:List Block) : Heap :=
 if 8<pg.length then ⟨[(bV (z0,z1) ((pg.take 4).map ct)).1,(bV (z0,z1) ((pg.take 4).map ct)).2],h.dK,h.bG,iU h.av (m8 x (pg.drop 4)),lv⟩ else ⟨[z0,z1],h.dK,h.bG,iU h.av (m8 x pg),lv⟩
noncomputable def iL (h:Heap) (cpu a:Int) : Heap:=match h.bp with
 | [z0,z1]=>if 0<(h.Live.getD (bE h.Live a) ⟨0,0,0⟩).Order then r7 h z0 z1 (h.Live.getD (bE h.Live a) ⟨0,0,0⟩) (h.Live.eraseIdx (bE h.Live a)) else kw h z0 z1 (keyOf z0 z1 cpu a) (dc h.av (keyOf z0 z1 cpu a)++[a]) (h.Live.eraseIdx (bE h.Live a))
 | _=>⟨[],[],0,[],[]⟩
noncomputable def fa (h:Heap) (cpu a:Int) : Int×Heap :=
 if iX h then (if 0<=cpu∧cpu<h.bG then (if bO h.Live a then (0,iL h cpu a) else (4,⟨[],[],0,[],[]⟩)) else (1,⟨[],[],0,[],[]⟩)) else (8,⟨[],[],0,[],[]⟩)
theorem Ig {h:Heap} (hb:iX h=false) : fa h cpu a=(8,⟨[],[],0,[],[]⟩):=by simp [fa,hb]
theorem ye {h:Heap} (hb:iX h=true) (hc : ¬ (0<=cpu∧cpu<h.bG)) : fa h cpu a=(1,⟨[],[],0,[],[]⟩):=by simp only [fa,hb,if_true,if_neg hc]
theorem Ih {h:Heap} (hb:iX h=true) (hc : 0<=cpu∧cpu<h.bG) (hf:bO h.Live a=false) : fa h cpu a=(4,⟨[],[],0,[],[]⟩):=by simp only [fa,hb,if_true,if_pos hc,hf,Bool.false_eq_true,if_false]
theorem nk {h:Heap} (hb:iX h=true) (hc : 0<=cpu∧cpu<h.bG) (hf:bO h.Live a=true) : fa h cpu a=(0,iL h cpu a):=by simp only [fa,hb,if_true,if_pos hc,hf]
theorem qH {h:Heap} (hz:h.bp=[z0,z1]) (hk:k<h.Live.length) (e:bE h.Live a=k) (ho : 0<h.Live[k].Order) : iL h cpu a=r7 h z0 z1 h.Live[k] (h.Live.eraseIdx k):=by
 have:h.Live.getD k ⟨0,0,0⟩=h.Live[k]:=by rw [adM,ac7 hk];rfl
 simp only [iL,hz,e,this,if_pos ho]
theorem qI {h:Heap} (hz:h.bp=[z0,z1]) (hk:k<h.Live.length) (e:bE h.Live a=k) (ho : ¬ 0<h.Live[k].Order) : iL h cpu a=kw h z0 z1 (keyOf z0 z1 cpu a) (dc h.av (keyOf z0 z1 cpu a)++[a]) (h.Live.eraseIdx k):=by
 have:h.Live.getD k ⟨0,0,0⟩=h.Live[k]:=by rw [adM,ac7 hk];rfl
 simp only [iL,hz,e,this,if_neg ho]
structure jy (h:Heap) (z0 z1:ak) : Prop where
 d:nU h z0 z1
 nV:Er h.av
 live:fP h.Live
 lists:∀ l∈h.av,1<=l.ax.length∧l.ax.length<=8
 all:(bB (some []) (z0.aj++z1.aj++a9 h.av++h.Live)).isSome=true
 cpus : 1<=h.bG∧h.bG<=4
 count:h.av.length<=256
theorem BD {m:List Block} (h:∀ x∈l,x∈m) (ho:ka m a o=false) : ka l a o=false:=by
 unfold ka at *;rw [ado] at *;exact fun x hx=>ho x (h x hx)
theorem pL.sub {m:List Block} {b:Block} (h:pL m b) (hs:∀ x∈l,x∈m) : pL l b:=⟨h.ord,h.at_,h.al,⟨h.fits.1,h.fits.2.1,BD hs h.fits.2.2⟩,fun x hx=>h.C6 x (hs x hx)⟩
theorem jy.next {h:Heap} (f:jy h z0 z1) (hk:k<h.Live.length) : pL (z0.aj++z1.aj) h.Live[k]:=by
 have fe:=f.all;have e:z0.aj++z1.aj++a9 h.av++h.Live=(z0.aj++z1.aj++a9 h.av++h.Live.take k)++h.Live[k]::h.Live.drop (k+1):=by simp
 rw [e] at fe;have hf:=qD fe;have hl:=f.live.each k hk;have hs:∀ x∈z0.aj++z1.aj,x∈z0.aj++z1.aj++a9 h.av++h.Live.take k:=fun x hx=>adC _ (adC _ hx)
 obtain ⟨l1,l2,l3,l4⟩:=hl;refine ⟨l1,by omega,l3,⟨hf.1,hf.2.1,BD hs hf.2.2⟩,fun x hx => ?_⟩;rcases ac9.1 hx with hx|hx
 ·exact k6 f.d.lN x hx
 ·exact k6 f.d.lq x hx
theorem jy.GF {h:Heap} (f:jy h z0 z1) (hi:i<h.av.length) (hj:j<h.av[i].ax.length) : pL (z0.aj++z1.aj++(h.av[i].ax.take j).map ct) (ct h.av[i].ax[j]):=by
 obtain ⟨hK,Tc⟩:=ya hi hj;have hN:=f.d.next hK;rw [Tc] at hN;refine hN.sub fun x hx => ?_
 rcases ac9.1 hx with hx|hx
 ·exact adC _ hx
 ·refine aev _ ?_;obtain ⟨p,hp,rfl⟩:=adk.1 hx;obtain ⟨m,hm,rfl⟩:=ac1 hp;simp only [List.length_take] at hm;rw [adH];obtain ⟨hM,ZJ⟩:=ya hi (show m<h.av[i].ax.length by omega);rw [<- ZJ];exact ad0.2 ⟨ki h.av i+m,by omega,rfl⟩
theorem jy.inv {h:Heap} (f:jy h z0 z1) (hi:i<h.av.length) : ∀ j,j<=h.av[i].ax.length->qC (bV (z0,z1) ((h.av[i].ax.take j).map ct)) (z0.aj++z1.aj++(h.av[i].ax.take j).map ct)
 | 0,_=>by simpa [bV] using f.d.start
 | j+1,hj=>by
   have ih:=(f.inv hi j (by omega)).back (f.GF hi (show j<_ by omega))
   have e:(h.av[i].ax.take (j+1)).map ct=(h.av[i].ax.take j).map ct++[ct h.av[i].ax[j]]:=by
    rw [ac5 (by omega),adr];rfl
   rw [e,<- ac6,nT];exact ih.1
theorem gq {h:Heap} (hm:bJ h) : ∃ z0 z1,jy h z0 z1:=by
 obtain ⟨z0,z1,h1,h2,h3,h4,h5,h6,h7,h8⟩:=hm.cr;have hd:nU h z0 z1:=⟨h1,h2,h3,h4,h5,h6,jQ h8⟩
 have hl:∀ l∈h.av,1<=l.ax.length∧l.ax.length<=8:=fun l hl=>by
  obtain ⟨i,hi,rfl⟩:=ac1 hl;exact (h7.head i hi).2.2.2
 refine ⟨z0,z1,hd,C8 h7,hm.live,hl,h8,hm.cpus,?_⟩
 have key:∀ k,k<=h.av.length->k<=ki h.av k:=by
  intro k;induction k with
  | zero=>intro _;omega
  | succ k ih =>
    intro hk;have:=ih (by omega)
    have:=(hl _ (ac0 (show k<h.av.length by omega))).1
    rw [zd (show k<h.av.length by omega)];omega
 have hc:=key _ (ac3 _);rw [C7] at hc
 have hb:(a9 h.av).length<=256:=by
  obtain ⟨bs,SS⟩:=adw.1 hd.all;have h9:=GC hd.pw SS;have e:=oM SS;rw [adV] at e;subst e;simp only [List.length_append] at h9;omega
 omega
variable {most per size:Int} {c:aQ} {s:ah} {acc VI ws:List Int}
theorem QM {x y:Int} (h1 : 0<=x) (h2:x<=64) (h3 : 0<=y) (h4:y<=64) : 0<=x*y∧x*y<=4096 :=
 ⟨aeB h1 h3,by have:=Int.mul_le_mul h2 h4 h3 (by omega:(0:Int)<=64);omega⟩
def ic (size per t a:Int) : Bool:=decide (0<=a-t*16) && decide (a-t*16<per*size) && decide ((a-t*16) % size=0)
theorem Ex {t:Int} (hs : 1<=size) (hk:(k:Int)<per) (h:a=16*t+k*size) : ic size per t a=true:=by
 have e:a-t*16=k*size:=by omega
 unfold ic;rw [e,decide_eq_true (aeB (by omega) (by omega)),decide_eq_true (Int.mul_lt_mul_of_pos_right hk (by omega)),decide_eq_true (Int.mul_emod_left _ _)]
 rfl
def bM (ws:List Int) (size per:Int) (x:Slab) (out:List Int) : Prop:=fO ws per x.cf [] (some out)∧(out.length:Int)=x.aj ∧ ∀ a∈out,ic size per x.At a=true
theorem fO.mem {l:List Int} {x:Int} {r:Option (List Int)} (h:fO l most x acc r) : (∀ a∈acc,0<=a∧a<(l.length:Int)) -> ∀ out,r=some out -> ∀ a∈out,0<=a∧a<(l.length:Int):=by
 induction h with
 | done out=>intro ha o e;cases e;exact ha
 | bad=>intro _ _ e;cases e
 | @step k out r h1 hk h3 h ih =>
   intro ha o e;refine ih (fun a hm => ?_) o e;rcases ac9.1 hm with hm|hm
   ·exact ha a hm
   ·simp at hm;subst hm;exact ⟨by omega,by omega⟩
theorem bM.dm {x:Slab} {out:List Int} (h:bM ws size per x out) (h':bM ws size per x VI) : out=VI:=by
 have:=h.1.dm h'.1
 injection this
def oA (l:List Block) (a:Int) : Int:=if bO l a then (l.getD (bE l a) ⟨0,0,0⟩).Order else -1
theorem zp (h:bO l a=true) (hk:bE l a<l.length) : oA l a=l[bE l a].Order:=by
 unfold oA;rw [if_pos h];simp [List.getD,hk]
theorem Dd (h:bO l a=false) : oA l a = -1:=by
 unfold oA;rw [h]
 rfl
structure uZ (s:ah) (c:aQ) (i:Nat) (h:i<c.ab.length) : Prop where
 live:oA s.Heap.Live c.ab[i].At=c.Order
 next : 0<i->(c.ab[i-1]'(by omega)).At<c.ab[i].At
 chain:∃ out,bM s.Words c.aA c.bK c.ab[i] out
def xD (t:Int) (x:Slab) : Bool:=decide (x.At=t)
def tZ (c:aQ) (i:Nat) (h:i<c.ao.length) : Prop:=c.ao[i] = -1∨(c.ao[i]∉c.ao.take i∧c.ab.any (xD c.ao[i])=true)
structure eV (s:ah) (c:aQ) : Prop where
 lay:dl c.aA=(c.Order,c.bK,0)
 names : 0<c.Names.length
 aZ:(c.ao.length:Int)=s.Heap.bG
 aD:∀ (i:Nat) (h:i<c.ab.length),uZ s c i h
 dq:∀ (i:Nat) (h:i<c.ao.length),tZ c i h
noncomputable def ph (s:ah) (c:aQ) : Bool := @decide (eV s c) (Classical.propDecidable _)
theorem zq (a:eV s c) : ph s c=true:=by unfold ph;exact @decide_eq_true _ (Classical.propDecidable _) a
theorem nW (a : ¬ eV s c) : ph s c=false:=by unfold ph;exact @decide_eq_false _ (Classical.propDecidable _) a
theorem GG:ph s c=true↔eV s c:=by
 by_cases a:eV s c
 ·simp [zq a,a]
 ·simp [nW a,a]
theorem cd {x n:Int} (h:dl x=(o,n,0)) : (1<=x∧x<=64)∧(0<=o∧o<=2)∧(1<=n∧n<=64):=by
 unfold dl at h;split at h
 ·rename_i hx;have k1 : 64 / x<=64:=aeD _ (by omega)
  have k2 : 1<=64 / x:=by rw [Int.le_ediv_iff_mul_le (by omega)];omega
  have k3 : 16 / x<=16:=aeD _ (by omega)
  have k4 : 32 / x<=32:=aeD _ (by omega)
  split at h
  ·simp only [Prod.mk.injEq] at h;omega
  ·split at h
   ·simp only [Prod.mk.injEq] at h;omega
   ·simp only [Prod.mk.injEq] at h;omega
 ·simp only [Prod.mk.injEq] at h;omega
def bl (cs:List aQ) : List ByteArray:=cs.flatMap fun c=>c.Names
def aK (cs:List aQ) : List Int:=cs.flatMap fun c=>c.ab.map fun x=>x.At
structure yf (acc l:List ByteArray) : Prop where
 each:∀ (k:Nat) (h:k<l.length),gn l[k]=true∧l[k]∉acc++l.take k∧(0<k->eA (l[k-1]'(by omega)) l[k]=true)
def De (acc:List Int) (l:List Slab) : Prop := ∀ (k:Nat) (h:k<l.length),l[k].At∉acc++(l.take k).map fun x=>x.At
structure sP (s:ah) (i:Nat) (h:i<s.aa.length) : Prop where
 may:eV s s.aa[i]
 size:∀ (j:Nat) (hj:j<i),(s.aa[j]'(by omega)).aA≠s.aa[i].aA
 names:yf (bl (s.aa.take i)) s.aa[i].Names
 aD:De (aK (s.aa.take i)) s.aa[i].ab
structure aB (s:ah) : Prop where
 words:s.Words.length=4096
 heap:bJ s.Heap
 most:s.aa.length<=20
 each:∀ (i:Nat) (h:i<s.aa.length),sP s i h
noncomputable def fQ (s:ah) : Bool := @decide (aB s) (Classical.propDecidable _)
theorem nX (a:aB s) : fQ s=true:=by unfold fQ;exact @decide_eq_true _ (Classical.propDecidable _) a
theorem v5 (a : ¬ aB s) : fQ s=false:=by unfold fQ;exact @decide_eq_false _ (Classical.propDecidable _) a
theorem iM:fQ s=true↔aB s:=by
 by_cases a:aB s
 ·simp [nX a,a]
 ·simp [v5 a,a]
theorem rm (cs:List aQ) (i:Nat) (h:i<cs.length) : bl (cs.take (i+1))=bl (cs.take i)++cs[i].Names:=by
 unfold bl;rw [ac5 h,adi];simp
theorem rn (cs:List aQ) (i:Nat) (h:i<cs.length) : aK (cs.take (i+1))=aK (cs.take i)++cs[i].ab.map fun x=>x.At:=by
 unfold aK;rw [ac5 h,adi];simp
theorem LK {z:Int} (h1 : -18446744073709551616<z) (h2:z < -9223372036854775808) : IntKind.i64.wrap z=z+18446744073709551616:=by
 simp [IntKind.wrap,IntKind.bits,IntKind.signed];omega
theorem zt (r:dN) (t a:Int) (w:World) (hs : 1<=r.aA∧r.aA<=64) (hp : 1<=r.bK∧r.bK<=64) (ht : 0<=t∧t<=255) (ha : -9223372036854775808<=a∧a<=9223372036854775807) :
 bI prog 123 [.agg (fK r).toArray,.int .i64 t,.int .i64 a] w fun v _=>v = .bool (ic r.aA r.bK t a):=by
 refine aE func123 rfl ntmps123 rfl ?_;refine CW.seq (CW.region (SW.box rfl rfl fun b1 w1 hw lc aW => ?_));have hm:=QM (x:=r.bK) (y:=r.aA) (by omega) (by omega) (by omega) (by omega);unfold ic;by_cases dz:a-t*16 < -9223372036854775808
 ·have e:=LK (z:=a-t*16) (by omega) dz;rw [decide_eq_false (show ¬ 0<=a-t*16 by omega)];repeat' (first|refine Wz ?_|(refine SW.st ((xT rfl rfl).eq (congrArg (Value.int .i64) e)) rfl ?_))
  all_goals try omega
  exact ae.bj rfl rfl ⟨_,rfl,hw,rfl⟩
 ·by_cases h0 : 0<=a-t*16
  ·have e:(a-t*16).tmod r.aA=(a-t*16) % r.aA:=adE h0
   rw [decide_eq_true h0];by_cases h1:a-t*16<r.bK*r.aA
   ·rw [decide_eq_true h1];refine Wz ?_;all_goals try omega
    refine ae.bj rfl rfl ⟨_,rfl,hw,?_⟩;rw [e];rfl
   ·rw [decide_eq_false h1];refine Wz ?_;all_goals try omega
    exact ae.bj rfl rfl ⟨_,rfl,hw,rfl⟩
  ·rw [decide_eq_false h0];refine Wz ?_;all_goals try omega
   exact ae.bj rfl rfl ⟨_,rfl,hw,rfl⟩
theorem GH (a:Int) (b4 b5:Nat) (q:dN) (x:Slab) (w:World) (h4:aS w b4 107 (fK q)) (h5:aS w b5 111 (bf x))
 (hs : 1<=q.aA∧q.aA<=64) (hp : 1<=q.bK∧q.bK<=64) (ht : 0<=x.At∧x.At<=255) (ha : 0<=a∧a<9223372036854775807) :
 bI prog 155 ([.int .i64 a]++[.pointer (some ⟨b4,0,none⟩),.pointer (some ⟨b5,0,none⟩)]) w fun v _=>v = .bool (!ic q.aA q.bK x.At a):=by
 refine aE func155 rfl ntmps155 rfl ?_;have hw:=Ext.refl w;repeat' (first|refine Wz ?_|(refine Wk (zt q x.At a _ hs hp ht (by omega)) ?_;intro v w1 ai hv;subst hv;have hw:=hw.trans ai;clear ai))
 exact ae.bj rfl rfl ⟨_,rfl,hw,rfl⟩
def LL (lo:Nat) (ws:List Int) (size per:Int) (x:Slab) (v:Value) (w:World) : Prop :=
 (∃ out A k,bM ws size per x out∧v = .tuple #[.slice A out.length k,.bool true]∧Own w lo 3 1 bw A out.length k out∧out.length<=17592186044416) ∨
 ((∀ out,¬ bM ws size per x out)∧v = .tuple #[.slice none 0 0,.bool false])
theorem BE (r:db) (q:dN) (x:Slab) (ws:List Int) (w:World) (hl:Sl w 1 bw r.Words.A r.Words.n ws) (hn:r.Words.n*8<=140737488355328)
 (hs : 1<=q.aA∧q.aA<=64) (hp : 1<=q.bK∧q.bK<=64) (ht : 0<=x.At∧x.At<=255) :
 bI prog 124 [.agg (aP r).toArray,.agg (fK q).toArray,.agg (bf x).toArray] w fun v w'=>LL w.heap.size ws q.aA q.bK x v w':=by
 refine aE func124 rfl ntmps124 rfl ?_;refine CW.seq (CW.region (SW.box rfl rfl fun b3 w1 hw cg ap => ?_));refine SW.box rfl rfl fun b4 w2 bt fJ aH => ?_
 (obtain ⟨hw,ap⟩:=cX bt hw ap);refine SW.box rfl rfl fun b5 w3 nL gm aL => ?_
 (obtain ⟨hw,ap,aH⟩:=cj nL hw ap aH);refine Wz ?_;have dz:=hw.size;refine Wk (Gy _ _ _ _ _ _ _ (hl.ext hw) hn) fun v w4 ko hv => ?_
 obtain ⟨ZK,hF,hV⟩:=hv;(obtain ⟨hw,ap,aH,aL⟩:=dG ko hw ap aH aL);have Sb:=hl.len;rcases ZK with _|out
 ·subst hV;refine Wz ?_;refine ae.dj rfl rfl rfl ⟨_,rfl,hw,.inr ⟨fun o h => ?_,rfl⟩⟩;have:=hF.dm h.1
  cases this
 ·obtain ⟨A,k,rfl,hO,hlen⟩:=hV;have hO:=hO.low dz;by_cases m7:(out.length:Int)=x.aj
  ·have cC:∀ w',Ext w4 w'->bI prog 105 [.slice A out.length k,.func (.func 155) #[] [.pointer (some ⟨b4,0,none⟩),.pointer (some ⟨b5,0,none⟩)].toArray] w' fun v _=>v = .bool (out.any fun a => !ic q.aA q.bK x.At a):=fun w' hx =>
    iE _ _ _ _ _ (hO.sl.ext hx) _ [.pointer (some ⟨b4,0,none⟩),.pointer (some ⟨b5,0,none⟩)] (fun a => !ic q.aA q.bK x.At a) (fun x => .int .i64 x) (fun x=>rfl)
     (fun a ha w1 lf=>by
       have hm:=hF.mem (by simp) out rfl a ha;exact GH a b4 b5 q x w1 ((aH.ext hx).ext lf) ((aL.ext hx).ext lf) hs hp ht ⟨hm.1,by omega⟩) (by omega)
   have ZL:=Ext.refl w4;repeat' (first|refine Wz ?_|(refine SW.st (jg (vs:=[.pointer (some ⟨b4,0,none⟩),.pointer (some ⟨b5,0,none⟩)]) rfl) rfl ?_))
   refine Wk (cC _ ZL) fun v w5 ox hv => ?_
   (obtain ⟨hw,hO⟩:=cX ox hw hO);subst hv;cases iC:out.any fun a => !ic q.aA q.bK x.At a
   ·refine Wz ?_;refine ae.dj rfl rfl rfl ⟨_,rfl,hw,.inl ⟨out,A,k,⟨hF,m7,fun a ha => ?_⟩,rfl,hO,hlen⟩⟩;rw [ado] at iC;simpa using iC a ha
   ·refine Wz ?_;refine ae.dj rfl rfl rfl ⟨_,rfl,hw,.inr ⟨fun o h => ?_,rfl⟩⟩;obtain ⟨a,ha,XW⟩:=ade.1 iC;have e:=hF.dm h.1;injection e with e
    subst e;rw [h.2.2 a ha] at XW;cases XW
  ·refine Wz ?_;all_goals try omega
   refine ae.dj rfl rfl rfl ⟨_,rfl,hw,.inr ⟨fun o h => ?_,rfl⟩⟩;have e:=hF.dm h.1;injection e with e
   subst e;exact m7 h.2.1
def v7 (y:du) (x:aR) : Prop:=y.fV=x.fV∧y.ak=x.ak∧y.Ty=x.Ty
theorem Qv.key {r:du} {l:aR} (h:Qv w r l) : v7 r l:=⟨h.cpu,h.kh,h.ty⟩
theorem v8 (r:ju) (L:List aR) (ls:List du) (x:aR) (y:du) (w:World) (hl:y5 w r.av ls L) (hk:v7 y x) (hn:r.av.n<=1000000000000000000) :
 bI prog 99 [.agg (dC r).toArray,.agg (ck y).toArray] w fun v _=>v = .tuple #[.int .i64 (bu L x:Int),.bool (dx L x)]:=by
 refine aE func99 rfl ntmps99 rfl ?_;refine CW.seq (CW.region (SW.box rfl rfl fun b2 w1 hw fk au => ?_));refine SW.box rfl rfl fun b3 w2 bt cg ap => ?_
 (obtain ⟨hw,au⟩:=cX bt hw au);obtain ⟨l1,l2⟩:=hl.len;have hA:=hl.row.base;refine Wz ?_
 refine CW.loop (fun i:Nat=>[(2,.pointer (some ⟨b2,0,none⟩)),(3,.pointer (some ⟨b3,0,none⟩)),(6,.int .i64 (i:Int))])
  (fun i w'=>i<=r.av.n∧Ext w w'∧aS w' b2 41 (dC r)∧aS w' b3 159 (ck y) ∧ ∀ (k:Nat) (h:k<L.length),k<i->da L[k] x) (fun i=>r.av.n-i) 0
  ⟨rfl,rfl,rfl,trivial⟩ ⟨by omega,hw,au,ap,fun k h h'=>by omega⟩ ?_
 clear hw au ap;rintro i w' ⟨hi,hw,au,ap,hI⟩
 by_cases cQ:i<r.av.n
 ·have rI:i<L.length:=by omega
  have Bb:i<ls.length:=by omega
  have XX:=hl.each.get i Bb rI;obtain ⟨q,hq⟩ : ∃ q,decide (da L[i] x)=q:=⟨_,rfl⟩;obtain ⟨p,hp⟩ : ∃ p,decide (da x L[i])=p:=⟨_,rfl⟩
  have cL:∀ w',bI prog 144 [.agg (ck ls[i]).toArray,.agg (ck y).toArray] w' fun v _=>v = .bool q:=fun w'=>by
   have:=vY ls[i] y L[i] x w' XX.key hk
   rwa [hq] at this
  have cR:∀ w',bI prog 144 [.agg (ck y).toArray,.agg (ck ls[i]).toArray] w' fun v _=>v = .bool p:=fun w'=>by
   have:=vY y ls[i] x L[i] w' hk XX.key
   rwa [hp] at this
  cases q
  ·have oD:=of_decide_eq_false hq;have ek:bu L x=i:=vV (by omega) hI (fun _=>oD)
   have eh:dx L x = !p:=by
    unfold dx;simp only [ek,dif_pos rI,<- hp];rcases BB L[i] x with e|e|e
    ·exact absurd e oD
    ·have : ¬ da x L[i]:=by unfold da iZ at *;omega
     simp [e,this]
    ·have:=(Jo e).2.1
     simp [e,this]
   rw [ek,eh];cases p
   all_goals
    repeat' (first|refine Wz ?_|((apply CW.bF mixed;(· kernel_rfl);rotate_left;intro w1 ai;obtain ⟨hw,au,ap⟩:=cj ai hw au ap;clear ai;rotate_right))|refine Wo hw ((hl.row.all cQ)) ?_|refine SW.dF rfl rfl (fun w1 ai=>(cL _)) ?_|refine SW.dF rfl rfl (fun w1 ai=>(cR _)) ?_|exact SW.eI rfl)
    exact ae.dj rfl rfl rfl ⟨_,rfl,hw,rfl⟩
  ·have VJ:=of_decide_eq_true hq;repeat' (first|refine Wz ?_|((apply CW.bF mixed;(· kernel_rfl);rotate_left;intro w1 ai;obtain ⟨hw,au,ap⟩:=cj ai hw au ap;clear ai;rotate_right))|refine Wo hw ((hl.row.all cQ)) ?_|refine SW.dF rfl rfl (fun w1 ai=>(cL _)) ?_|exact SW.eI rfl)
   exact ae.again (i+1) ⟨rfl,rfl,rfl,trivial⟩ (by omega) ⟨by omega,hw,au,ap,fun k h h'=>by
    by_cases e:k=i
    ·subst e;exact VJ
    ·exact hI k h (by omega)⟩
 ·have ek:bu L x=i:=vV (by omega) hI (fun h=>by omega)
  have eh:dx L x=false:=by unfold dx;rw [dif_neg (by omega)]
  rw [ek,eh];repeat' (first|refine Wz ?_|((apply CW.bF mixed;(· kernel_rfl);rotate_left;intro w1 ai;obtain ⟨hw,au,ap⟩:=cj ai hw au ap;clear ai;rotate_right))|exact SW.eI rfl)
  exact ae.dj rfl rfl rfl ⟨_,rfl,hw,rfl⟩
theorem r8 (A:Option Addr) (n c:Nat) (l:List Block) (a:Int) (w:World) (hl:Sl w 3 aO A n l) (f:FuncId) [Body prog f] (cv:Block->Int) (hf:∀ x∈l,∀ w',Ext w w'->bI prog f ([.agg (aO x).toArray,.int .i64 a]++[]) w' fun v _=>v = .int .i64 (cv x))
 (bL:∀ x∈l,cv x≠0) (hn:n<=1000000000000000000) : bI prog 111 [.slice A n c,.int .i64 a,.func (.func f) #[] #[]] w fun v _ => ∃ i:Nat,v = .tuple #[.int .i64 (i:Int),.bool false]:=by
 refine aE func111 rfl ntmps111 rfl ?_;have hw:=Ext.refl w;have hA:=hl.base;have mv:=hl.len;refine Wz ?_
 refine CW.loop (fun s:Nat×Nat=>[(0,.slice A n c),(1,.int .i64 a),(2,.func (.func f) #[] #[]),(8,.int .i64 (n:Int)),(9,.int .i64 (s.1:Int)),(10,.int .i64 (s.2:Int))])
  (fun s w'=>s.1<=s.2∧s.2<=n∧Ext w w') (fun s=>s.2-s.1) (0,n)
  ⟨rfl,rfl,rfl,rfl,rfl,rfl,trivial⟩ ⟨by omega,by omega,hw⟩ ?_
 clear hw;rintro ⟨i,j⟩ w' ⟨o9,pB,hw⟩
 simp only at o9 pB ⊢;by_cases eQ:i<j
 ·have hk:(i+j) / 2<n:=by omega
  have iw:=hl.lt hk;have wR:=fun w1 h1=>hf (l[(i+j) / 2]) (ac0 iw) w1 h1
  repeat' (first|refine Wz ?_|refine Wo hw ((hl.all hk)) ?_|(refine SW.st ((mA Tryz.underlying3 my rfl).eq (congrArg (Value.int .u64) (wrap_u64 (by omega) (by omega)))) rfl ?_)|(refine SW.st ((mA my Tryz.underlying3 rfl).eq (congrArg (Value.int .i64) (jf (by omega) (by omega)))) rfl ?_)|(refine SW.st (xY rfl rfl) rfl ?_))
  refine SW.uI (cap:=[]) rfl rfl rfl (wR _ hw) fun v w1 ai hv => ?_
  subst hv;have hw:=hw.trans ai;by_cases SO:cv l[(i+j) / 2]<0
  ·refine Wz ?_;exact ae.again ((i+j) / 2+1,j) ⟨rfl,rfl,rfl,rfl,congrArg (fun z=>some (Value.int .i64 z)) (by omega),rfl,trivial⟩ (by simp only;omega) ⟨by simp only;omega,pB,hw⟩
  ·refine Wz ?_;exact ae.again (i,(i+j) / 2) ⟨rfl,rfl,rfl,rfl,rfl,congrArg (fun z=>some (Value.int .i64 z)) (by omega),trivial⟩ (by simp only;omega) ⟨by simp only;omega,by simp only;omega,hw⟩
 ·obtain rfl:i=j:=by omega
  by_cases cQ:i<n
  ·have iw:=hl.lt cQ;have wR:=fun w1 h1=>hf (l[i]) (ac0 iw) w1 h1
   have h0:=bL (l[i]) (ac0 iw);repeat' (first|refine Wz ?_|refine Wo hw ((hl.all cQ)) ?_)
   refine SW.uI (cap:=[]) rfl rfl rfl (wR _ hw) fun v w1 ai hv => ?_
   subst hv;have hw:=hw.trans ai;refine Wz ?_;refine ae.dj rfl rfl rfl ⟨_,rfl,hw,i,?_⟩;rw [decide_eq_false h0]
  ·refine Wz ?_;exact ae.dj rfl rfl rfl ⟨_,rfl,hw,i,rfl⟩
theorem r9 (x:Block) (a:Int) (w:World) : bI prog 112 ([.agg (aO x).toArray,.int .i64 a]++[]) w fun v _=>v = .int .i64 (IntKind.i64.wrap (x.At-a)):=by
 refine aE func112 rfl ntmps112 rfl ?_;refine CW.seq (CW.region (SW.box rfl rfl fun b1 w1 hw lc aW => ?_));repeat' (first|refine Wz ?_|(refine SW.st (xT rfl rfl) rfl ?_))
 exact ae.bj rfl rfl ⟨_,rfl,hw,rfl⟩
theorem wrap_zero {z:Int} (h1 : -18446744073709551616<z) (h2:z<18446744073709551616) (h:IntKind.i64.wrap z=0) : z=0:=by
 simp [IntKind.wrap,IntKind.bits,IntKind.signed] at h;omega
def Ii (l:List Block) (a:Int) (v:Value) : Prop:=(bO l a=true->v = .tuple #[.int .i64 (bE l a:Int),.bool true])∧(bO l a=false -> ∃ i:Nat,v = .tuple #[.int .i64 (i:Int),.bool false])
theorem Js (r:ju) (l:List Block) (a:Int) (w:World) (hl:Sl w 3 aO r.Live.A r.Live.n l) (hu:l.Pairwise fun x y=>x.At<y.At) (hb:∀ b∈l,0<=b.At∧b.At<=255) (hn:r.Live.n<=1000000000000000000) (ha : -9223372036854775808<=a∧a<=9223372036854775807) :
 bI prog 65 [.agg (dC r).toArray,.int .i64 a] w fun v _=>Ii l a v:=by
 refine aE func65 rfl ntmps65 rfl ?_;refine CW.seq (CW.region (SW.box rfl rfl fun b1 w1 hw lc aW => ?_));refine Wz ?_;by_cases cQ : -1000000<=a∧a<=1000000
 ·refine Wk (jv _ _ _ _ a _ (hl.ext hw) _ (fun x hx w' _=>by
   have:=r9 x a w'
   have h:=hb x hx;rwa [jf (by omega) (by omega)] at this) hu hn) fun v w2 bt hv => ?_
  subst hv;have hw:=hw.trans bt;refine Wz ?_;refine ae.dj rfl rfl rfl ⟨_,rfl,hw,?_⟩;exact ⟨fun h=>by rw [h];rfl,fun h=>⟨bE l a,by rw [h];rfl⟩⟩
 ·have hf:bO l a=false:=by
   unfold bO;split
   ·rename_i h;have:=hb _ (ac0 h)
    exact decide_eq_false (by omega)
   ·rfl
  refine Wk (r8 _ _ _ _ a _ (hl.ext hw) _ (fun x=>IntKind.i64.wrap (x.At-a)) (fun x hx w' _=>r9 x a w') (fun x hx h0=>by
   have h:=hb x hx;have:=wrap_zero (by omega) (by omega) h0
   omega) hn) fun v w2 bt hv => ?_
  obtain ⟨i,rfl⟩:=hv;have hw:=hw.trans bt;refine Wz ?_;refine ae.dj rfl rfl rfl ⟨_,rfl,hw,?_⟩;exact ⟨fun h=>absurd (hf.symm.trans h) (by simp),fun _=>⟨i,rfl⟩⟩
theorem wZ (x:Block) (a:Int) (w:World) : bI prog 136 ([.agg (aO x).toArray,.int .i64 a]++[]) w fun v _=>v = .int .i64 (IntKind.i64.wrap (x.At-a)):=by
 refine aE func136 rfl ntmps136 rfl ?_;refine CW.seq (CW.region (SW.box rfl rfl fun b1 w1 hw lc aW => ?_));repeat' (first|refine Wz ?_|(refine SW.st (xT rfl rfl) rfl ?_))
 exact ae.bj rfl rfl ⟨_,rfl,hw,rfl⟩
theorem Ey (A:Option Addr) (n c:Nat) (l:List Block) (a:Int) (w:World) (hl:Sl w 3 aO A n l) (hu:l.Pairwise fun x y=>x.At<y.At) (hb:∀ b∈l,0<=b.At∧b.At<=255) (hn:n<=1000000000000000000) (ha : -9223372036854775808<=a∧a<=9223372036854775807) :
 bI prog 111 [.slice A n c,.int .i64 a,.func (.func 136) #[] #[]] w fun v _=>Ii l a v:=by
 by_cases cQ : -1000000<=a∧a<=1000000
 ·refine (jv _ _ _ _ a _ hl _ (fun x hx w' _=>by
   have:=wZ x a w'
   have h:=hb x hx;rwa [jf (by omega) (by omega)] at this) hu hn).mono fun v w2 bt hv => ?_
  subst hv;exact ⟨fun h=>by rw [h],fun h=>⟨bE l a,by rw [h]⟩⟩
 ·have hf:bO l a=false:=by
   unfold bO;split
   ·rename_i h;have:=hb _ (ac0 h)
    exact decide_eq_false (by omega)
   ·rfl
  refine (r8 _ _ _ _ a _ hl _ (fun x=>IntKind.i64.wrap (x.At-a)) (fun x hx w' _=>wZ x a w') (fun x hx h0=>by
   have h:=hb x hx;have:=wrap_zero (by omega) (by omega) h0
   omega) hn).mono fun v w2 bt hv => ?_
  obtain ⟨i,rfl⟩:=hv;exact ⟨fun h=>absurd (hf.symm.trans h) (by simp),fun _=>⟨i,rfl⟩⟩
theorem Jt (x:Slab) (b3:Nat) (t:Int) (w:World) (h3:aS w b3 3 [.int .i64 t]) :
 bI prog 159 ([.agg (bf x).toArray]++[.pointer (some ⟨b3,0,none⟩)]) w fun v _=>v = .bool (xD t x):=by
 refine aE func159 rfl ntmps159 rfl ?_;refine CW.seq (CW.region (SW.box rfl rfl fun b1 w1 hw lc aW => ?_));have h3:=h3.ext hw;have PG:=h3.cell (i:=0) (v := .int .i64 t) rfl;rw [add_zero] at PG;repeat' (first|refine Wz ?_|refine Wl PG ?_)
 exact ae.bj rfl rfl ⟨_,rfl,hw,rfl⟩
theorem Ez (q:dN) (l:List Slab) (t:Int) (w:World) (hl:Sl w 3 bf q.ab.A q.ab.n l) (hn:q.ab.n<=9223372036854775807) :
 bI prog 137 [.agg (fK q).toArray,.int .i64 t] w fun v _=>v = .int .i64 (idxOf (xD t) l):=by
 refine aE func137 rfl ntmps137 rfl ?_;refine CW.seq (CW.region (SW.box rfl rfl fun b2 w1 hw fk au => ?_));refine SW.Lh rfl rfl rfl fun b3 w2 bt cg ap => ?_
 (obtain ⟨hw,au⟩:=cX bt hw au);repeat' (first|refine Wz ?_|(refine SW.st (jg (vs:=[.pointer (some ⟨b3,0,none⟩)]) rfl) rfl ?_))
 refine Wk (ln _ _ _ _ _ (hl.ext hw) _ [.pointer (some ⟨b3,0,none⟩)] (xD t) (fun x => .agg (bf x).toArray) (fun x=>rfl) (fun x _ w1 lf=>Jt x b3 t w1 (ap.ext lf)) hn) fun v w4 ko hv => ?_
 subst hv;have hw:=hw.trans ko;refine Wz ?_;exact ae.bj rfl rfl ⟨_,rfl,hw,rfl⟩
theorem BF {x:Int} {f:FuncId} {n e:Int} (h:bI prog f [.int .i64 x] w fun v _=>v=oL x) (hE:dl x=(o,n,e)) : bI prog f [.int .i64 x] w fun v _=>v = .tuple #[.int .i64 o,.int .i64 n,.int .i64 e]:=by
 refine h.mono fun v w' _ hv => ?_
 rw [hv,oL,hE]
set_option maxHeartbeats 4000000 in
theorem Ju (r:db) (s:ah) (q:dN) (c:aQ) (w:World) (hr:AM w r s) (hq:Gu w q c) (hs:s.small) (lJ:c.small) (hH:bJ s.Heap) (kX:∀ x∈c.ab,-9223372036854775808<=x.At∧x.At<=9223372036854775807) :
 bI prog 82 [.agg (aP r).toArray,.agg (fK q).toArray] w fun v _=>v = .bool (ph s c):=by
 refine aE func82 rfl ntmps82 rfl ?_;refine CW.seq (CW.region (SW.box rfl rfl fun b2 w1 hw fk au => ?_));refine SW.box rfl rfl fun b3 w2 bt cg ap => ?_
 (obtain ⟨hw,au⟩:=cX bt hw au);obtain ⟨o,n,e,hE⟩ : ∃ o n e,dl c.aA=(o,n,e):=⟨_,_,_,rfl⟩;have eS:=hq.size;have eP:=hq.per;have eO:=hq.order;have n1:=hq.names.len;have n2:=hq.aD.len;have n3:=hq.aZ.len;have m1:=lJ.names;have m2:=lJ.aD;have m3:=lJ.aZ;have eC:=hr.heap.cpus;have wl:=hr.words.len;have m4:=hs.words;have mv:=hr.heap.live.len;have m5:=hs.heap.live;have N3:=hq.cap;have cL:∀ w',bI prog 53 [.int .i64 q.aA] w' fun v _=>v = .tuple #[.int .i64 o,.int .i64 n,.int .i64 e]:=fun w'=>BF (y8 q.aA w') (by rw [eS];exact hE)
 rcases (show ¬ (e=0∧c.Order=o∧c.bK=n∧0<c.Names.length∧(c.ao.length:Int)=s.Heap.bG)∨(e=0∧c.Order=o∧c.bK=n∧0<c.Names.length∧(c.ao.length:Int)=s.Heap.bG) by omega) with xC|⟨h1,h2,h3,h4,h5⟩
 ·have hF:ph s c=false:=nW fun hm=>xC (by
   have:=hm.lay
   rw [hE] at this;simp only [Prod.mk.injEq] at this;exact ⟨this.2.2,this.1.symm,this.2.1.symm,hm.names,hm.aZ⟩)
  rw [hF];rcases (show e≠0∨(e=0∧c.Order≠o)∨(e=0∧c.Order=o∧c.bK≠n)∨(e=0∧c.Order=o∧c.bK=n∧c.Names.length=0)∨(e=0∧c.Order=o∧c.bK=n∧0<c.Names.length∧(c.ao.length:Int)≠s.Heap.bG) by omega) with g|g|g|g|g
  all_goals
   repeat' (first|refine Wz ?_|(refine Wk (cL _) ?_;intro v w1 ai hv;subst hv;obtain ⟨hw,au,ap⟩:=cj ai hw au ap;clear ai))
   all_goals try omega
   exact ae.bj rfl rfl ⟨_,rfl,hw,rfl⟩
 ·subst h1;have LM:dl c.aA=(c.Order,c.bK,0):=by rw [hE,h2,h3]
  obtain ⟨l1,l2,l3⟩:=cd hE;have eQ:=kE hH.live
  have NG:∀ b∈s.Heap.Live,0<=b.At∧b.At<=255:=fun b hb=>by
   obtain ⟨i,hi,rfl⟩:=ac1 hb;exact (hH.live.each i hi).2.1
  repeat' (first|refine Wz ?_|(refine Wk (cL _) ?_;intro v w1 ai hv;subst hv;obtain ⟨hw,au,ap⟩:=cj ai hw au ap;clear ai))
  all_goals try omega
  clear cL
  refine CW.loop (fun k:Nat=>[(2,.pointer (some ⟨b2,0,none⟩)),(3,.pointer (some ⟨b3,0,none⟩)),(5,.int .i64 o),(53,.slice q.ab.A q.ab.n q.ab.c),(54,.int .i64 (q.ab.n:Int)),(55,.int .i64 (k:Int))])
   (fun k w'=>k<=q.ab.n∧Ext w w'∧aS w' b2 44 (aP r)∧aS w' b3 107 (fK q) ∧ ∀ (i:Nat) (h:i<c.ab.length),i<k->uZ s c i h) (fun k=>q.ab.n-k) 0
   ⟨rfl,rfl,rfl,rfl,rfl,rfl,trivial⟩ ⟨by omega,hw,au,ap,fun i h h'=>by omega⟩ ?_
  clear hw au ap;rintro k w' ⟨hk,hw,au,ap,hI⟩
  have hA:=hq.aD.base;by_cases gh:k<q.ab.n
  ·have iw:k<c.ab.length:=by omega
   repeat' (first|refine Wz ?_|refine Wo hw ((hq.aD.all gh)) ?_)
   refine SW.alloc rfl fun b9 w1 ai nQ bD => ?_
   refine Wz ?_;refine SW.ag bD rfl rfl rfl rfl (im.one (enc:=bf) _) fun w2 jM hg => ?_
   have ar:=ai.own nQ hg;have rU:=hw.up nQ
   obtain ⟨hw,au,ap⟩:=cj ar hw au ap;have bD:=jM;clear jM ai hg ar;refine Wz ?_;refine Wk (Ey _ _ _ _ _ _ (hr.heap.live.ext hw) eQ NG (by omega) (kX _ (ac0 iw))) fun v w4 ko hv => ?_
   (obtain ⟨hw,au,ap,bD⟩:=dG ko hw au ap bD);cases LN:bO s.Heap.Live c.ab[k].At
   ·obtain ⟨j,rfl⟩:=hv.2 LN
    have hF:ph s c=false:=nW fun hm=>by
     have:=(hm.aD k iw).live
     rw [Dd LN] at this;omega
    rw [hF];repeat' (first|refine Wz ?_|((apply CW.bF mixed;(· kernel_rfl);rotate_left;intro w1 ai;obtain ⟨hw,au,ap,bD⟩:=dG ai hw au ap bD;clear ai;rotate_right))|refine SW.skip rfl rfl rfl rfl ?_|exact SW.eI rfl)
    exact ae.bj rfl rfl ⟨_,rfl,hw,rfl⟩
   ·have tp:=hv.1 LN;subst tp;obtain ⟨DU,ZM⟩:=jx LN;have VK:=zp LN DU;obtain ⟨m,em⟩ : ∃ m,bE s.Heap.Live c.ab[k].At=m:=⟨_,rfl⟩;simp only [em] at DU ZM VK hv ⊢;have XY:m<r.Heap.Live.n:=by omega
    have XZ:=hr.heap.live.base;have gO:=hr.heap.live.jL XY (j:=1) (u := .int .i64 s.Heap.Live[m].Order) rfl
    have ht : 0<=c.ab[k].At∧c.ab[k].At<=255:=by
     have:=NG _ (ac0 DU)
     omega
    have hS : 1<=q.aA∧q.aA<=64:=by omega
    have hP : 1<=q.bK∧q.bK<=64:=by omega
    by_cases xy:s.Heap.Live[m].Order=o
    ·by_cases NH : 0<k->(c.ab[k-1]'(by omega)).At<c.ab[k].At
     ·rcases adj k with AI|AI
      all_goals
       first
       | (have gP:=hq.aD.jL (show k-1<q.ab.n by omega) (j:=0) (u := .int .i64 (c.ab[k-1]'(by omega)).At) rfl
          have AR:=NH AI)
       | skip
      all_goals
       repeat' (first|refine Wz ?_|((apply CW.bF mixed;(· kernel_rfl);rotate_left;intro w1 ai;obtain ⟨hw,au,ap,bD⟩:=dG ai hw au ap bD;clear ai;rotate_right))|refine SW.want rfl rfl ?_|refine SW.st (cm (k-1) rfl rfl (by assumption) (by omega) (by omega)) rfl ?_|refine Wn hw gO ?_|refine Wn hw gP ?_|exact SW.eI rfl)
       all_goals try omega
       refine Wk (BE r q c.ab[k] s.Words _ (hr.words.ext hw) (by omega) hS hP ht) fun v w5 ox EA => ?_
       (obtain ⟨hw,au,ap⟩:=cj ox hw au ap);rw [eS,eP] at EA;rcases EA with ⟨out,A5,c5,hC,rfl,_,_⟩|⟨oD,rfl⟩
       ·repeat' (first|refine Wz ?_|(refine CW.fU rfl ?_))
        exact ae.again (k+1) ⟨rfl,rfl,rfl,rfl,rfl,rfl,trivial⟩ (by omega) ⟨by omega,hw,au,ap,fun i h h'=>by
         by_cases ei:i=k
         ·subst ei;exact ⟨by omega,NH,⟨out,hC⟩⟩
         ·exact hI i h (by omega)⟩
       ·rw [nW fun hm=>(hm.aD k iw).chain.elim oD];repeat' (first|refine Wz ?_|(refine CW.gj rfl ?_))
        exact ae.bj rfl rfl ⟨_,rfl,hw,rfl⟩
     ·have AI : 0<k:=by
       rcases adj k with h|h
       ·exact absurd (fun h'=>by omega) NH
       ·exact h
      have Lb : ¬ (c.ab[k-1]'(by omega)).At<c.ab[k].At:=fun h=>NH fun _=>h
      have gP:=hq.aD.jL (show k-1<q.ab.n by omega) (j:=0) (u := .int .i64 (c.ab[k-1]'(by omega)).At) rfl;rw [nW fun hm=>Lb ((hm.aD k iw).next AI)];repeat' (first|refine Wz ?_|((apply CW.bF mixed;(· kernel_rfl);rotate_left;intro w1 ai;obtain ⟨hw,au,ap,bD⟩:=dG ai hw au ap bD;clear ai;rotate_right))|refine SW.want rfl rfl ?_|refine SW.st (cm (k-1) rfl rfl (by assumption) (by omega) (by omega)) rfl ?_|refine Wn hw gO ?_|refine Wn hw gP ?_|exact SW.eI rfl)
      all_goals try omega
      exact ae.bj rfl rfl ⟨_,rfl,hw,rfl⟩
    ·rw [nW fun hm=>xy (by have:=(hm.aD k iw).live;omega)];repeat' (first|refine Wz ?_|((apply CW.bF mixed;(· kernel_rfl);rotate_left;intro w1 ai;obtain ⟨hw,au,ap,bD⟩:=dG ai hw au ap bD;clear ai;rotate_right))|refine SW.want rfl rfl ?_|refine Wn hw gO ?_|exact SW.eI rfl)
     all_goals try omega
     exact ae.bj rfl rfl ⟨_,rfl,hw,rfl⟩
  ·have fe:∀ (i:Nat) (h:i<c.ab.length),uZ s c i h:=fun i h=>hI i h (by omega)
   refine Wz ?_;clear hI gh hk hA
   refine CW.loop (fun k:Nat=>[(3,.pointer (some ⟨b3,0,none⟩)),(109,.slice q.ao.A q.ao.n q.ao.c),(110,.int .i64 (q.ao.n:Int)),(111,.int .i64 (k:Int))])
    (fun k w'=>k<=q.ao.n∧Ext w w'∧aS w' b3 107 (fK q) ∧ ∀ (i:Nat) (h:i<c.ao.length),i<k->tZ c i h) (fun k=>q.ao.n-k) 0
    ⟨rfl,rfl,rfl,rfl,trivial⟩ ⟨by omega,hw,ap,fun i h h'=>by omega⟩ ?_
   clear hw ap au;rintro k w' ⟨hk,hw,ap,hI⟩
   have hA:=hq.aZ.base;by_cases gh:k<q.ao.n
   ·have iw:k<c.ao.length:=by omega
    obtain ⟨a,ea⟩ : ∃ a,c.ao[k]=a:=⟨_,rfl⟩;have gA:=hq.aZ.one gh (u := .int .i64 a) (by rw [<- ea];rfl);by_cases ha:a = -1
    ·repeat' (first|refine Wz ?_|refine Wn hw gA ?_)
     exact ae.again (k+1) ⟨rfl,rfl,rfl,rfl,trivial⟩ (by omega) ⟨by omega,hw,ap,fun i h h'=>by
      by_cases ei:i=k
      ·subst ei;exact .inl (by omega)
      ·exact hI i h (by omega)⟩
    ·have cN:∀ w',Ext w w'->bI prog 125 [.slice q.ao.A k q.ao.c,.int .i64 a] w' fun v _=>v = .bool (decide (a∈c.ao.take k)):=fun w' hx=>g7 _ _ _ _ _ _ ((hq.aZ.ext hx).pre (show k<=q.ao.n by omega)) (by omega)
     obtain ⟨z,hz⟩ : ∃ z,idxOf (xD a) c.ab=z:=⟨_,rfl⟩;have sQ:=mx (xD a) c.ab;rw [hz] at sQ
     have cF:∀ w',Ext w w'->bI prog 137 [.agg (fK q).toArray,.int .i64 a] w' fun v _=>v = .int .i64 z:=fun w' hx=>by
      have:=Ez q c.ab a w' (hq.aD.ext hx) (by omega)
      rwa [hz] at this
     have PH:(a∈c.ao.take k ∨ ¬ 0<=z)->ph s c=false:=fun h=>nW fun hm=>by
      rcases hm.dq k iw with g|⟨g1,g2⟩
      ·omega
      ·rw [ea] at g1 g2;rcases h with h|h
       ·exact g1 h
       ·rw [g2] at sQ;exact h (of_decide_eq_true sQ)
     by_cases mS:a∈c.ao.take k
     ·rw [decide_eq_true mS] at cN;rw [PH (.inl mS)];repeat' (first|refine Wz ?_|refine Wn hw gA ?_|(refine Wk (cN _ hw) ?_;intro v w1 ai hv;subst hv;obtain ⟨hw,ap⟩:=cX ai hw ap;clear ai)|(refine SW.st (dk (k:=k) rfl rfl (by omega)) rfl ?_))
      all_goals try omega
      exact ae.bj rfl rfl ⟨_,rfl,hw,rfl⟩
     ·rw [decide_eq_false mS] at cN;by_cases LI : 0<=z
      ·repeat' (first|refine Wz ?_|refine Wn hw gA ?_|((first|refine Wk (cN _ hw) ?_|refine Wk (cF _ hw) ?_);intro v w1 ai hv;subst hv;obtain ⟨hw,ap⟩:=cX ai hw ap;clear ai)|(refine SW.st (dk (k:=k) rfl rfl (by omega)) rfl ?_))
       all_goals try omega
       exact ae.again (k+1) ⟨rfl,rfl,rfl,rfl,trivial⟩ (by omega) ⟨by omega,hw,ap,fun i h h'=>by
        by_cases ei:i=k
        ·subst ei;exact .inr ⟨by rw [ea];exact mS,by rw [ea,<- sQ];exact decide_eq_true LI⟩
        ·exact hI i h (by omega)⟩
      ·rw [PH (.inr LI)];repeat' (first|refine Wz ?_|refine Wn hw gA ?_|((first|refine Wk (cN _ hw) ?_|refine Wk (cF _ hw) ?_);intro v w1 ai hv;subst hv;obtain ⟨hw,ap⟩:=cX ai hw ap;clear ai)|(refine SW.st (dk (k:=k) rfl rfl (by omega)) rfl ?_))
       all_goals try omega
       exact ae.bj rfl rfl ⟨_,rfl,hw,rfl⟩
   ·rw [zq ⟨LM,h4,h5,fe,fun i h=>hI i h (by omega)⟩];refine Wz ?_;exact ae.bj rfl rfl ⟨_,rfl,hw,rfl⟩
open Go.RowKit Go.Maps
variable {keys:List Lit} {kl:Lit} {d:Nat} {y:Operand} {g:Option (Nat×Bool)} {row:Option Nat} {P:Program} {e t:TypeId}
structure pM (w:World) (P:Program) (k e:TypeId) (b:Nat) (keys:List Lit) : Prop where
 own:w.ownsMap (H:=Unit) P k (plainElem P e) b keys.length (setOf (.lit (.bool true)) keys)
 ok:∀ x∈keys,WideAt.IsKeyLit x
theorem pM.ext {k:TypeId} (h:pM w P k e b keys) (hx:Ext w w') : pM w' P k e b keys:=⟨h.own.kept (row:=none) ⟨hx.os,hx.tape,hx.output,hx.size,fun i hi _=>hx.block i hi⟩ (by simp),h.ok⟩
theorem pM.grown {k:TypeId} (h:pM w P k e b keys) (hg:w.grownBy w' row) (bL:some b≠row) : pM w' P k e b keys:=⟨h.own.kept hg bL,h.ok⟩
theorem pM.lt {k:TypeId} (h:pM w P k e b keys) : b<w.heap.size:=h.own.lt
theorem zu (u z:DataW Unit) (k:Lit) : ∀ (acc:List Lit) (m:DataW Unit),IsMap m->(∀ x∈acc,WideAt.IsKeyLit x)->(acc.foldl (fun m x=>m.put x u) m).atKey k z=if acc.any (fun x=>x.sameKey k) then u else m.atKey k z
 | [],m,_,_=>by simp
 | x::r,m,hm,h=>by
   rw [List.foldl_cons,zu u z k r (m.put x u) (hm.put x u) (fun y hy=>h y (by simp [hy])),List.any_cons];by_cases e:k=x
   ·subst e;rw [atKey_put_same hm (h k (by simp)),WideAt.sameKey_self (h k (by simp))];simp
   ·rw [atKey_put_other e,sameKey_ne (fun e'=>e e'.symm)];simp
theorem Jv (k:Lit) (acc:List Lit) (h:∀ x∈acc,WideAt.IsKeyLit x) : (setOf (.lit (.bool true)) acc:DataW Unit).atKey k (.lit (.bool false)) = .lit (.bool (acc.any fun x=>x.sameKey k)):=by
 rw [setOf,zu _ _ k acc _ isMap_empty h];cases acc.any fun x=>x.sameKey k<;>rfl
section
variable {P:Program} {n:Nat} {ops:Array Oper} {Q:Exit->Act->World->Prop} {rest:List Oper} {L:Env} {w:World} {T:TypeId} {pos:String} {af:Array Edge}
theorem SW.makeMap (k e:TypeId) (hn:Nat.blt d n=true) (h:∀ b w',Ext w w'->w.heap.size<=b->pM w' P k e b []->SW P n ops (.gL Q) rest ((d,.map (some b))::L) w') :
 SW P n ops (.gL Q) (⟨some d,.makeMap t none,T,pos,af,none⟩::rest) L w :=
 ⟨fun a ha=>by
  simp only [swp,wpList,Region.wanted,if_true];refine .inl ?_;unfold Oper.wp
  have:(execOp a.eval ⟨some d,.makeMap t none,T,pos,af,none⟩).run P w = .ok (.value (.map (some w.heap.size))) (w.alloc (.map #[] 0)):=by
   simp [execOp,run_makeMap]
  rw [this,Oper.upon_value];exact (h _ _ (Ext.alloc w _) (ac3 _) ⟨World.ownsMap_made w P k _,fun x hx=>by simp at hx⟩).out _ (ha.put hn _)⟩
theorem zv {d:Option Nat} {k:TypeId} {m x:Operand} {key:Value} (hB:pM w P k e b keys) (K:Keyed P k) (ht:P.underlying t=some (.map k e)) (he:P.underlying e=some .bool) (hz:∀ w,(zeroValue e).run P w = .ok (.bool false) w)
 (hm:cK L m=some (.map (some b))) (hx:cK L x=some key) (qJ:Go.keyOf P k key=some kl) : St P ⟨d,.lookup t m x false,T,pos,af,g⟩ L w (.bool (keys.any fun y=>y.sameKey kl)) :=
 ⟨fun n a ha w' VL=>by
  have vI:=hB.ext VL;obtain ⟨v,ps,sb,hv⟩:=vI.own.lookup K ht (hz w') (plainElem_bool he false) qJ;rw [Jv _ _ hB.ok] at hv
  have SR:v = .bool (keys.any fun y=>y.sameKey kl):=by
   unfold plainElem at hv;rw [he] at hv;cases v<;>simp at hv
   rw [hv.1]
  subst SR;simp [execOp,ha.eval hm,ha.eval hx,sb]⟩
theorem SW.GI {k:TypeId} {m x:Operand} {key:Value} (hB:pM w P k e b keys) (K:Keyed P k) (ht:P.underlying t=some (.map k e)) (he:P.underlying e=some .bool) (kn:keys.length<maxLen)
 (hm:cK L m=some (.map (some b))) (hx:cK L x=some key) (hy:cK L y=some (.bool true)) (qJ:Go.keyOf P k key=some kl) (hk:WideAt.IsKeyLit kl)
 (h:∀ w',pM w' P k e b (keys++[kl])->w.grownBy w' (some b)->SW P n ops (.gL Q) rest L w') : SW P n ops (.gL Q) (⟨none,.mapUpdate t m x y,T,pos,af,none⟩::rest) L w :=
 ⟨fun a ha=>by
  obtain ⟨w',sb,r1,r2⟩:=hB.own.update K ht kn qJ (plainElem_bool he true);simp only [swp,wpList,Region.wanted,if_true];refine .inl ?_;unfold Oper.wp
  have:(execOp a.eval ⟨none,.mapUpdate t m x y,T,pos,af,none⟩).run P w = .ok .skip w':=by
   simp [execOp,ha.eval hm,ha.eval hx,ha.eval hy,sb]
  rw [this,Oper.upon_skip];refine (h w' ⟨?_,fun z hz => ?_⟩ r2).out _ ha
  ·rw [setOf_snoc];simpa using r1
  ·rcases ac9.1 hz with hz|hz
   ·exact hB.ok z hz
   ·simp at hz;subst hz;exact hk⟩
end
end Go.Proofs.YtohigmjjbgpfmaaGreatDoor
