/- Part 13 of what topWords_holds leans on. -/
import Derived.Test.YtohigmjjbgpfmaaGreatDoorPackTopWords12
set_option linter.unusedVariables false
set_option linter.unusedSimpArgs false
set_option linter.defProp false
open Go.Proofs.Tryz
namespace Go.Proofs.YtohigmjjbgpfmaaGreatDoor
open Go.RowKit
variable {af:Array Edge} {a:Int} {g:Option (Nat×Bool)} {P:Program} {T t:TypeId} {w:World}
theorem RQ {L:Env} {d:Option Nat} {pos:String} {x:Operand} {i:Int} (hx:cK L x=some (.int .i64 i)) (h1 : -9223372036854775808 <= -i) (h2 : -i<=9223372036854775807) : St P ⟨d,.unOp .neg t x,T,pos,af,g⟩ L w (.int .i64 (-i)) :=
 ⟨fun _ a ha w' _=>by have e1:=ha.eval hx;have:=jf h1 h2;generalize a.eval = ρ at *;simp [go_sem,e1,Op.unary,this]⟩
theorem fT (n m:Int) (w:World) (hn : -9223372036854775808<=n∧n<=9223372036854775807) (hm : 0<m) : bI prog 18 [.int .i64 n,.int .i64 m] w fun v _=>v = .int .i64 (bR n m):=by
 refine aE func18 rfl ntmps18 rfl ?_;have hw:=Ext.refl w;have DU:m≠0:=by omega
 by_cases h0:n<0
 ·have e:bR n m=(-(n+1)).tmod m:=by unfold bR;rw [if_pos h0]
  rw [e];repeat' (first|refine Wz ?_|(refine SW.st (RQ rfl (by omega) (by omega)) rfl ?_))
  exact ae.bj rfl rfl ⟨_,rfl,hw,rfl⟩
 ·have e:bR n m=n.tmod m:=by unfold bR;rw [if_neg h0]
  rw [e];refine Wz ?_;exact ae.bj rfl rfl ⟨_,rfl,hw,rfl⟩
theorem vB (A:Option Addr) (n c:Nat) (B:Option Addr) (m d:Nat) (x y z:Int) : ∀ v∈fi A n c B m d x y z,v.oneCell'=true:=fun v hv=>by
 simp only [fi,List.mem_cons,List.not_mem_nil,or_false] at hv;rcases hv with rfl|rfl|rfl|rfl|rfl<;>rfl
set_option maxHeartbeats 4000000 in
theorem AB (a b c:Int) (w:World) (ha : -9223372036854775808<=a∧a<=9223372036854775807) (hb : -9223372036854775808<=b∧b<=9223372036854775807) (hc : -9223372036854775808<=c∧c<=9223372036854775807) :
 bI prog 13 [.int .i64 a,.int .i64 b,.int .i64 c] w fun v w' => ∃ A B,v = .agg (fi A 2 2 B 2 2 (16*bR a 9) (bR b 12) (1+bR c 4)).toArray∧Own w' w.heap.size 82 2 iz A 2 2 (tv a b c)∧Own w' w.heap.size 82 2 iz B 2 2 (tw a b c):=by
 refine aE func13 rfl ntmps13 rfl ?_;refine CW.seq (CW.region (SW.alloc rfl fun b6 w1 hw dt aq => ?_));have cG:=dt;have h1:=di (n:=a) (m:=20) (by omega);have h2:=di (n:=b) (m:=60) (by omega);have h3:=di (n:=c) (m:=10) (by omega);have h4:=di (n:=a) (m:=90) (by omega);have h5:=di (n:=c) (m:=30) (by omega);have h6:=di (n:=a) (m:=7) (by omega);have h7:=di (n:=b) (m:=9) (by omega);have h8:=di (n:=c) (m:=5) (by omega);have h9:=di (n:=a) (m:=9) (by omega);have h10:=di (n:=b) (m:=12) (by omega);have YR:=di (n:=c) (m:=4) (by omega);repeat' (first|refine Wz ?_|((first|refine SW.call rfl rfl (fT a _ _ ha (by decide)) ?_|refine SW.call rfl rfl (fT b _ _ hb (by decide)) ?_|refine SW.call rfl rfl (fT c _ _ hc (by decide)) ?_);intro v w1 ai hv;subst hv;have hw:=hw.trans ai;have aq:=aq.ext ai;clear ai))
 have l6:=aq.lt;refine SW.alloc rfl fun b7 w1 ai iB bd => ?_
 skip;refine SW.ag bd rfl rfl rfl rfl (vB none 0 0 none 0 0 (16*bR a 9) (bR b 12) (1+bR c 4)) fun w2 bq hg => ?_
 have ar:=ai.own iB hg;have fX:=hw.up iB
 have hw:=hw.trans ar;have aq:=aq.ext ar;have bd:=bq;clear bq ai hg ar;have YW:b6≠b7:=by omega
 clear l6;repeat' (first|refine Wz ?_|((first|refine SW.call rfl rfl (fT a _ _ ha (by decide)) ?_|refine SW.call rfl rfl (fT b _ _ hb (by decide)) ?_|refine SW.call rfl rfl (fT c _ _ hc (by decide)) ?_);intro v w1 ai hv;subst hv;have hw:=hw.trans ai;have aq:=aq.ext ai;have bd:=bd.ext ai;clear ai))
 refine SW.wh (enc:=iz) ⟨bR a 20,40+bR b 60⟩ ⟨130+bR c 10,16+bR a 90⟩ rfl rfl rfl rfl rfl rfl fun g1 w2 bt Xl hA => ?_
 have hA:=hA.low hw.size;(have hw:=hw.trans bt;have aq:=aq.ext bt;have bd:=bd.ext bt);clear bt;refine Wz ?_;refine SW.rR (i:=0) bd rfl rfl rfl rfl fun w3 bq hg => ?_
 have hG:=bd.gr hg;have aq:=aq.grown hg (by simpa using YW);have hw:=hw.own fX hg;(have hA:=hA.aN hG rfl);have bd:aS _ b7 29 (fi (some ⟨g1,0,none⟩) 2 2 none 0 0 (16*bR a 9) (bR b 12) (1+bR c 4)):=bq;clear hG hg bq;repeat' (first|refine Wz ?_|((first|refine SW.call rfl rfl (fT a _ _ ha (by decide)) ?_|refine SW.call rfl rfl (fT b _ _ hb (by decide)) ?_|refine SW.call rfl rfl (fT c _ _ hc (by decide)) ?_);intro v w1 ai hv;subst hv;have hw:=hw.trans ai;have aq:=aq.ext ai;have bd:=bd.ext ai;have hA:=hA.ext ai;clear ai))
 refine SW.wh (enc:=iz) ⟨bR a 20+bR c 30,1+bR a 7⟩ ⟨150+bR b 9,1+bR c 5⟩ rfl rfl rfl rfl rfl rfl fun g2 w2 bt abe hB => ?_
 have hB:=hB.low hw.size;(have hw:=hw.trans bt;have aq:=aq.ext bt;have bd:=bd.ext bt;have hA:=hA.ext bt);clear bt;refine Wz ?_;refine SW.rR (i:=1) bd rfl rfl rfl rfl fun w3 bq hg => ?_
 have hG:=bd.gr hg;have aq:=aq.grown hg (by simpa using YW);have hw:=hw.own fX hg;(have hA:=hA.aN hG rfl;have hB:=hB.aN hG rfl);have bd:aS _ b7 29 (fi (some ⟨g1,0,none⟩) 2 2 (some ⟨g2,0,none⟩) 2 2 (16*bR a 9) (bR b 12) (1+bR c 4)):=bq;clear hG hg bq;refine Wz ?_;refine SW.ag aq rfl rfl rfl rfl (vB (some ⟨g1,0,none⟩) 2 2 (some ⟨g2,0,none⟩) 2 2 (16*bR a 9) (bR b 12) (1+bR c 4)) fun w3 hR hg => ?_
 have hG:=aq.gr hg;have hw:=hw.own cG hg;(have hA:=hA.aN hG rfl;have hB:=hB.aN hG rfl);refine Wz ?_;exact ae.DZ rfl rfl hR rfl ⟨_,rfl,hw,_,_,rfl,hA,hB⟩
theorem Cz (a b c:Int) (w:World) (ha : -9223372036854775808<=a∧a<=9223372036854775807) (hb : -9223372036854775808<=b∧b<=9223372036854775807) (hc : -9223372036854775808<=c∧c<=9223372036854775807) :
 bI prog 13 [.int .i64 a,.int .i64 b,.int .i64 c] w fun v w' => ∃ A B,v = .agg (fi A 2 2 B 2 2 (16*bR a 9) (bR b 12) (1+bR c 4)).toArray∧Sl w' 2 iz A 2 (tv a b c)∧Sl w' 2 iz B 2 (tw a b c) :=
 (AB a b c w ha hb hc).mono fun v w' _ ⟨A,B,e,hA,hB⟩=>⟨A,B,e,hA.sl,hB.sl⟩
def Qa (k:Int) : cJ:=⟨k,0,0,0,0,0,⟨#[]⟩⟩
theorem IW {b c:Int} {l:List cJ} {o:Int×List kz×ah} (h:Ks (jq 256 (tv a b c) (tw a b c)) (16*bR a 9) (bR b 12) (1+bR c 4) l o) : o.1=0 ∧ ∃ s,mZ (Kn a b c) 6 s∧dI s∧lC s l o.2.1 o.2.2:=by
 cases h with
 | fault h he=>exact absurd (jB h).1 he
 | YS h he hr=>exact ⟨rfl,_,(jB h).2.1,(jB h).2.2,hr⟩
set_option maxHeartbeats 4000000 in
theorem Kt (w:World) (hS:iv w) (eY:mD w) : bI prog 5 [] w fun v _=>v = .bool true:=by
 refine aE func5 rfl ntmps5 rfl ?_;have hw:=Ext.refl w;refine Wz ?_;refine SW.call rfl rfl (Cz 0 0 0 _ (by decide) (by decide) (by decide)) fun v w2 bt hv => ?_
 obtain ⟨A,B,rfl,hA,hB⟩:=hv;have hw:=hw.trans bt;clear bt;have hp:=di (n:=0) (m:=9) (by omega);refine SW.call rfl rfl (AA A 2 2 B 2 2 _ _ _ _ _ _ hA hB (by decide) (by decide) (by omega) (hS.ext hw)) fun v w3 nL hv => ?_
 obtain ⟨u,hu,q,rfl,hq⟩:=hv;obtain ⟨e0,hF,hI⟩:=jB hu;have hq:=hq.low hw.size;have hw:=hw.trans nL;clear nL hA hB;rw [e0];refine Wz ?_;refine SW.alloc rfl fun b1 w1 ai lc aW => ?_
 skip;refine SW.ag aW rfl rfl rfl rfl (aY q) fun w2 tm hg => ?_
 have ar:=ai.own lc hg;have L0:=hw.up lc
 have hw:=hw.trans ar;have hq:=hq.ext ar;have aW:=tm;clear tm ai hg ar;refine Wz ?_;refine SW.call rfl rfl (Cz 0 0 0 _ (by decide) (by decide) (by decide)) fun v w2 bt hv => ?_
 obtain ⟨A,B,rfl,hA,hB⟩:=hv;(have hw:=hw.trans bt;have aW:=aW.ext bt;have hq:=hq.ext bt);clear bt;refine Wz ?_;refine SW.dR rfl rfl rfl rfl rfl fun Wj w9 th vp rB => ?_
 (have hw:=hw.trans th;have aW:=aW.ext th;have hq:=hq.ext th;have hA:=hA.ext th;have hB:=hB.ext th);clear th;refine SW.call rfl rfl (IV dI A 2 2 B 2 2 _ _ _ _ _ _ 1 1 [Qa 12] _ hA hB (by decide) (by decide) (by omega) (hS.ext hw) (eY.ext hw) (aS.vF (enc:=eB) (x:=Qa 12) rB) (by decide) (fun u h _=>(jB h).2.2) (fun s h=>h.cV) (fun a ha=>by simp only [List.mem_singleton] at ha;subst ha;exact Cy _ rfl) (fun a ha=>by simp only [List.mem_singleton] at ha;subst ha;exact qX rfl)) fun v w3 nL hv => ?_
 obtain ⟨o,ho,X,n,c,rs,q2,rfl,hX,uu⟩:=hv;obtain ⟨e1,s,_,_,hR⟩:=IW ho;have hn:=hX.len;have hl:=hR.len;simp only [List.length_singleton] at hl;obtain rfl:n=1:=by omega
 rw [e1];have hX:=hX.low hw.size;have uu:=uu.low hw.size;(have hw:=hw.trans nL;have aW:=aW.ext nL;have hq:=hq.ext nL);clear nL hA hB rB;refine Wz ?_;refine SW.alloc rfl fun b4 w1 ai fJ aH => ?_
 refine Wz ?_;refine SW.ag aH rfl rfl rfl rfl (aY q2) fun w2 cW hg => ?_
 have ar:=ai.own fJ hg;have eu:=hw.up fJ
 have hw:=hw.trans ar;have aW:=aW.ext ar;have hq:=hq.ext ar;have uu:=uu.ext ar;have hX:=hX.ext ar;have aH:=cW;clear cW ai hg ar;have Yv:=hq.words.len;rw [hF.words,ad3] at Yv;refine Wz ?_;all_goals try omega
 exact ae.bj rfl rfl ⟨_,rfl,hw,rfl⟩
variable {sz:Nat}
theorem CA:∀ (us:List Value) (k:Nat) (D Z:List Value),(∀ u∈us,u.cells.size=sz)->D.length=k*sz->Z.length=us.length*sz ->
 Instr.fill (fun i=>some (i*sz,sz)) (D++Z).toArray ((us.zipIdx k).map fun p=>(p.2,p.1))=some (D++us.flatMap fun u=>u.cells.toList).toArray
 | [],k,D,Z,_,_,hZ=>by
   have:Z=[]:=adl (by simpa using hZ)
   subst this;simp [Instr.fill]
 | u::us,k,D,Z,hu,hD,hZ=>by
   have h1:=hu u (by simp);have hl:Z.length=sz+us.length*sz:=by rw [hZ,List.length_cons,adQ];omega
   have fold:∀ (x:Value) (off:Nat) (X:List Value),Array.foldl (fun (cs:Array Value) (p:Value×Nat)=>cs.setIfInBounds (off+p.2) p.1) X.toArray x.cells.zipIdx=(setAt X off x.cells.toList).toArray:=fun x off X=>by
    have:=qq x.cells.toList 0 off X
    rw [aeM] at this;rw [<- this,<- aeS];simp [Array.toList_zipIdx]
   have hs:setAt (D++Z) (k*sz) u.cells.toList=D++u.cells.toList++Z.drop sz:=by
    have:=sS u.cells.toList D (Z.take sz) (Z.drop sz) (by simp [h1];omega)
    rw [ac6,ac4,hD] at this;exact this
   simp only [List.zipIdx_cons,List.map_cons,Instr.fill];rw [if_neg (by simp [h1];omega),fold u (k*sz) (D++Z),hs,CA us (k+1) (D++u.cells.toList) (Z.drop sz) (fun x hx=>hu x (by simp [hx])) (by simp [hD,h1,Nat.add_mul]) (by simp;omega)];simp
section
variable {α:Type} {P:Program} {n:Nat} {ops:Array Oper} {Q:Exit->Act->World->Prop} {rest:List Oper} {L:Env} {w:World} {d:Nat} {T:TypeId} {pos:String} {af:Array Edge}
theorem SW.um {t e:TypeId} {z:Value} {sz bytes len:Nat} {enc : α -> List Value} {parts:Array (Nat×Operand)} [S:bz P t e sz] [E:dn P e z sz bytes] [C:im enc sz] (xs:List Operand) {us:List Value} (vz:List α)
 (hp:parts.toList=(xs.zipIdx 0).map fun p=>(p.2,p.1)) (hx:uE L xs=some us) (hu:us.map (fun u=>u.cells.toList)=vz.map enc) (hlen:Nat.beq len vz.length=true) (kg:Nat.blt 0 len=true) (hle:Nat.ble len 100=true) (hs:Nat.ble sz 1000=true)
 (hn:Nat.blt d n=true) (h:∀ g w',Ext w w'->w.heap.size<=g->Own w' w.heap.size e sz enc (some ⟨g,0,none⟩) len len vz->SW P n ops (.gL Q) rest ((d,.slice (some ⟨g,0,none⟩) len len)::L) w') :
 SW P n ops (.gL Q) (⟨some d,.buildSlice t len parts,T,pos,af,none⟩::rest) L w :=
 ⟨fun q hq=>by
  obtain ⟨i,hi,hz,nd,xU⟩:=ee P e (z:=z) (sz:=sz) (bytes:=bytes);have ke:sz<=1000:=by simpa using hs
  have AV:len<=100:=by simpa using hle
  have Bf : 0<len:=by simpa using kg
  have hl:len=vz.length:=adv hlen
  have oy : 0<sz:=E.pos
  have YX : 0<len*sz:=Nat.mul_pos Bf oy
  have YC:len*sz<=100*1000:=Nat.mul_le_mul AV ke
  have hul:us.length=len:=by have:=congrArg List.length hu;simpa [hl] using this
  have hev:xs.map q.eval=us:=hq.uF hx
  have lJ:∀ u∈us,u.cells.size=sz:=fun u hm=>by
   have:u.cells.toList∈vz.map enc:=by rw [<- hu];exact List.mem_map_of_mem hm
   obtain ⟨a,_,ha⟩:=adk.1 this;rw [<- aea,<- ha,C.len]
  have oZ:(us.flatMap fun u=>u.cells.toList)=vz.flatMap enc:=by rw [aeo,aeo,hu]
  simp only [swp];refine wpList_buildSlice rfl t e len _ rfl (vz.flatMap enc).toArray i z S.ou hi hz (by rw [nd];omega) (by rw [nd];omega) ?_ ?_
  ·have e1:(Array.map (fun (p:Nat×Operand)=>(p.1,q.eval p.2)) parts).toList=(us.zipIdx 0).map fun p=>(p.2,p.1):=by
    rw [Array.toList_map,hp,<- hev,List.zipIdx_map,ae8,ae8]
    rfl
   have e2:∀ X:Array Value,X=([]++X.toList).toArray:=fun X=>rfl
   rw [e1,e2 (Array.map _ (Array.range _)),nd,CA us 0 [] _ lJ (by simp) (by simp [hul]),adV,oZ]
  ·refine (h w.heap.size _ (Ext.alloc w _) (ac3 _) ⟨hl.symm,.inr ⟨Bf,w.heap.size,_,rfl,ac3 _,aS.new w e (vz.flatMap enc),ac3 _,by simp only [maxLen];omega,by simp [aV (enc:=enc),hl],?_⟩⟩).out _ (hq.put hn _);have:(vz.flatMap enc).length=len*sz:=by rw [aV (enc:=enc),hl]
   exact adf (Nat.le_of_eq this)⟩
end
section
variable {P:Program} {L:Env} {w:World} {d:Option Nat} {T:TypeId} {pos:String} {af:Array Edge} {g:Option (Nat×Bool)}
end
variable {α:Type}
structure HB where
 Kind:Int
 A:Int
 B:Int
 C:Int
def U4 (i:Int) : Prop := -9223372036854775808<=i∧i<=9223372036854775807
structure IX (x:HB) : Prop where
 kind:U4 x.Kind
 a:U4 x.A
 b:U4 x.B
 c:U4 x.C
def FE (x:HB) : List Value:=[.int .i64 x.Kind,.int .i64 x.A,.int .i64 x.B,.int .i64 x.C]
instance:im FE 4:=⟨fun _=>rfl,fun r u hu=>by simp [FE] at hu;rcases hu with rfl|rfl|rfl|rfl<;>rfl⟩
theorem Um (r:HB) : ∀ v∈FE r,v.oneCell'=true:=im.one (enc:=FE) r
def Xm:ByteArray:=⟨#[107,52]⟩
theorem ti {P : α -> Prop} {l:List α} (h:∀ x∈l,P x) {i:Int} (hi : 0<=i∧i<(l.length:Int)) : ∃ (k:Nat) (hk:k<l.length),i=(k:Int)∧P l[k]:=by
 obtain ⟨k,hk⟩:=ada hi.1;exact ⟨k,by omega,hk,h _ (ac0 _)⟩
theorem ik (n m:Int) (hn : -9223372036854775808<=n∧n<=9223372036854775807) (hm : 0<m) : ∃ p,(0<=p∧p<m) ∧ ∀ w',bI prog 18 [.int .i64 n,.int .i64 m] w' fun v _=>v = .int .i64 p:=⟨bR n m,di hm,fun w'=>fT n m w' hn hm⟩
def O9 (cpus:Int) (m lo:Nat) (v:Value) (w:World) : Prop := ∃ (z:ga) (l:List uk),v = .slice z.A z.n z.c∧Own w lo 84 8 rE z.A z.n z.c ([oq,jr]++l)∧(∀ x∈l,re cpus x)∧l.length<=m
set_option maxHeartbeats 16000000 in
theorem Nq (cpus:Int) (A:Option Addr) (n c:Nat) (l:List HB) (w:World) (hl:Sl w 4 FE A n l) (hn:n<=9000000000000000000) (hr:∀ x∈l,IX x) (hc : 0<cpus) :
 bI prog 15 [.slice A n c,.int .i64 cpus,.int .i64 40] w fun v w'=>O9 cpus 40 w.heap.size v w':=by
 refine aE func15 rfl ntmps15 rfl ?_;have hw:=Ext.refl w;have mv:=hl.len;have YT:=hl.base;refine Wz ?_;refine SW.wh (enc:=rE) oq jr rfl rfl rfl rfl rfl rfl fun g1 w2 bt Xl hO => ?_
 have hO:=hO.low hw.size;(have hw:=hw.trans bt);clear bt;refine Wz ?_
 refine CW.loop (fun s:Nat×ga×List uk=>[(0,.slice A n c),(1,.int .i64 cpus),(2,.int .i64 40),(7,.slice s.2.1.A s.2.1.n s.2.1.c),(8,.int .i64 (s.1:Int))])
  (fun s w'=>s.1<=n∧s.1<=40∧s.2.1.n=2+s.1∧s.2.2.length=s.1∧Ext w w'∧Own w' w.heap.size 84 8 rE s.2.1.A s.2.1.n s.2.1.c ([oq,jr]++s.2.2) ∧ ∀ x∈s.2.2,re cpus x) (fun s=>n-s.1) (0,⟨some ⟨g1,0,none⟩,2,2⟩,[])
  ⟨rfl,rfl,rfl,rfl,rfl,trivial⟩ ⟨adO _,adO _,rfl,rfl,hw,hO,fun x hx=>by cases hx⟩ ?_
 clear hw hO;rintro ⟨j,z,ys⟩ w' ⟨hj,Yc,hz,hy,hw,hO,hR⟩
 simp only at hj Yc hz hy hO hR ⊢;by_cases mO:j<n∧j<40
 ·obtain ⟨pB,abh⟩:=mO;have pA:j<l.length:=by omega
  obtain ⟨x,ex⟩ : ∃ x,l[j]=x:=⟨_,rfl⟩;have hx:=hr _ (ac0 pA);rw [ex] at hx;obtain ⟨⟨YY,RR⟩,⟨oO,FW⟩,⟨YZ,qg⟩,⟨RS,Bh⟩⟩:=hx;have fe:=hl.all pB;rw [ex] at fe;obtain ⟨K,A1,B1,C1⟩:=x;simp only at YY RR oO FW YZ qg RS Bh;repeat' (first|refine Wz ?_|refine Wo hw fe ?_)
  refine SW.alloc rfl fun b9 w1 ai nQ bD => ?_
  skip;refine SW.ag bD rfl rfl rfl rfl (Um ⟨K,A1,B1,C1⟩) fun w2 jM hg => ?_
  have ar:=ai.own nQ hg;have rU:=hw.up nQ
  obtain ⟨hw,hO⟩:=cX ar hw hO;have bD:=jM;clear jM ai hg ar;repeat' (first|refine Wz ?_|(refine Wk (fT B1 cpus _ ⟨YZ,qg⟩ hc) ?_;intro v w1 ai hv;subst hv;obtain ⟨hw,bD,hO⟩:=cj ai hw bD hO;clear ai))
  obtain ⟨cpu,Xn⟩ : ∃ q,bR B1 cpus=q:=⟨_,rfl⟩;rw [Xn];have l9:=bD.lt;refine SW.alloc rfl fun oB w1 ai mG aC => ?_
  skip;refine SW.ag aC rfl rfl rfl rfl (P1 ⟨0,cpu,0,0,0,0,⟨#[]⟩⟩) fun w2 bA hg => ?_
  have ar:=ai.own mG hg;have gK:=hw.up mG
  obtain ⟨hw,bD,hO⟩:=cj ar hw bD hO;have aC:=bA;clear bA ai hg ar;have abi:b9≠oB:=by omega
  clear l9;refine Wz ?_;refine Wk (fT K 24 _ ⟨YY,RR⟩ (by decide)) fun v w5 ox hv => ?_
  subst hv;(obtain ⟨hw,bD,aC,hO⟩:=dG ox hw bD aC hO);clear ox;have hk:=di (n:=K) (m:=24) (by omega);obtain ⟨k,ek⟩ : ∃ q,bR K 24=q:=⟨_,rfl⟩;rw [ek] at hk ⊢;refine SW.pure rfl rfl (SW.nil (ae.seq ?_));obtain ⟨KK,AW⟩ : ∃ KK:Env->World->Prop,KK=fun L' w' => ∃ a o,il L' [(0,.slice A n c),(1,.int .i64 cpus),(2,.int .i64 40),(7,.slice z.A z.n z.c),(8,.int .i64 (j:Int)),(10,.pointer (some ⟨oB,0,none⟩)),(11,.int .i64 o)]∧Ext w w'∧aS w' oB 35 (eB a)∧Own w' w.heap.size 84 8 rE z.A z.n z.c ([oq,jr]++ys)∧re cpus ⟨a,o⟩:=⟨_,rfl⟩
  refine CW.block (CW.I4 KK ?_ ?_)
  ·rcases (show k<5∨(5<=k∧k<9)∨k=9∨(10<=k∧k<13)∨(13<=k∧k<16)∨(16<=k∧k<18)∨k=18∨k=19∨k=20∨(21<=k∧k<23)∨k=23 by omega) with h|h|h|h|h|h|h|h|h|h|h
   ·obtain ⟨q,hq,cC⟩:=ik C1 3 ⟨RS,Bh⟩ (by decide);obtain ⟨ls,CB⟩ : ∃ ls:List Int,[4,40,140]=ls:=⟨_,rfl⟩;have FU:∀ x∈ls,x=4∨x=40∨x=140:=by rw [<- CB];intro x hx;simpa using hx
    have U5:ls.length=3:=by rw [<- CB];rfl
    obtain ⟨i,hi,rfl,hm⟩:=ti FU (i:=q) (by omega);obtain ⟨Ku,uo⟩ : ∃ x,ls[i]=x:=⟨_,rfl⟩;rw [uo] at hm;have cQ:i<3:=by omega
    obtain ⟨p,hp,cA⟩:=ik A1 Ku ⟨oO,FW⟩ (by omega);refine Wz ?_;refine Wb (i:=0) aC fun jb bA dA => ?_
    have dY:=aC.gr dA;have hw:=hw.own gK dA;(obtain ⟨bD,hO⟩:=cX dY bD hO);have aC:aS _ oB 35 (eB ⟨8,cpu,0,0,0,0,⟨#[]⟩⟩):=bA;clear bA dY dA;refine Wz ?_
    focus
     refine CW.any 9 mixed (dg (by kernel_rfl)) rfl fun w1 ai aJ => ?_
     obtain ⟨hw,bD,aC,hO⟩:=dG ai hw bD aC hO;clear ai;refine Wa ?_;refine SA.two 2 5 rfl rfl (by kernel_rfl) rfl rfl ?_ ?_
     focus
      refine SW.um (enc:=bw) (xs:=[.const (.int .i64 4),.const (.int .i64 40),.const (.int .i64 140)]) [4,40,140] rfl rfl rfl rfl rfl rfl rfl rfl fun g3 w9 ar Un hL => ?_
      rw [CB] at hL;have NG:=hL.sl.base;(obtain ⟨hw,bD,aC,hO⟩:=dG ar hw bD aC hO);refine SW.nil (ae.sa ar ?_);refine SA.one 5 rfl (by kernel_rfl) rfl ?_;refine Wk (cC _) fun v w5 ar hv => ?_
      subst hv;(try have hL:=hL.ext ar);(obtain ⟨hw,bD,aC,hO⟩:=dG ar hw bD aC hO);refine SW.nil (ae.sa ar ?_);refine Wa ?_;refine Wu 7 aJ rfl (aT rfl (hL.sl.one cQ (congrArg bw uo))) ?_;refine SA.one 8 rfl (by kernel_rfl) rfl ?_;refine Wk (cA _) fun v w5 ar hv => ?_
      subst hv;(obtain ⟨hw,bD,aC,hO,hL⟩:=fI ar hw bD aC hO hL);refine SW.nil (ae.sa ar ?_)
     rotate_left
     focus
      refine Wk (cC _) fun v w5 ar hv => ?_
      subst hv;(try have hL:=hL.ext ar);(obtain ⟨hw,bD,aC,hO⟩:=dG ar hw bD aC hO);refine SW.nil (ae.sa ar ?_);refine SA.one 2 rfl (by kernel_rfl) rfl ?_;refine SW.um (enc:=bw) (xs:=[.const (.int .i64 4),.const (.int .i64 40),.const (.int .i64 140)]) [4,40,140] rfl rfl rfl rfl rfl rfl rfl rfl fun g3 w9 ar Un hL => ?_
      rw [CB] at hL;have NG:=hL.sl.base;(obtain ⟨hw,bD,aC,hO⟩:=dG ar hw bD aC hO);refine SW.nil (ae.sa ar ?_);refine Wa ?_;refine Wu 7 aJ rfl (aT rfl (hL.sl.one cQ (congrArg bw uo))) ?_;refine SA.one 8 rfl (by kernel_rfl) rfl ?_;refine Wk (cA _) fun v w5 ar hv => ?_
      subst hv;(obtain ⟨hw,bD,aC,hO,hL⟩:=fI ar hw bD aC hO hL);refine SW.nil (ae.sa ar ?_)
     rotate_left
     all_goals
      refine SA.done (by kernel_rfl) ?_;refine Wz ?_;refine Wb (i:=2) aC fun jb bA dA => ?_
      have dY:=aC.gr dA;have hw:=hw.own gK dA;(obtain ⟨bD,hO⟩:=cX dY bD hO);have aC:aS _ oB 35 (eB ⟨8,cpu,(1+p),0,0,0,⟨#[]⟩⟩):=bA;clear bA dY dA;refine Wz ?_;exact ae.lW (K:=KK) (by rw [AW];exact ⟨⟨8,cpu,(1+p),0,0,0,⟨#[]⟩⟩,0,⟨rfl,rfl,rfl,rfl,rfl,rfl,rfl,trivial⟩,hw,aC,hO,.fp (by omega)⟩)
   ·obtain ⟨p,hp,cA⟩:=ik A1 9 ⟨oO,FW⟩ (by decide);refine Wz ?_;refine Wb (i:=0) aC fun jb bA dA => ?_
    have dY:=aC.gr dA;have hw:=hw.own gK dA;(obtain ⟨bD,hO⟩:=cX dY bD hO);have aC:aS _ oB 35 (eB ⟨9,cpu,0,0,0,0,⟨#[]⟩⟩):=bA;clear bA dY dA;repeat' (first|refine Wz ?_|(refine Wk (cA _) ?_;intro v w1 ai hv;subst hv;obtain ⟨hw,bD,aC,hO⟩:=dG ai hw bD aC hO;clear ai))
    exact ae.lW (K:=KK) (by rw [AW];exact ⟨⟨9,cpu,0,0,0,0,⟨#[]⟩⟩,1+p,⟨rfl,rfl,rfl,rfl,rfl,rfl,rfl,trivial⟩,hw,aC,hO,.kA (by omega)⟩)
   ·obtain ⟨p,hp,cA⟩:=ik A1 60 ⟨oO,FW⟩ (by decide);obtain ⟨q,hq,cC⟩:=ik C1 6 ⟨RS,Bh⟩ (by decide);refine Wz ?_;refine Wb (i:=0) aC fun jb bA dA => ?_
    have dY:=aC.gr dA;have hw:=hw.own gK dA;(obtain ⟨bD,hO⟩:=cX dY bD hO);have aC:aS _ oB 35 (eB ⟨11,cpu,0,0,0,0,⟨#[]⟩⟩):=bA;clear bA dY dA;repeat' (first|refine Wz ?_|(refine Wk (cA _) ?_;intro v w1 ai hv;subst hv;obtain ⟨hw,bD,aC,hO⟩:=dG ai hw bD aC hO;clear ai))
    refine Wb (i:=2) aC fun jb bA dA => ?_
    have dY:=aC.gr dA;have hw:=hw.own gK dA;(obtain ⟨bD,hO⟩:=cX dY bD hO);have aC:aS _ oB 35 (eB ⟨11,cpu,(1+p),0,0,0,⟨#[]⟩⟩):=bA;clear bA dY dA;repeat' (first|refine Wz ?_|(refine Wk (cC _) ?_;intro v w1 ai hv;subst hv;obtain ⟨hw,bD,aC,hO⟩:=dG ai hw bD aC hO;clear ai))
    exact ae.lW (K:=KK) (by rw [AW];exact ⟨⟨11,cpu,(1+p),0,0,0,⟨#[]⟩⟩,1+q,⟨rfl,rfl,rfl,rfl,rfl,rfl,rfl,trivial⟩,hw,aC,hO,.dX (by omega) (by omega)⟩)
   ·obtain ⟨p,hp,cA⟩:=ik A1 5 ⟨oO,FW⟩ (by decide);obtain ⟨q,hq,cC⟩:=ik C1 7 ⟨RS,Bh⟩ (by decide);obtain ⟨ls,CB⟩ : ∃ ls:List Int,[0,2,4,1,8,3,10]=ls:=⟨_,rfl⟩;have FU:∀ x∈ls,x∈([0,2,4,1,8,3,10] : List Int):=by rw [<- CB];intro x hx;simpa using hx
    have U5:ls.length=7:=by rw [<- CB];rfl
    obtain ⟨i,hi,rfl,hm⟩:=ti FU (i:=q) (by omega);obtain ⟨Ku,uo⟩ : ∃ x,ls[i]=x:=⟨_,rfl⟩;rw [uo] at hm;have cQ:i<7:=by omega
    refine Wz ?_;refine Wb (i:=0) aC fun jb bA dA => ?_
    have dY:=aC.gr dA;have hw:=hw.own gK dA;(obtain ⟨bD,hO⟩:=cX dY bD hO);have aC:aS _ oB 35 (eB ⟨1,cpu,0,0,0,0,⟨#[]⟩⟩):=bA;clear bA dY dA;repeat' (first|refine Wz ?_|(refine Wk (cA _) ?_;intro v w1 ai hv;subst hv;obtain ⟨hw,bD,aC,hO⟩:=dG ai hw bD aC hO;clear ai))
    refine Wb (i:=2) aC fun jb bA dA => ?_
    have dY:=aC.gr dA;have hw:=hw.own gK dA;(obtain ⟨bD,hO⟩:=cX dY bD hO);have aC:aS _ oB 35 (eB ⟨1,cpu,p,0,0,0,⟨#[]⟩⟩):=bA;clear bA dY dA;refine Wz ?_;refine SW.um (enc:=bw) (xs:=[.const (.int .i64 0),.const (.int .i64 2),.const (.int .i64 4),.const (.int .i64 1),.const (.int .i64 8),.const (.int .i64 3),.const (.int .i64 10)]) [0,2,4,1,8,3,10] rfl rfl rfl rfl rfl rfl rfl rfl fun g3 w9 ar Un hL => ?_
    rw [CB] at hL;have NG:=hL.sl.base;(obtain ⟨hw,bD,aC,hO⟩:=dG ar hw bD aC hO);clear ar;repeat' (first|refine Wz ?_|refine Wl (hL.sl.one cQ (congrArg bw uo)) ?_|(refine Wk (cC _) ?_;intro v w1 ai hv;subst hv;obtain ⟨hw,bD,aC,hO,hL⟩:=fI ai hw bD aC hO hL;clear ai))
    refine Wb (i:=5) aC fun jb bA dA => ?_
    have dY:=aC.gr dA;have hw:=hw.own gK dA;(obtain ⟨bD,hO⟩:=cX dY bD hO);have aC:aS _ oB 35 (eB ⟨1,cpu,p,0,0,Ku,⟨#[]⟩⟩):=bA;clear bA dY dA;refine Wz ?_;exact ae.lW (K:=KK) (by rw [AW];exact ⟨⟨1,cpu,p,0,0,Ku,⟨#[]⟩⟩,0,⟨rfl,rfl,rfl,rfl,rfl,rfl,rfl,trivial⟩,hw,aC,hO,.bC (by omega)⟩)
   ·obtain ⟨p,hp,cA⟩:=ik A1 9 ⟨oO,FW⟩ (by decide);refine Wz ?_;refine Wb (i:=0) aC fun jb bA dA => ?_
    have dY:=aC.gr dA;have hw:=hw.own gK dA;(obtain ⟨bD,hO⟩:=cX dY bD hO);have aC:aS _ oB 35 (eB ⟨2,cpu,0,0,0,0,⟨#[]⟩⟩):=bA;clear bA dY dA;repeat' (first|refine Wz ?_|(refine Wk (cA _) ?_;intro v w1 ai hv;subst hv;obtain ⟨hw,bD,aC,hO⟩:=dG ai hw bD aC hO;clear ai))
    exact ae.lW (K:=KK) (by rw [AW];exact ⟨⟨2,cpu,0,0,0,0,⟨#[]⟩⟩,1+p,⟨rfl,rfl,rfl,rfl,rfl,rfl,rfl,trivial⟩,hw,aC,hO,.nw (by omega)⟩)
   ·obtain ⟨q,hq,cA⟩:=ik A1 2 ⟨oO,FW⟩ (by decide);obtain ⟨ls,CB⟩ : ∃ ls:List ByteArray,[pr,gf]=ls:=⟨_,rfl⟩;have FU:∀ x∈ls,x=pr∨x=gf:=by rw [<- CB];intro x hx;simpa using hx
    have U5:ls.length=2:=by rw [<- CB];rfl
    obtain ⟨i,hi,rfl,hm⟩:=ti FU (i:=q) (by omega);obtain ⟨Ku,uo⟩ : ∃ x,ls[i]=x:=⟨_,rfl⟩;rw [uo] at hm;have cQ:i<2:=by omega
    refine Wz ?_;refine Wb (i:=0) aC fun jb bA dA => ?_
    have dY:=aC.gr dA;have hw:=hw.own gK dA;(obtain ⟨bD,hO⟩:=cX dY bD hO);have aC:aS _ oB 35 (eB ⟨5,cpu,0,0,0,0,⟨#[]⟩⟩):=bA;clear bA dY dA;refine Wz ?_;refine SW.um (enc:=encStr) (xs:=[.const (.string ⟨#[111,98]⟩),.const (.string ⟨#[112,97,105,114]⟩)]) [pr,gf] rfl rfl rfl rfl rfl rfl rfl rfl fun g3 w9 ar Un hL => ?_
    rw [CB] at hL;have NG:=hL.sl.base;(obtain ⟨hw,bD,aC,hO⟩:=dG ar hw bD aC hO);clear ar;repeat' (first|refine Wz ?_|refine Wl (hL.sl.one cQ (congrArg encStr uo)) ?_|(refine Wk (cA _) ?_;intro v w1 ai hv;subst hv;obtain ⟨hw,bD,aC,hO,hL⟩:=fI ai hw bD aC hO hL;clear ai))
    refine Wb (i:=6) aC fun jb bA dA => ?_
    have dY:=aC.gr dA;have hw:=hw.own gK dA;(obtain ⟨bD,hO⟩:=cX dY bD hO);have aC:aS _ oB 35 (eB ⟨5,cpu,0,0,0,0,Ku⟩):=bA;clear bA dY dA;refine Wz ?_;exact ae.lW (K:=KK) (by rw [AW];exact ⟨⟨5,cpu,0,0,0,0,Ku⟩,0,⟨rfl,rfl,rfl,rfl,rfl,rfl,rfl,trivial⟩,hw,aC,hO,.new hm⟩)
   ·obtain ⟨q,hq,cC⟩:=ik C1 2 ⟨RS,Bh⟩ (by decide);obtain ⟨p,hp,cA⟩:=ik A1 9 ⟨oO,FW⟩ (by decide);obtain ⟨ls,CB⟩ : ∃ ls:List ByteArray,[pr,gf]=ls:=⟨_,rfl⟩;have FU:∀ x∈ls,x=pr∨x=gf:=by rw [<- CB];intro x hx;simpa using hx
    have U5:ls.length=2:=by rw [<- CB];rfl
    obtain ⟨i,hi,rfl,hm⟩:=ti FU (i:=q) (by omega);obtain ⟨Ku,uo⟩ : ∃ x,ls[i]=x:=⟨_,rfl⟩;rw [uo] at hm;have cQ:i<2:=by omega
    refine Wz ?_;refine Wb (i:=0) aC fun jb bA dA => ?_
    have dY:=aC.gr dA;have hw:=hw.own gK dA;(obtain ⟨bD,hO⟩:=cX dY bD hO);have aC:aS _ oB 35 (eB ⟨6,cpu,0,0,0,0,⟨#[]⟩⟩):=bA;clear bA dY dA;refine Wz ?_;refine SW.um (enc:=encStr) (xs:=[.const (.string ⟨#[111,98]⟩),.const (.string ⟨#[112,97,105,114]⟩)]) [pr,gf] rfl rfl rfl rfl rfl rfl rfl rfl fun g3 w9 ar Un hL => ?_
    rw [CB] at hL;have NG:=hL.sl.base;(obtain ⟨hw,bD,aC,hO⟩:=dG ar hw bD aC hO);clear ar;repeat' (first|refine Wz ?_|refine Wl (hL.sl.one cQ (congrArg encStr uo)) ?_|(refine Wk (cC _) ?_;intro v w1 ai hv;subst hv;obtain ⟨hw,bD,aC,hO,hL⟩:=fI ai hw bD aC hO hL;clear ai))
    refine Wb (i:=6) aC fun jb bA dA => ?_
    have dY:=aC.gr dA;have hw:=hw.own gK dA;(obtain ⟨bD,hO⟩:=cX dY bD hO);have aC:aS _ oB 35 (eB ⟨6,cpu,0,0,0,0,Ku⟩):=bA;clear bA dY dA;repeat' (first|refine Wz ?_|(refine Wk (cA _) ?_;intro v w1 ai hv;subst hv;obtain ⟨hw,bD,aC,hO⟩:=dG ai hw bD aC hO;clear ai))
    exact ae.lW (K:=KK) (by rw [AW];exact ⟨⟨6,cpu,0,0,0,0,Ku⟩,1+p,⟨rfl,rfl,rfl,rfl,rfl,rfl,rfl,trivial⟩,hw,aC,hO,.drop hm (by omega)⟩)
   ·obtain ⟨q,hq,cA⟩:=ik A1 2 ⟨oO,FW⟩ (by decide);obtain ⟨r,hr,cC⟩:=ik C1 3 ⟨RS,Bh⟩ (by decide);obtain ⟨ks,Xo⟩ : ∃ ls:List Int,[12,7]=ls:=⟨_,rfl⟩;have px:∀ x∈ks,x=12∨x=7:=by rw [<- Xo];intro x hx;simpa using hx
    have nks:ks.length=2:=by rw [<- Xo];rfl
    obtain ⟨i,hi,rfl,hm⟩:=ti px (i:=q) (by omega);obtain ⟨Xp,Uo⟩ : ∃ x,ks[i]=x:=⟨_,rfl⟩;rw [Uo] at hm;have cQ:i<2:=by omega
    obtain ⟨ls,CB⟩ : ∃ ls:List ByteArray,[pr,gf,Xm]=ls:=⟨_,rfl⟩;have FU:∀ x∈ls,x=pr∨x=gf∨x=Xm:=by rw [<- CB];intro x hx;simpa using hx
    have U5:ls.length=3:=by rw [<- CB];rfl
    obtain ⟨j2,YI,rfl,wy⟩:=ti FU (i:=r) (by omega);obtain ⟨Ku,uo⟩ : ∃ x,ls[j2]=x:=⟨_,rfl⟩;rw [uo] at wy;have Xq:j2<3:=by omega
    refine Wz ?_;refine SW.um (enc:=bw) (xs:=[.const (.int .i64 12),.const (.int .i64 7)]) [12,7] rfl rfl rfl rfl rfl rfl rfl rfl fun g3 w9 ar Un hL => ?_
    rw [Xo] at hL;have NG:=hL.sl.base;(obtain ⟨hw,bD,aC,hO⟩:=dG ar hw bD aC hO);clear ar;repeat' (first|refine Wz ?_|refine Wl (hL.sl.one cQ (congrArg bw Uo)) ?_|(refine Wk (cA _) ?_;intro v w1 ai hv;subst hv;obtain ⟨hw,bD,aC,hO,hL⟩:=fI ai hw bD aC hO hL;clear ai))
    refine Wb (i:=0) aC fun jb bA dA => ?_
    have dY:=aC.gr dA;have hw:=hw.own gK dA;(obtain ⟨bD,hO⟩:=cX dY bD hO);have aC:aS _ oB 35 (eB ⟨Xp,cpu,0,0,0,0,⟨#[]⟩⟩):=bA;clear bA dY dA;clear hL NG;refine Wz ?_;refine SW.um (enc:=encStr) (xs:=[.const (.string ⟨#[111,98]⟩),.const (.string ⟨#[112,97,105,114]⟩),.const (.string ⟨#[107,52]⟩)]) [pr,gf,Xm] rfl rfl rfl rfl rfl rfl rfl rfl fun g4 w9 ar g4b hL => ?_
    rw [CB] at hL;have NG:=hL.sl.base;(obtain ⟨hw,bD,aC,hO⟩:=dG ar hw bD aC hO);clear ar;repeat' (first|refine Wz ?_|refine Wl (hL.sl.one Xq (congrArg encStr uo)) ?_|(refine Wk (cC _) ?_;intro v w1 ai hv;subst hv;obtain ⟨hw,bD,aC,hO,hL⟩:=fI ai hw bD aC hO hL;clear ai))
    refine Wb (i:=6) aC fun jb bA dA => ?_
    have dY:=aC.gr dA;have hw:=hw.own gK dA;(obtain ⟨bD,hO⟩:=cX dY bD hO);have aC:aS _ oB 35 (eB ⟨Xp,cpu,0,0,0,0,Ku⟩):=bA;clear bA dY dA;refine Wz ?_;exact ae.lW (K:=KK) (by rw [AW];exact ⟨⟨Xp,cpu,0,0,0,0,Ku⟩,0,⟨rfl,rfl,rfl,rfl,rfl,rfl,rfl,trivial⟩,hw,aC,hO,.tidy hm (by rcases wy with e|e|e<;>(rw [e];decide))⟩)
   ·obtain ⟨p,hp,cA⟩:=ik A1 30 ⟨oO,FW⟩ (by decide);refine Wz ?_;refine Wb (i:=0) aC fun jb bA dA => ?_
    have dY:=aC.gr dA;have hw:=hw.own gK dA;(obtain ⟨bD,hO⟩:=cX dY bD hO);have aC:aS _ oB 35 (eB ⟨15,cpu,0,0,0,0,⟨#[]⟩⟩):=bA;clear bA dY dA;refine Wz ?_;refine Wb (i:=6) aC fun jb bA dA => ?_
    have dY:=aC.gr dA;have hw:=hw.own gK dA;(obtain ⟨bD,hO⟩:=cX dY bD hO);have aC:aS _ oB 35 (eB ⟨15,cpu,0,0,0,0,pr⟩):=bA;clear bA dY dA;repeat' (first|refine Wz ?_|(refine Wk (cA _) ?_;intro v w1 ai hv;subst hv;obtain ⟨hw,bD,aC,hO⟩:=dG ai hw bD aC hO;clear ai))
    refine Wb (i:=2) aC fun jb bA dA => ?_
    have dY:=aC.gr dA;have hw:=hw.own gK dA;(obtain ⟨bD,hO⟩:=cX dY bD hO);have aC:aS _ oB 35 (eB ⟨15,cpu,(1+p),0,0,0,pr⟩):=bA;clear bA dY dA;refine Wz ?_;exact ae.lW (K:=KK) (by rw [AW];exact ⟨⟨15,cpu,(1+p),0,0,0,pr⟩,0,⟨rfl,rfl,rfl,rfl,rfl,rfl,rfl,trivial⟩,hw,aC,hO,.bulk (by omega)⟩)
   ·obtain ⟨q,hq,cC⟩:=ik C1 1000 ⟨RS,Bh⟩ (by decide);obtain ⟨p,hp,cA⟩:=ik A1 9 ⟨oO,FW⟩ (by decide);refine Wz ?_;refine Wb (i:=0) aC fun jb bA dA => ?_
    have dY:=aC.gr dA;have hw:=hw.own gK dA;(obtain ⟨bD,hO⟩:=cX dY bD hO);have aC:aS _ oB 35 (eB ⟨13,cpu,0,0,0,0,⟨#[]⟩⟩):=bA;clear bA dY dA;repeat' (first|refine Wz ?_|(refine Wk (cC _) ?_;intro v w1 ai hv;subst hv;obtain ⟨hw,bD,aC,hO⟩:=dG ai hw bD aC hO;clear ai))
    refine Wb (i:=3) aC fun jb bA dA => ?_
    have dY:=aC.gr dA;have hw:=hw.own gK dA;(obtain ⟨bD,hO⟩:=cX dY bD hO);have aC:aS _ oB 35 (eB ⟨13,cpu,0,q,0,0,⟨#[]⟩⟩):=bA;clear bA dY dA;repeat' (first|refine Wz ?_|(refine Wk (cA _) ?_;intro v w1 ai hv;subst hv;obtain ⟨hw,bD,aC,hO⟩:=dG ai hw bD aC hO;clear ai))
    exact ae.lW (K:=KK) (by rw [AW];exact ⟨⟨13,cpu,0,q,0,0,⟨#[]⟩⟩,1+p,⟨rfl,rfl,rfl,rfl,rfl,rfl,rfl,trivial⟩,hw,aC,hO,.write (by omega) (by omega)⟩)
   ·obtain ⟨p,hp,cA⟩:=ik A1 9 ⟨oO,FW⟩ (by decide);refine Wz ?_;refine Wb (i:=0) aC fun jb bA dA => ?_
    have dY:=aC.gr dA;have hw:=hw.own gK dA;(obtain ⟨bD,hO⟩:=cX dY bD hO);have aC:aS _ oB 35 (eB ⟨14,cpu,0,0,0,0,⟨#[]⟩⟩):=bA;clear bA dY dA;repeat' (first|refine Wz ?_|(refine Wk (cA _) ?_;intro v w1 ai hv;subst hv;obtain ⟨hw,bD,aC,hO⟩:=dG ai hw bD aC hO;clear ai))
    exact ae.lW (K:=KK) (by rw [AW];exact ⟨⟨14,cpu,0,0,0,0,⟨#[]⟩⟩,1+p,⟨rfl,rfl,rfl,rfl,rfl,rfl,rfl,trivial⟩,hw,aC,hO,.read (by omega)⟩)
  ·clear hw bD aC hO;subst AW;rintro L' w' ⟨a,o,jw,hw,aC,hO,hx⟩
   refine ae.sub jw ?_;refine Wz ?_;refine SW.dR rfl rfl rfl rfl rfl fun abj w9 th Xr Up => ?_
   (obtain ⟨hw,hO⟩:=cX th hw hO);clear th;refine SW.append hO (aS.vF (enc:=rE) (x:=⟨a,o⟩) Up) hw.size rfl rfl rfl (by omega) (by omega) fun Y f qU lm hg => ?_
   have hw:=aF hw hg (ac3 _) hO.ba;clear hO hg;rw [ac6] at lm;refine Wz ?_
   exact ae.again (j+1,⟨Y,z.n+1,f⟩,ys++[⟨a,o⟩]) ⟨rfl,rfl,rfl,rfl,rfl,trivial⟩ (by simp only;omega) ⟨by simp only;omega,by simp only;omega,by simp only;omega,by simp [hy],hw,lm,fun x py=>by
    rcases ac9.1 py with h|h
    ·exact hR x h
    ·simp only [List.mem_singleton] at h;rw [h];exact hx⟩
 ·repeat' (first|refine Wz ?_|refine SW.fZ rfl rfl rfl (fun h => ?_) (fun h => ?_))
  all_goals try omega
  all_goals exact ae.bj rfl rfl ⟨_,rfl,hw,z,ys,rfl,hO,hR,by omega⟩
set_option maxRecDepth 100000
open Go.ChangeShapes Go.WideShapes Go.ChangeAt Go.RowKit Go.Deep Go.Joins
variable {H:Type} {held:Bool} {cs:List Value} {fuel:Nat} {spare:Nat->Bool} {W:World}
theorem RT {enc:TypeId×Value->H} {base:Nat} {x:DataW H×List MemPlace}
 (h:DataW.trod enc prog W base spare held fuel 88 cs=some x) : ∃ r:HB,cs=FE r∧IX r:=by
 obtain ⟨xs,n,_,_,hlen,nF,hf⟩:=DataW.trod_struct Tryz.underlying88 h;have hc:prog.cellsOf 88=4:=by kernel_rfl
 have hi:prog.cellsOf 3=1:=by kernel_rfl
 rw [hc] at hlen
 match cs,hlen with
 | [c0,c1,c2,c3],_ =>
   match xs,nF with
   | [y0,y1,y2,y3],_ =>
     have h0:DataW.trod enc prog W base spare held n 3 (List.take (prog.cellsOf 3) (List.drop 0 [c0,c1,c2,c3]))=some y0:=hf 0 _ rfl
     have h1:DataW.trod enc prog W base spare held n 3 (List.take (prog.cellsOf 3) (List.drop 1 [c0,c1,c2,c3]))=some y1:=hf 1 _ rfl
     have h2:DataW.trod enc prog W base spare held n 3 (List.take (prog.cellsOf 3) (List.drop 2 [c0,c1,c2,c3]))=some y2:=hf 2 _ rfl
     have h3:DataW.trod enc prog W base spare held n 3 (List.take (prog.cellsOf 3) (List.drop 3 [c0,c1,c2,c3]))=some y3:=hf 3 _ rfl
     rw [hi] at h0 h1 h2 h3;obtain ⟨a,ha,wa⟩:=Di Tryz.underlying3 h0;obtain ⟨b,hb,wb⟩:=Di Tryz.underlying3 h1;obtain ⟨c,Wd,wc⟩:=Di Tryz.underlying3 h2;obtain ⟨d,hd,wd⟩:=Di Tryz.underlying3 h3;simp [bw] at ha hb Wd hd;subst ha hb Wd hd;exact ⟨⟨a,b,c,d⟩,rfl,⟨wa,wb,wc,wd⟩⟩
variable {cpus:Int} {s s0:ah} {j:Nat}
structure Start (s:ah) : Prop where
 sys:dI s
 bare:xM s
 shape:kk s=lF
theorem Ph.sys {l:List bT} (h:Ph s0 j s l) (h0:Start s0) : dI s:=by
 cases h with
 | p0=>exact h0.sys
 | p1 _ h _ _=>exact h
 | go _ h=>exact h.sys
structure Uq (s0:ah) (j:Nat) (s:ah) (l:List bT) (x:uk) : Prop where
 free : ¬ 0<x.Of->pu s0 j s l x.act (-1)
 top:x.Of<=9
 pass : 0<x.Of->Ph s0 (j+1) s l
 at_:∀ (i:Nat) (hi:i<l.length),0<=l[i].At∧l[i].At<=100000
 pick : 0<x.Of -> ∀ (i:Nat) (hi:i<l.length),Ay x.act l[i]->pu s0 j s l (dy x.act (sC x.act l[i])) (i:Int)
theorem asked {l:List bT} {l':List uk} (hP:Ph s0 j s l) (h0:Start s0) (hR:∀ x∈l',re cpus x) {x:uk} (hj:j<([oq,jr]++l').length) (hx:([oq,jr]++l')[j]=x) : Uq s0 j s l x:=by
 cases hP with
 | p0 =>
   have e:oq=x:=hx
   subst e;exact ⟨fun _=>Ng h0.sys h0.bare h0.shape,by decide,fun h=>absurd h (by decide),(fun i hi=>by cases hi),fun h=>absurd h (by decide)⟩
 | p1 hc hI hb hs =>
   have e:jr=x:=hx
   subst e;exact ⟨fun _=>Nh hc hI hb hs,by decide,fun h=>absurd h (by decide),(fun i hi=>by cases hi),fun h=>absurd h (by decide)⟩
 | go h2 ho =>
   have hm:re cpus x:=by
    refine hR x ?_;rw [<- hx,aek (by simpa using h2)];exact ac0 _
   refine ⟨fun h=>Ni h2 ho hm h,?_,fun _ => .go (by omega) ho,fun i hi => ?_,fun h i hi hp=>Nj h2 ho hm h hi hp⟩
   ·cases hm<;>simp only<;>omega
   ·obtain ⟨q,hq⟩:=ho.fits _ (ac0 hi);have:=fR ho.sys.may hq.rD
    omega
theorem Kv (A:Option Addr) (n c:Nat) (l:List Int) (x y:Int) (w:World) (hl:Sl w 1 bw A n l) (hn:n*8<=140737488355328) :
 bI prog 75 [.slice A n c,.int .i64 x,.int .i64 y] w fun v w' =>
  if 0<=x∧x<n then ∃ A c,v = .tuple #[.slice A n c,.int .i64 0]∧Own w' w.heap.size 3 1 bw A n c (l.set x.toNat y) else v = .tuple #[.slice none 0 0,.int .i64 1]:=by
 refine aE func75 rfl ntmps75 rfl ?_;have hw:=Ext.refl w;have kb:n<=2305843009213693952:=by omega
 by_cases hx : 0<=x∧x<n
 ·obtain ⟨k,rfl⟩:=ada hx.1;have hk:k<n:=by omega
  repeat' (first|refine Wz ?_|(refine Wk (qt _ _ _ _ _ _ kb) ?_;intro v w1 ai hv;subst hv;have hw:=hw.trans ai;clear ai))
  refine Wk (dB _ _ _ _ _ (hl.ext hw) hn) fun v w1 ai hv => ?_
  obtain ⟨A1,c1,rfl,hO⟩:=hv;have dz:=hw.size;have hw:=hw.trans ai;have oO:=hO.sl.base;refine Wz ?_;refine SW.qp k hO rfl rfl hk fun w2 bh hg => ?_
  have hw:=aF hw hg dz hO.ba;refine Wz ?_;refine ae.dj rfl rfl rfl ⟨_,rfl,hw,?_⟩;rw [if_pos hx];exact ⟨A1,c1,rfl,Own.low bh dz⟩
 ·repeat' (first|refine Wz ?_|(refine Wk (qt _ _ _ _ _ _ kb) ?_;intro v w1 ai hv;subst hv;have hw:=hw.trans ai;clear ai))
  refine ae.dj rfl rfl rfl ⟨_,rfl,hw,?_⟩;rw [if_neg hx]
theorem Pa (t:Int) (b8:Nat) (x:Block) (w:World) (h8:aS w b8 3 [.int .i64 t]) (hx : 0<=x.At∧x.At<=255) (ho : 0<=x.Order∧x.Order<=4) :
 bI prog 129 ([.agg (aO x).toArray]++[.pointer (some ⟨b8,0,none⟩)]) w fun v _=>v = .bool (decide (x.At<=t) && decide (t<x.At+pw x.Order)):=by
 refine aE func129 rfl ntmps129 rfl ?_;refine CW.seq (CW.region (SW.box rfl rfl fun b2 w1 hw fk au => ?_));have h8:=h8.ext hw;have IA:=h8.cell (i:=0) (v := .int .i64 t) rfl;rw [add_zero] at IA;have hp:=cy ho.1 ho.2;by_cases h1:x.At<=t
 ·repeat' (first|refine Wz ?_|((apply CW.bF mixed;(· kernel_rfl);rotate_left;intro w1 ai;obtain ⟨hw,au,h8⟩:=cj ai hw au h8;clear ai;rotate_right))|refine Wl IA ?_|(refine SW.st (fA (r:=pw x.Order) rfl rfl (by omega) (by omega) (by simp [pw]) (by omega) (by omega)) rfl ?_)|exact SW.eI rfl)
  exact ae.bj rfl rfl ⟨_,rfl,hw,by simp [h1]⟩
 ·repeat' (first|refine Wz ?_|((apply CW.bF mixed;(· kernel_rfl);rotate_left;intro w1 ai;obtain ⟨hw,au,h8⟩:=cj ai hw au h8;clear ai;rotate_right))|refine Wl IA ?_|exact SW.eI rfl)
  exact ae.bj rfl rfl ⟨_,rfl,hw,by simp [h1]⟩
set_option maxHeartbeats 4000000 in
theorem HC (r:db) (s:ah) (a:Int) (w:World) (hr:AM w r s) (hf:s.cV) (hM:aB s) (ha : -9223372036854775808<=a∧a<=9223372036854775807) :
 bI prog 74 [.agg (aP r).toArray,.int .i64 a] w fun v _ => ∃ b,gb s a b∧v = .bool b:=by
 refine aE func74 rfl ntmps74 rfl ?_;refine CW.seq (CW.region (SW.box rfl rfl fun b2 w1 hw fk au => ?_));have hs:=hf.small;obtain ⟨cs,hc⟩:=hr.br;obtain ⟨z1,z2⟩:=hc.len;have wl:=hr.words.len;have m1:=hs.words;have m3:=hs.br;by_cases hb : 0<=a∧a<s.Words.length
 rotate_left
 ·have lJ:a<0∨(0<=a∧(s.Words.length:Int)<=a):=by omega
  rcases lJ with h|h
  all_goals refine Wz ?_
  all_goals exact ae.bj rfl rfl ⟨_,rfl,hw,_,.out hb,rfl⟩
 obtain ⟨aW,ap⟩:=id hb;refine Wz ?_
 refine CW.loop (fun k:Nat=>[(1,.int .i64 a),(2,.pointer (some ⟨b2,0,none⟩)),(24,.slice r.aa.A r.aa.n r.aa.c),(25,.int .i64 (r.aa.n:Int)),(26,.int .i64 (k:Int))])
  (fun k w'=>k<=r.aa.n∧Ext w w'∧aS w' b2 44 (aP r) ∧ ∀ (j:Nat) (h:j<s.aa.length),j<k -> ∀ x∈s.aa[j].ab,¬ kR s.aa[j] x a) (fun k=>r.aa.n-k) 0
  ⟨rfl,rfl,rfl,rfl,rfl,trivial⟩ ⟨by omega,hw,au,fun j h h'=>by omega⟩ ?_
 clear hw au;rintro i w' ⟨hk,hw,au,hI⟩
 have hA:=hc.row.base;by_cases cQ:i<r.aa.n
 ·have oS:i<cs.length:=by omega
  have rI:i<s.aa.length:=by omega
  have jU:=hc.each.get i oS rI;have sm:=hs.each _ (ac0 rI);have PI:=(hM.each i rI).may;obtain ⟨l1,l2,l3⟩:=cd PI.lay;have eS:=jU.size;have eO:=jU.order;have n2:=jU.aD.len;have m2:=sm.aD;have hS : 1<=cs[i].aA∧cs[i].aA<=64:=by omega
  have hO : 0<=cs[i].Order∧cs[i].Order<=4:=by omega
  have hp:=cy hO.1 hO.2;repeat' (first|refine Wz ?_|refine SW.st (vE hw rfl rfl ((hc.row.all cQ))) rfl ?_)
  refine SW.alloc rfl fun b6 w1 ai dt aq => ?_
  skip;refine SW.ag aq rfl rfl rfl rfl (BA _) fun w2 bP hg => ?_
  have ar:=ai.own dt hg;have cG:=hw.up dt
  have hw:=hw.trans ar;have au:=au.ext ar;have aq:=bP;clear bP ai hg ar;refine Wz ?_
  refine CW.loop (fun k:Nat=>[(1,.int .i64 a),(2,.pointer (some ⟨b2,0,none⟩)),(6,.pointer (some ⟨b6,0,none⟩)),(24,.slice r.aa.A r.aa.n r.aa.c),(25,.int .i64 (r.aa.n:Int)),(26,.int .i64 (i:Int)),(31,.slice cs[i].ab.A cs[i].ab.n cs[i].ab.c),(32,.int .i64 (cs[i].ab.n:Int)),(33,.int .i64 (k:Int))])
   (fun k w'=>k<=cs[i].ab.n∧Ext w w'∧aS w' b2 44 (aP r)∧aS w' b6 107 (fK cs[i]) ∧ ∀ (j:Nat) (h:j<s.aa[i].ab.length),j<k -> ¬ kR s.aa[i] s.aa[i].ab[j] a) (fun k=>cs[i].ab.n-k) 0
   ⟨rfl,rfl,rfl,rfl,rfl,rfl,rfl,rfl,rfl,trivial⟩ ⟨by omega,hw,au,aq,fun j h h'=>by omega⟩ ?_
  clear hw au aq;rintro k w' ⟨hk,hw,au,aq,hJ⟩
  have oO:=jU.aD.base;by_cases gh:k<cs[i].ab.n
  ·have iw:k<s.aa[i].ab.length:=by omega
   obtain ⟨x,hx⟩ : ∃ x,s.aa[i].ab[k]=x:=⟨_,rfl⟩;have R4:x∈s.aa[i].ab:=by rw [<- hx];exact ac0 iw
   have gS:=jU.aD.all gh;rw [hx] at gS;have ht:=(PI.oP (hM.heap)) x R4;repeat' (first|refine Wz ?_|refine SW.st (vE hw rfl rfl gS) rfl ?_)
   refine SW.alloc rfl fun b8 w1 ai oC bg => ?_
   skip;refine SW.ag bg rfl rfl rfl rfl (im.one (enc:=bf) _) fun w2 tu hg => ?_
   have ar:=ai.own oC hg;have gz:=hw.up oC
   have hw:=hw.trans ar;have au:=au.ext ar;have aq:=aq.ext ar;have bg:=tu;clear tu ai hg ar;by_cases nN:kR s.aa[i] x a
   ·have J7:=nN;unfold kR at J7;rw [<- eO] at J7;have Wi:(a-x.At*16).tmod cs[i].aA=(a-x.At*16) % cs[i].aA:=adE (by omega)
    have GU:=afe (a-x.At*16) (show cs[i].aA≠0 by omega);have wy:=aeU (a-x.At*16) (show 0<cs[i].aA by omega);have E7:cs[i].aA≠0:=by omega
    repeat' (first|refine Wz ?_|(refine SW.st (fA (r:=16*pw cs[i].Order) rfl rfl (by omega) (by omega) (by simp [pw]) (by omega) (by omega)) rfl ?_))
    refine CW.any 14 mixed (dg (by kernel_rfl)) rfl fun w1 ai aJ => ?_
    have hw:=hw.trans ai;have au:=au.ext ai;have aq:=aq.ext ai;have bg:=bg.ext ai;clear ai;refine Wa ?_;refine SA.one 7 rfl (by kernel_rfl) rfl ?_;refine SW.call rfl rfl (vf r s _ _ (hr.ext hw) hf (by rw [Wi];omega)) fun v w4 ar hv => ?_
    obtain ⟨u,hu,rfl⟩:=hv;obtain ⟨u1,u2,u3⟩:=u;simp only [BP];(have hw:=hw.trans ar;have au:=au.ext ar;have aq:=aq.ext ar;have bg:=bg.ext ar);refine SW.nil (ae.sa ar ?_);refine Wa ?_;refine SA.done (by kernel_rfl) ?_;rw [Wi,eS] at hu;have hW:=gb.pi hb (ac0 rI) R4 nN hu;by_cases h0:u3=0
    ·refine Wz ?_;exact ae.bj rfl rfl ⟨_,rfl,hw,_,hW,by simp [h0]⟩
    ·refine Wz ?_;exact ae.bj rfl rfl ⟨_,rfl,hw,_,hW,by simp [h0]⟩
   ·have J7:=nN;unfold kR at J7;rw [<- eO] at J7;have lJ:a-x.At*16<0∨(0<=a-x.At*16∧16*pw cs[i].Order<=a-x.At*16):=by omega
    have wV:∀ (j:Nat) (h:j<s.aa[i].ab.length),j<k+1 -> ¬ kR s.aa[i] s.aa[i].ab[j] a:=fun j h h'=>by
     by_cases e:j=k
     ·subst e;rw [hx];exact nN
     ·exact hJ j h (by omega)
    rcases lJ with h|h
    all_goals repeat' (first|refine Wz ?_|(refine SW.st (fA (r:=16*pw cs[i].Order) rfl rfl (by omega) (by omega) (by simp [pw]) (by omega) (by omega)) rfl ?_))
    all_goals exact ae.again (k+1) ⟨rfl,rfl,rfl,rfl,rfl,rfl,rfl,rfl,rfl,trivial⟩ (by omega) ⟨by omega,hw,au,aq,wV⟩
  ·refine Wz ?_
   exact ae.again (i+1) ⟨rfl,rfl,rfl,rfl,rfl,trivial⟩ (by omega) ⟨by omega,hw,au,fun j h h'=>by
    by_cases e:j=i
    ·subst e;intro x hx;obtain ⟨q,hq,rfl⟩:=ac1 hx;exact hJ q hq (by omega)
    ·exact hI j h (by omega)⟩
 ·have oD:∀ c∈s.aa,∀ x∈c.ab,¬ kR c x a:=fun c hc x hx=>by
   obtain ⟨j,hj,rfl⟩:=ac1 hc;exact hI j hj (by omega) x hx
  have hq:a.tdiv 16=a / 16:=aeW aW
  obtain ⟨t,ht⟩ : ∃ t,a / 16=t:=⟨_,rfl⟩;have mv:=hr.heap.live.len;have m5:=hs.heap.live;refine Wz ?_;refine SW.alloc rfl fun tz w2 bt Xs cw => ?_
  have Xt:=hw.up Xs
  (have hw:=hw.trans bt;have au:=au.ext bt);skip;refine SW.rR (i:=0) cw rfl rfl rfl rfl fun w3 lI hg => ?_
  have hG:=cw.gr hg;have hw:=hw.own Xt hg;(have au:=au.aN hG rfl);have cw:aS w3 tz 3 [.int .i64 t]:=by rw [<- ht];exact lI
  clear lI hg hG;repeat' (first|refine Wz ?_|(refine SW.st (jg (vs:=[.pointer (some ⟨tz,0,none⟩)]) rfl) rfl ?_))
  refine SW.call rfl rfl (lQ _ _ _ s.Heap.Live _ (hr.heap.live.ext hw) _ [.pointer (some ⟨tz,0,none⟩)] (fun b=>decide (b.At<=t) && decide (t<b.At+pw b.Order)) (fun x => .agg (aO x).toArray) (fun x=>rfl)
   (fun x R4 w1 lf=>by
     obtain ⟨k,hk,rfl⟩:=ac1 R4;have hl:=hM.heap.live.each k hk;exact Pa t tz _ w1 (cw.ext lf) hl.2.1 hl.1) (by omega)) fun v w4 ko hv => ?_
  subst hv;have hw:=hw.trans ko;have hW:=gb.bC hb oD;unfold z8 at hW;rw [ht] at hW;refine Wz ?_;exact ae.bj rfl rfl ⟨_,rfl,hw,_,hW,rfl⟩
set_option maxHeartbeats 4000000 in
theorem FF (r:db) (s:ah) (a:cJ) (lo:Nat) (w:World) (hO:iT w lo r s) (dz:lo<=w.heap.size) (hI:dI s) (Bj : -9223372036854775808<=a.At∧a.At<=9223372036854775807) :
 bI prog 36 [.agg (aP r).toArray,.agg (eB a).toArray] w fun v w' => ∃ u,lS s a u ∧ ∃ q,v = .tuple #[.agg (aP q).toArray,.int .i64 u.2.1,.int .i64 u.2.2]∧iT w' lo q u.1:=by
 obtain ⟨k,cpu,n,m,At,fl,nm⟩:=a;simp only at Bj;have hf:=hI.cV;have hs:=hf.small;have hM:=hI.may;have Sb:=hM.words;have wl:=hO.words.len;refine aE func36 rfl ntmps36 rfl ?_;refine CW.seq (CW.region (SW.box rfl rfl fun b2 w1 hw fk au => ?_));have l2:=au.lt;refine SW.box rfl rfl fun b3 w2 bt cg ap => ?_
 have fW:=hw.up cg
 (obtain ⟨hw,au⟩:=cX bt hw au);clear bt;have l3:=ap.lt;refine SW.alloc rfl fun b4 w2 bt fJ aH => ?_
 have eu:=hw.up fJ
 (obtain ⟨hw,au,ap⟩:=cj bt hw au ap);clear bt;have Nl:b2≠b4:=by omega
 have Nr:b4≠b2:=by omega
 repeat' (first|refine Wy ?_|refine Wm ((fun _ _=>au.cell)) ?_|refine Wl (ap.cell (i:=4) (v := .int .i64 At) rfl) ?_)
 refine Wk (HC r s At _ (hO.rd.ext hw) hf hM Bj) fun v w3 nL hv => ?_
 obtain ⟨b,hb,rfl⟩:=hv;(obtain ⟨hw,au,ap,aH⟩:=dG nL hw au ap aH);clear nL;have bh:=hO.ext hw;cases b
 ·have hR:=lS.no (a:=⟨k,cpu,n,m,At,fl,nm⟩) hb;repeat' (first|refine Wy ?_|(refine CW.gj rfl ?_)|refine Wm ((fun _ _=>au.cell)) ?_)
  refine SW.ag aH rfl rfl rfl rfl (aY r) fun w7 jT hg => ?_
  have hG:=aH.gr hg;have hw:=hw.own eu hg;(have bh:=bh.aN hG rfl);repeat' (first|refine Wy ?_|fail);exact ae.e8 rfl rfl rfl rfl jT rfl ⟨_,rfl,hw,_,hR,r,rfl,bh⟩
 have cQ : 0<=At∧At<4096:=by
  generalize e:true=b at hb
  cases hb with
  | out=>cases e
  | pi h=>omega
  | bC h=>omega
 obtain ⟨an,rfl⟩:=ada cQ.1;have MK:an<r.Words.n:=by omega
 have ML:an<s.Words.length:=by omega
 have Y1:=hO.words.sl.base;by_cases RH:k=14
 ·have hR:=lS.read (a:=⟨k,cpu,n,m,an,fl,nm⟩) hb RH;have Pn:=hO.words.sl.one MK (congrArg bw (rfl:s.Words[an]=s.Words[an]));have e1:s.Words.getD ((an:Nat) : Int).toNat 0=s.Words[an]:=by simp [List.getD,ML]
  simp only [Int.ofNat_eq_natCast] at hR;rw [e1] at hR;subst RH;repeat' (first|refine Wy ?_|(refine CW.fU rfl ?_)|refine Wl (ap.cell (i:=0) (v := .int .i64 14) rfl) ?_)
  refine CW.gl 7 9 (fun w2=>iT w2 lo r s∧aS w2 b2 44 (aP r)∧aS w2 b3 35 (eB ⟨14,cpu,n,m,an,fl,nm⟩)) mixed (by kernel_rfl) fun w1 ai aJ => ?_
  obtain ⟨hw,au,ap,aH,bh⟩:=fI ai hw au ap aH bh;clear ai;refine Wt 0 [] [] aJ rfl (aX rfl rfl ((fun _ _=>au.cell))) ?_;refine SF.cq 1 [] aJ rfl (by kernel_rfl) (by kernel_rfl) (by kernel_rfl) (az rfl) (fun w2 hS=>az rfl) rfl ?_;refine SF.cq 2 [] aJ rfl (by kernel_rfl) (by kernel_rfl) (by kernel_rfl) (aT rfl (au.cell (i:=0) (v := .slice r.Words.A r.Words.n r.Words.c) rfl)) (fun w2 hS=>aT rfl (hS.2.1.cell (i:=0) (v := .slice r.Words.A r.Words.n r.Words.c) rfl)) rfl ?_;refine SF.cq 3 [] aJ rfl (by kernel_rfl) (by kernel_rfl) (by kernel_rfl) (az rfl) (fun w2 hS=>az rfl) rfl ?_;refine SF.cq 4 [] aJ rfl (by kernel_rfl) (by kernel_rfl) (by kernel_rfl) (aT rfl (ap.cell (i:=4) (v := .int .i64 (an:Int)) rfl)) (fun w2 hS=>aT rfl (hS.2.2.cell (i:=4) (v := .int .i64 (an:Int)) rfl)) rfl ?_;refine SF.cq 5 [] aJ rfl (by kernel_rfl) (by kernel_rfl) (by kernel_rfl) (bZ rfl rfl (by assumption) (by omega)) (fun w2 hS=>bZ rfl rfl (by assumption) (by omega)) rfl ?_;refine SF.cq 6 [] aJ rfl (by kernel_rfl) (by kernel_rfl) (by kernel_rfl) (aT rfl (bh.words.sl.one MK (congrArg bw (rfl:s.Words[an]=s.Words[an])))) (fun w2 hS=>aT rfl (hS.1.words.sl.one MK (congrArg bw (rfl:s.Words[an]=s.Words[an])))) rfl ?_;refine SF.turn rfl (by kernel_rfl) rfl ?_;refine SW.ag aH rfl rfl rfl rfl (aY r) fun w8 cW hg => ?_
  have hG:=aH.gr hg;have au:=au.grown hg (by simpa using Nl);have hw:=hw.own eu hg;(obtain ⟨bh,ap⟩:=cX hG bh ap);have hS:=And.intro bh (And.intro au ap);refine SW.nil (ae.sg hS ?_);refine SG.one 8 rfl (by kernel_rfl) rfl ?_;repeat (refine SW.pure rfl rfl ?_)
  refine SW.nil (ae.sg hS ?_);refine SG.last rfl (by kernel_rfl) (by kernel_rfl) ?_;repeat' (first|refine Wy ?_|fail);exact ae.e8 rfl rfl rfl rfl cW rfl ⟨_,rfl,hw,_,hR,r,rfl,bh⟩
 by_cases hm:qW m
 rotate_left
 ·have hR:=lS.range (a:=⟨k,cpu,n,m,an,fl,nm⟩) hb RH hm;have wy:=hm;unfold qW at wy;have lJ:m < -1099511627776∨(-1099511627776<=m∧1099511627776<m):=by omega
  rcases lJ with h|h
  all_goals repeat' (first|refine Wy ?_|(refine CW.fU rfl ?_)|refine Wl (ap.cell (i:=0) (v := .int .i64 k) rfl) ?_|refine Wl (ap.cell (i:=3) (v := .int .i64 m) rfl) ?_|refine Wm ((fun _ _=>au.cell)) ?_)
  all_goals
   refine SW.ag aH rfl rfl rfl rfl (aY r) fun w7 jT hg => ?_
   have hG:=aH.gr hg;have hw:=hw.own eu hg;(have bh:=bh.aN hG rfl);repeat' (first|refine Wy ?_|fail);exact ae.e8 rfl rfl rfl rfl jT rfl ⟨_,rfl,hw,_,hR,r,rfl,bh⟩
 have hR:=lS.write (a:=⟨k,cpu,n,m,an,fl,nm⟩) hb RH hm;have wy:=hm;unfold qW at wy;repeat' (first|refine Wy ?_|(refine CW.fU rfl ?_)|refine Wl (ap.cell (i:=0) (v := .int .i64 k) rfl) ?_|refine Wl (ap.cell (i:=3) (v := .int .i64 m) rfl) ?_|refine Wl (ap.cell (i:=4) (v := .int .i64 (an:Int)) rfl) ?_|refine Wl (au.cell (i:=0) (v := .slice r.Words.A r.Words.n r.Words.c) rfl) ?_)
 refine Wk (Kv r.Words.A r.Words.n r.Words.c s.Words an m _ (hO.words.sl.ext hw) (by omega)) fun v w4 ko hv => ?_
 rw [if_pos (by omega)] at hv;obtain ⟨A,c,rfl,RU⟩:=hv;have RU:=RU.low (ac2 dz hw.size);(obtain ⟨hw,au,ap,aH,bh⟩:=fI ko hw au ap aH bh);clear ko;repeat' (first|refine Wy ?_|fail);refine Wb (i:=0) au fun w5 oe hg => ?_
 have hG:=au.gr hg;have aH:=aH.grown hg (by simpa using Nr);have hw:=hw.own fk hg;(obtain ⟨ap,bh,RU⟩:=cj hG ap bh RU);have au:aS w5 b2 44 (aP ⟨⟨A,r.Words.n,c⟩,r.Heap,r.aa⟩):=oe;clear oe hG hg;repeat' (first|refine Wy ?_|refine Wm ((fun _ _=>au.cell)) ?_)
 refine SW.ag aH rfl rfl rfl rfl (aY ⟨⟨A,r.Words.n,c⟩,r.Heap,r.aa⟩) fun w7 jT hg => ?_
 have hG:=aH.gr hg;have hw:=hw.own eu hg;(obtain ⟨bh,RU⟩:=cX hG bh RU);repeat' (first|refine Wy ?_|fail);exact ae.e8 rfl rfl rfl rfl jT rfl ⟨_,rfl,hw,_,hR,⟨⟨A,r.Words.n,c⟩,r.Heap,r.aa⟩,rfl,RU,bh.heap,bh.br⟩
variable {cpu:Int} {c:aQ} {l':List Slab} {i k lo:Nat} {w':World}
theorem FG (u:dN) (c:aQ) (x:Slab) (w:World) (hr:Gu w u c) (hn:u.ao.n<=9223372036854775807) :
 bI prog 102 [.agg (fK u).toArray,.agg (bf x).toArray] w fun v _=>v = .bool (n7 c x):=by
 refine aE func102 rfl ntmps102 rfl ?_;refine CW.seq (CW.region (SW.box rfl rfl fun b2 w1 hw fk au => ?_));refine SW.box rfl rfl fun b3 w3 nL cg ap => ?_
 (obtain ⟨hw,au⟩:=cX nL hw au);obtain ⟨q,hq⟩ : ∃ q,decide (x.At∈c.ao)=q:=⟨_,rfl⟩
 have cC:∀ w',Ext w w'->bI prog 125 [.slice u.ao.A u.ao.n u.ao.c,.int .i64 x.At] w' fun v _=>v = .bool q:=fun w' hx=>by
  have:=g7 _ _ u.ao.c _ x.At _ (hr.aZ.ext hx) hn
  rwa [hq] at this
 have MI:=hr.per;by_cases hf:x.aj=c.bK
 ·repeat' (first|refine Wz ?_|(refine Wk (cC _ hw) ?_;intro v w1 ai hv;subst hv;obtain ⟨hw,au,ap⟩:=cj ai hw au ap;clear ai))
  all_goals try omega
  exact ae.bj rfl rfl ⟨_,rfl,hw,by unfold n7;rw [hq,decide_eq_true hf];simp⟩
 ·refine Wz ?_;all_goals try omega
  exact ae.bj rfl rfl ⟨_,rfl,hw,by unfold n7;rw [decide_eq_false hf];simp⟩
theorem sk.Pb {r:db} {cs:List dN} {p:Heap×aQ} (h:SX w lo r (bH s i p) cs) (hi:i<cs.length) (nO:i<s.aa.length) (hO:Own w' lo 111 3 bf cs[i].ab.A cs[i].ab.n cs[i].ab.c l') (hg:w.grownBy w' (aI cs[i].ab.A cs[i].ab.c)) :
 SX w' lo r (bH s i (p.1,⟨p.2.Names,p.2.aA,p.2.bK,p.2.Order,l',p.2.ao⟩)) cs:=by
 have:=h.Dk hi nO hO hg
 have e:cs.set i ⟨cs[i].Names,cs[i].aA,cs[i].bK,cs[i].Order,⟨cs[i].ab.A,cs[i].ab.n,cs[i].ab.c⟩,cs[i].ao⟩=cs:=adK hi
 rwa [e] at this
theorem FH (p : α -> Bool) (l:List α) (k:Nat) (hk:k<l.length) : (l.take (k+1)).countP p=(l.take k).countP p+(if p l[k] then 1 else 0):=by
 rw [ac5 hk,List.countP_append,List.countP_singleton]
theorem Pc {x:Slab} (h:n7 (ie c k x a) ⟨x.At,x.aj+1,a⟩=false) : vg s c k x cpu a=(s.Heap,ie c k x a):=by unfold vg;rw [h];simp
theorem Ns {x:Slab} (h : ¬ 1<(ie c k x a).ab.countP (n7 (ie c k x a))) : vg s c k x cpu a=(s.Heap,ie c k x a):=by unfold vg;rw [decide_eq_false h];simp
theorem Nt {x:Slab} (h:n7 (ie c k x a) ⟨x.At,x.aj+1,a⟩=true) (h1 : 1<(ie c k x a).ab.countP (n7 (ie c k x a))) : vg s c k x cpu a=((fa s.Heap cpu x.At).2,eH (ie c k x a) k):=by unfold vg;rw [h,decide_eq_true h1];simp
set_option maxHeartbeats 8000000 in
theorem rh (r:db) (s:ah) (n:ByteArray) (cpu a:Int) (w:World) (hr:AM w r s) (hf:s.cV) (NL:n.size<=140737488351232) (ha : -9223372036854775808<=a∧a<=9223372036854775807) :
 bI prog 57 [.agg (aP r).toArray,.string n,.int .i64 cpu,.int .i64 a] w fun v w' => ∃ u,qN s n cpu a u∧iN w.heap.size u v w':=by
 refine aE func57 rfl ntmps57 rfl ?_;refine CW.seq (CW.region (SW.box rfl rfl fun b4 w1 hw fJ aH => ?_));refine SW.alloc rfl fun b8 w3 nL oC bg => ?_
 have gz:=hw.up oC
 have bL:b8≠b4:=by have:=aH.lt;omega
 (obtain ⟨hw,aH⟩:=cX nL hw aH);refine Wz ?_;refine Wk (yq r s n cpu _ (hr.ext hw) hf NL) fun v w4 ar hv => ?_
 have oy:=hw.size;(obtain ⟨hw,aH,bg⟩:=cj ar hw aH bg);rcases hv with ⟨he,rfl⟩|⟨he,q,cs,rfl,hO,hI⟩
 ·obtain ⟨e,hE⟩ : ∃ e,iO s n cpu=e:=⟨_,rfl⟩;have hP:=qN.ask (a:=a) he;rw [hE] at he hP;rw [hE];refine Wz ?_;refine SW.ag aH rfl rfl rfl rfl (aY .zero) fun w5 cW hg => ?_
  have bg:=bg.grown hg (by simpa using bL);have hw:=hw.own fJ hg;refine Wz ?_;all_goals try omega
  refine SW.ag bg rfl rfl rfl rfl (aY .zero) fun w6 cS hg => ?_
  have hw:=hw.own gz hg;refine Wz ?_;exact ae.dw rfl rfl rfl cS rfl ⟨_,rfl,hw,_,hP,iN.zero e _ _⟩
 ·have hO:=hO.low oy;have hI:=hI.low oy;obtain ⟨ix,rG⟩ : ∃ ix,idxOf (dO n) s.aa=ix:=⟨_,rfl⟩;rw [rG];refine Wz ?_;refine SW.ag aH rfl rfl rfl rfl (aY q) fun w5 cW hg => ?_
  have hG:=aH.gr hg;have bg:=bg.grown hg (by simpa using bL);have hw:=hw.own fJ hg;(obtain ⟨hO,hI⟩:=cX hG hO hI);have aH:=cW;clear cW hG hg;refine Wz ?_;refine Wk (vf q s a _ hO.xH.rd hf ha) fun v w6 ar hv => ?_
  obtain ⟨⟨j,k,e⟩,hF,rfl⟩:=hv;(obtain ⟨hw,aH,bg,hO,hI⟩:=fI ar hw aH bg hO hI);simp only [BP];by_cases hh:e=0∧j=ix
  ·obtain ⟨rfl,rfl⟩:=hh;have hF0:=hF;obtain ⟨i,k',rfl,rfl,hq,hA,Ta⟩:=hF.TA;have hi:=hA.hi;have hk:=hA.hk;have hM:=iM.1 hq;have kX:=Q7 hM hA;have hP:=qN.put he hF0 rG hi hk;have hm:=hM.most;obtain ⟨an,rfl⟩:=ada kX.1;have Sb:=hM.words;have e0:=n5 hi;have h1:=hf.lP;have h2:=hf.Sg hi;obtain ⟨x,hx⟩ : ∃ x,s.aa[i].ab[k']=x:=⟨_,rfl⟩;have nc:=h2.put hk (an:Int);rw [hx] at Ta hP nc;have lm:=hO;have UT:=hO.words.len;obtain ⟨e1,e2⟩:=hO.len;have oS:i<cs.length:=by omega
   have cQ:i<q.aa.n:=by omega
   have NK:=hO.row.sl.base;have Yw:=hO.words.sl.base;have hC:=hO.each.get i oS hi;have q1:=hC.aD.len;have q2:=h2.small.aD;have q3:=hC.aZ.len;have q4:=h2.small.aZ;have px:k'<cs[i].ab.n:=by omega
   have Sm:=hC.aD.sl.base;have gX:∀ w',SX w' w.heap.size q s cs->w'.cell? ((((cs[i].ab.A).getD default).add (k'*3)).add 2)=some (Value.int .i64 x.cf):=fun w' h=>(h.each.get i oS hi).aD.sl.jL px (j:=2) (show (bf (s.aa[i].ab[k']'(by omega)))[2]?=some (Value.int .i64 x.cf) by rw [hx];rfl)
   repeat' (first|refine Wz ?_|refine Wl (hO.row.sl.jL cQ (j:=4) (u := .slice cs[i].ab.A cs[i].ab.n cs[i].ab.c) rfl) ?_)
   refine CW.gl 8 8 (fun _=>True) mixed (by kernel_rfl) fun w1 ai aJ => ?_
   obtain ⟨hw,aH,bg,hO,hI⟩:=fI ai hw aH bg hO hI;clear ai;refine Wf ?_;refine Wt 6 [] [] aJ rfl (aT rfl (gX _ hO)) ?_;refine Wf ?_;refine SF.last rfl (by kernel_rfl) (by kernel_rfl) ?_;refine SW.qp an hO.words rfl rfl (by omega) fun w7 MF hg => ?_
   have hG:=hO.words.gr hg;have hS:=hO.ER hI MF hg;have hw:=aF hw hg (ac3 _) hO.words.ba;(obtain ⟨aH,bg⟩:=cX hG aH bg);obtain ⟨s1,ke⟩ : ∃ s1:ah,Mh s x (an:Int)=s1:=⟨_,rfl⟩;have e4:(⟨s.Words.set an x.cf,s.Heap,s.aa⟩ : ah)=s1:=by rw [<- ke];simp [Mh]
   rw [e4] at hS;have RV:s1.aa=s.aa:=by rw [<- e4]
   have Xu:s1.Heap=s.Heap:=by rw [<- e4]
   have Pd:i<s1.aa.length:=by rw [RV];exact hi
   have By:s1.aa[i]=s.aa[i]:=by simp [RV]
   have e5:=n5 Pd;rw [By,Xu] at e5;rw [<- e5] at hS;have hC:=hS.get oS Pd;simp only at hC;refine Wz ?_;refine SW.gM k' 2 ⟨x.At,x.aj,(an:Int)⟩ hC.aD rfl rfl rfl px (by decide) rfl (by simp only [hx];rfl) fun w8 Sn Rj => ?_
   have g8:=Sn.sl.jL px (j:=1) (show (bf ((s.aa[i].ab.set k' ⟨x.At,x.aj,(an:Int)⟩)[k']'(by rw [adz];exact hk)))[1]?=some (Value.int .i64 x.aj) by rw [aeJ];rfl);repeat' (first|refine Wz ?_|refine Wl g8 ?_)
   refine SW.gM k' 1 ⟨x.At,x.aj+1,(an:Int)⟩ Sn rfl rfl rfl px (by decide) rfl (by simp only [List.getElem_set_self];rfl) fun w9 So UW => ?_
   have AK:=bQ Rj UW (.inl rfl);rw [aeu] at So;have Rt:=hC.aD.gr AK;have p7:=hS.Pb oS Pd So AK;have hw:=aF hw AK (ac3 _) hC.aD.ba;(obtain ⟨aH,bg⟩:=cX Rt aH bg);obtain ⟨c1,Pe⟩ : ∃ c1,ie s.aa[i] k' x (an:Int)=c1:=⟨_,rfl⟩;have e6:(⟨s.aa[i].Names,s.aa[i].aA,s.aa[i].bK,s.aa[i].Order,s.aa[i].ab.set k' ⟨x.At,x.aj+1,(an:Int)⟩,s.aa[i].ao⟩ : aQ)=c1:=Pe
   simp only at p7;rw [e6] at p7;have yd:c1.ab=s.aa[i].ab.set k' ⟨x.At,x.aj+1,(an:Int)⟩:=by rw [<- e6]
   have Dc:k'<c1.ab.length:=by rw [yd,adz];exact hk
   have L7:c1.ab[k']=⟨x.At,x.aj+1,(an:Int)⟩:=by simp [yd]
   have AV:c1.ab.length=cs[i].ab.n:=by rw [yd,adz];exact hC.aD.len
   rw [Pe] at nc;clear hC hS Sn So Rj UW AK hO hI lm MF gX g8 hg hG Rt e6;have hC:=p7.get oS Pd;have Sm:=hC.aD.sl.base;simp only at hC;obtain ⟨t,ht⟩ : ∃ t,n7 c1 ⟨x.At,x.aj+1,(an:Int)⟩=t:=⟨_,rfl⟩
   have cI:∀ w',Ext w9 w'->bI prog 102 [.agg (fK cs[i]).toArray,.agg (bf ⟨x.At,x.aj+1,(an:Int)⟩).toArray] w' fun v _=>v = .bool t:=fun w' hx=>by
    have:=FG cs[i] c1 ⟨x.At,x.aj+1,(an:Int)⟩ w' (hC.rd.ext hx) (by omega)
    rwa [ht] at this
   have gk:∀ (w':World),oz w' w.heap.size cs[i] c1 -> ∀ j v,(bf ⟨x.At,x.aj+1,(an:Int)⟩)[j]?=some v->w'.cell? (((cs[i].ab.A.getD default).add (k'*3)).add j)=some v:=fun w' h j v hv=>by
    refine h.aD.sl.all px j v ?_;rw [L7];exact hv
   have NM:=hw;have hw:=Ext.refl w9;cases t
   ·have Ur:=Pc (s:=s) (cpu:=cpu) (c:=s.aa[i]) (k:=k') (x:=x) (a:=(an:Int)) (by rw [Pe];exact ht);rw [Pe] at Ur;rw [Ur,ke] at hP;repeat' (first|refine Wz ?_|((apply CW.bF mixed;(· kernel_rfl);rotate_left;intro w1 ai;obtain ⟨hw,aH,bg,p7⟩:=dG ai hw aH bg p7;clear ai;rotate_right))|refine Wm ((p7.row.sl.all cQ)) ?_|refine Wm ((gk _ (p7.get oS Pd))) ?_|refine SW.dF rfl rfl (fun w1 ai=>(cI _ (hw.trans ai))) ?_|exact SW.eI rfl)
    have hw:=NM.trans hw;refine SW.ag bg rfl rfl rfl rfl (aY q) fun jb cS hg => ?_
    have hG:=bg.gr hg;have hw:=hw.own gz hg;have p7:=p7.aN hG rfl;refine Wz ?_;exact ae.dw rfl rfl rfl cS rfl ⟨_,rfl,hw,_,hP,⟨_,rfl,p7.xH⟩⟩
   ·repeat' (first|refine Wz ?_|((apply CW.bF mixed;(· kernel_rfl);rotate_left;intro w1 ai;obtain ⟨hw,aH,bg,p7⟩:=dG ai hw aH bg p7;clear ai;rotate_right))|refine Wm ((p7.row.sl.all cQ)) ?_|refine Wm ((gk _ (p7.get oS Pd))) ?_|refine Wl (p7.row.sl.jL cQ (j:=4) (u := .slice cs[i].ab.A cs[i].ab.n cs[i].ab.c) rfl) ?_|refine SW.dF rfl rfl (fun w1 ai=>(cI _ (hw.trans ai))) ?_|exact SW.eI rfl)
    have hw:=NM.trans hw;clear cI hC NM
    refine CW.loop (fun t:Nat×Nat=>[(2,.int .i64 cpu),(4,.pointer (some ⟨b4,0,none⟩)),(8,.pointer (some ⟨b8,0,none⟩)),(10,.int .i64 (i:Int)),(13,.int .i64 (k':Int)),(14,.pointer (some ((q.aa.A.getD default).add (i*6)))),(16,.int .i64 (t.2:Int)),(85,.slice cs[i].ab.A cs[i].ab.n cs[i].ab.c),(86,.int .i64 (cs[i].ab.n:Int)),(87,.int .i64 (t.1:Int))])
     (fun t w'=>t.1<=cs[i].ab.n∧t.2=(c1.ab.take t.1).countP (n7 c1)∧Ext w w'∧aS w' b4 44 (aP q)∧aS w' b8 44 (aP .zero)∧SX w' w.heap.size q (bH s1 i (s.Heap,c1)) cs) (fun t=>cs[i].ab.n-t.1) (0,0)
     ⟨rfl,rfl,rfl,rfl,rfl,rfl,rfl,rfl,rfl,rfl,trivial⟩ ⟨by omega,by simp,hw,aH,bg,p7⟩ ?_
    clear hw aH bg p7;rintro ⟨j,m⟩ qU ⟨hj,hm,hw,aH,bg,p7⟩
    simp only at hj hm ⊢;have hC:=p7.get oS Pd;simp only at hC
    have S8:m<=j:=by
     rw [hm];exact ac2 List.countP_le_length (by rw [aeG];omega)
    by_cases pB:j<cs[i].ab.n
    ·have pA:j<c1.ab.length:=by omega
     obtain ⟨y,hy⟩ : ∃ y,c1.ab[j]=y:=⟨_,rfl⟩;have gy:=hC.aD.sl.all pB;rw [show c1.ab[j]'(hC.aD.sl.lt pB)=y from hy] at gy;obtain ⟨t2,SY⟩ : ∃ t2,n7 c1 y=t2:=⟨_,rfl⟩;have qj:=FH (n7 c1) c1.ab j pA;rw [hy,SY,<- hm] at qj;clear hC;repeat' (first|refine Wz ?_|refine Wm gy ?_)
     refine SW.alloc rfl fun b18 w1 ai Qb Kw => ?_
     skip;refine SW.ag Kw rfl rfl rfl rfl (im.one (enc:=bf) y) fun w2 Qc hg => ?_
     have ar:=ai.own Qb hg;have Y3:=hw.up Qb
     obtain ⟨hw,aH,bg,p7⟩:=dG ar hw aH bg p7;have Kw:=Qc;clear Qc ai hg ar;clear gy;have hC:=p7.get oS Pd;simp only at hC
     have cI:∀ w',Ext w2 w'->bI prog 102 [.agg (fK cs[i]).toArray,.agg (bf y).toArray] w' fun v _=>v = .bool t2:=fun w' hx=>by
      have:=FG cs[i] c1 y w' (hC.rd.ext hx) (by omega)
      rwa [SY] at this
     have NM:=hw;have hw:=Ext.refl w2;cases t2
     ·repeat' (first|refine Wz ?_|((apply CW.bF mixed;(· kernel_rfl);rotate_left;intro w1 ai;obtain ⟨hw,aH,bg,Kw,p7⟩:=fI ai hw aH bg Kw p7;clear ai;rotate_right))|refine Wm ((p7.row.sl.all cQ)) ?_|refine SW.dF rfl rfl (fun w1 ai=>(cI _ (hw.trans ai))) ?_|exact SW.eI rfl)
      have hw:=NM.trans hw;exact ae.again (j+1,m) ⟨rfl,rfl,rfl,rfl,rfl,rfl,rfl,rfl,rfl,rfl,trivial⟩ (by simp only;omega) ⟨by simp only;omega,by rw [qj];simp,hw,aH,bg,p7⟩
     ·repeat' (first|refine Wz ?_|((apply CW.bF mixed;(· kernel_rfl);rotate_left;intro w1 ai;obtain ⟨hw,aH,bg,Kw,p7⟩:=fI ai hw aH bg Kw p7;clear ai;rotate_right))|refine Wm ((p7.row.sl.all cQ)) ?_|refine SW.dF rfl rfl (fun w1 ai=>(cI _ (hw.trans ai))) ?_|exact SW.eI rfl)
      have hw:=NM.trans hw;exact ae.again (j+1,m+1) ⟨rfl,rfl,rfl,rfl,rfl,rfl,rfl,rfl,rfl,rfl,trivial⟩ (by simp only;omega) ⟨by simp only;omega,by rw [qj];simp,hw,aH,bg,p7⟩
    ·obtain rfl:j=cs[i].ab.n:=by omega
     rw [adf (by omega)] at hm;clear hC;by_cases GU : 1<m
     ·have Y4:=Nt (s:=s) (cpu:=cpu) (c:=s.aa[i]) (k:=k') (x:=x) (a:=(an:Int)) (by rw [Pe];exact ht) (by rw [Pe,<- hm];exact GU);rw [Pe] at Y4;rw [Y4,ke] at hP;clear gk;refine Wz ?_;refine SW.dT rfl rfl (xj w _ b4 q s1 cs i k' (s.Heap,c1) cpu hw aH fJ p7 Pd (by rw [RV];omega) Dc h1 nc) fun v rq hv => ?_
      obtain ⟨rfl,H,UX,hh⟩:=hv;simp only [L7] at hh;have hw:=hh.ext;have bg:=hh.kp _ _ bL bg;have hb:=hh.eG;have p7:=hh.sx;refine Wz ?_;refine SW.ag bg rfl rfl rfl rfl (aY ⟨q.Words,H,q.aa⟩) fun jb cS hg => ?_
      have hG:=bg.gr hg;have hw:=hw.own gz hg;have p7:=p7.aN hG rfl;refine Wz ?_;exact ae.dw rfl rfl rfl cS rfl ⟨_,rfl,hw,_,hP,⟨_,rfl,p7.xH⟩⟩
     ·have Ur:=Ns (s:=s) (cpu:=cpu) (c:=s.aa[i]) (k:=k') (x:=x) (a:=(an:Int)) (by rw [Pe,<- hm];exact GU);rw [Pe] at Ur;rw [Ur,ke] at hP;refine Wz ?_;refine SW.ag bg rfl rfl rfl rfl (aY q) fun jb cS hg => ?_
      have hG:=bg.gr hg;have hw:=hw.own gz hg;have p7:=p7.aN hG rfl;refine Wz ?_;exact ae.dw rfl rfl rfl cS rfl ⟨_,rfl,hw,_,hP,⟨_,rfl,p7.xH⟩⟩
  ·have hP:=qN.none (n:=n) (cpu:=cpu) he hF (by rw [rG];exact hh)
   rcases (show e≠0∨(e=0∧j≠ix) by
    by_cases e0:e=0
    ·exact .inr ⟨e0,fun e1=>hh ⟨e0,e1⟩⟩
    ·exact .inl e0) with g|⟨g,g2⟩
   all_goals
    refine Wz ?_;all_goals try omega
    refine SW.ag bg rfl rfl rfl rfl (aY .zero) fun w7 cS hg => ?_
    have hw:=hw.own gz hg;refine Wz ?_;exact ae.dw rfl rfl rfl cS rfl ⟨_,rfl,hw,_,hP,iN.zero 4 _ _⟩
variable {u2 u3:Int}
theorem RW {u1:Int} (hu:iy s a (u1,u2,u3)) (hq:fQ s=true) :
 (∃ i:Nat,u1=(i:Int)∧u3=0 ∧ ∃ hi:i<s.aa.length,oR s.aa[i]=true∧qS s a (some i)) ∨
 (qS s a none∧(u3=4 ∨ ∃ i:Nat,u1=(i:Int)∧u3=0 ∧ ∃ hi:i<s.aa.length,oR s.aa[i]=false)):=by
 by_cases h0:u3=0
 ·obtain ⟨i,hi,QX⟩:=hu.Mt h0;simp only at QX;subst h0 QX;cases KW:oR s.aa[i]
  ·exact .inr ⟨.no hu fun i2 Q9 _ e=>by
    have e:i=i2:=by simp only at e;omega
    subst e;exact KW,.inr ⟨i,rfl,rfl,hi,KW⟩⟩
  ·exact .inl ⟨i,rfl,rfl,hi,KW,.yes hu hi KW⟩
 ·exact .inr ⟨.no hu fun i hi h=>absurd h h0,.inl ((hu.code hq).resolve_left h0)⟩
set_option maxHeartbeats 4000000 in
theorem wN (r:db) (s:ah) (cpu a:Int) (w:World) (hr:AM w r s) (hf:s.cV) (ha : -9223372036854775808<=a∧a<=9223372036854775807) (hS:iv w) :
 bI prog 32 [.agg (aP r).toArray,.int .i64 cpu,.int .i64 a] w fun v w' => ∃ u,kQ s cpu a u∧iN w.heap.size u v w':=by
 refine aE func32 rfl ntmps32 rfl ?_;refine CW.seq (CW.region (SW.box rfl rfl fun b3 w1 hw cg ap => ?_));refine SW.alloc rfl fun b6 w2 bt dt aq => ?_
 have cG:=hw.up dt
 have bL:b6≠b3:=by have:=ap.lt;omega
 (obtain ⟨hw,ap⟩:=cX bt hw ap);have hs:=hf.small;obtain ⟨q,hq⟩ : ∃ q,fQ s=q:=⟨_,rfl⟩
 have c1:∀ w',Ext w w'->bI prog 46 [.agg (aP r).toArray] w' fun v _=>v = .int .i64 (if q then 0 else 8):=fun w' hx=>by
  have:=mf r s w' (hr.ext hx) hf
  rwa [hq] at this
 cases q
 ·simp only [Bool.false_eq_true,if_false] at c1;repeat' (first|refine Wz ?_|(refine Wk (c1 _ hw) ?_;intro v w1 ai hv;subst hv;obtain ⟨hw,ap,aq⟩:=cj ai hw ap aq;clear ai))
  refine SW.ag aq rfl rfl rfl rfl (aY .zero) fun w5 cS hg => ?_
  have hw:=hw.own cG hg;refine Wz ?_;exact ae.dw rfl rfl rfl cS rfl ⟨_,rfl,hw,_,.bad hq,iN.zero 8 _ _⟩
 simp only [if_true] at c1;have hM:=iM.1 hq;have eC:r.Heap.bG=s.Heap.bG:=hr.heap.cpus
 by_cases qj:m9 s cpu
 ·have RX:=qj;unfold m9 at RX;repeat' (first|refine Wz ?_|(refine Wk (c1 _ hw) ?_;intro v w1 ai hv;subst hv;obtain ⟨hw,ap,aq⟩:=cj ai hw ap aq;clear ai))
  refine Wk (vf r s a _ (hr.ext hw) hf ha) fun v w5 ox hv => ?_
  obtain ⟨u,hu,rfl⟩:=hv;(obtain ⟨hw,ap,aq⟩:=cj ox hw ap aq);clear c1;obtain ⟨cs,hc⟩:=hr.br;obtain ⟨z1,z2⟩:=hc.len;have hA:=hc.row.base;obtain ⟨u1,u2,u3⟩:=u;simp only [BP];rcases RW hu hq with ⟨i,rfl,rfl,hi,KW,hO⟩|⟨hO,hN⟩
  ·have cQ:i<r.aa.n:=by omega
   have G5:i<cs.length:=by omega
   have jU:=hc.each.get i G5 hi;have q1:=jU.names.len;have q2:=(hs.each _ (ac0 hi)).names;have q3:=(hM.each i hi).may.names;have F4 : 0<cs[i].Names.n:=by omega
   have hAn:=jU.names.base
   have c2:∀ w',Ext w w'->bI prog 72 [.agg (fK cs[i]).toArray] w' fun v _=>v = .bool true:=fun w' hx=>by
    have:=zD cs[i] _ w' (jU.ext hx) (by omega) (hS.ext hx)
    rwa [KW] at this
   have gN:=jU.names.one F4 (congrArg encStr (rfl:s.aa[i].Names[0]=s.aa[i].Names[0]));have eN:s.aa[i].Names[0]=vn s.aa[i]:=by simp [vn,q3]
   rw [eN] at gN;repeat' (first|refine Wz ?_|refine Wo hw ((hc.row.all cQ)) ?_|(refine Wk (c2 _ hw) ?_;intro v w1 ai hv;subst hv;obtain ⟨hw,ap,aq⟩:=cj ai hw ap aq;clear ai))
   refine CW.any 14 mixed (dg (by kernel_rfl)) rfl fun w1 ai aJ => ?_
   obtain ⟨hw,ap,aq⟩:=cj ai hw ap aq;clear ai;refine Wa ?_;refine Wu 6 aJ rfl (mu hw rfl (hc.row.jL cQ (j:=0) (u := .slice cs[i].Names.A cs[i].Names.n cs[i].Names.c) rfl)) ?_;refine Wa ?_;refine Wu 8 aJ rfl (mu hw rfl gN) ?_;refine Wa ?_;refine SA.one 11 rfl (by kernel_rfl) rfl ?_;refine Wk (rh r s _ cpu a _ (hr.ext hw) hf (Mv hf hi) ha) fun v w4 ar hv => ?_
   obtain ⟨u,hP,s1,rfl,ke⟩:=hv;have ke:=ke.low hw.size;(obtain ⟨hw,ap,aq⟩:=cj ar hw ap aq);refine SW.nil (ae.sa ar ?_);refine Wa ?_;refine SA.done (by kernel_rfl) ?_;refine SW.ag aq rfl rfl rfl rfl (aY s1) fun w6 hR hg => ?_
   have hG:=aq.gr hg;have hw:=hw.own cG hg;(have ke:=ke.aN hG rfl);refine Wz ?_;exact ae.dw rfl rfl rfl hR rfl ⟨_,rfl,hw,_,.obj hq qj hi hO hP,_,rfl,ke⟩
  have Dh:=fun hW=>J0 hM qj (a:=a) hW
  rcases hN with rfl|⟨i,rfl,rfl,hi,KW⟩
  refine Wz ?_;rotate_left;have cQ:i<r.aa.n:=by omega
  have G5:i<cs.length:=by omega
  have jU:=hc.each.get i G5 hi;have q1:=jU.names.len;have q2:=(hs.each _ (ac0 hi)).names
  have c2:∀ w',Ext w w'->bI prog 72 [.agg (fK cs[i]).toArray] w' fun v _=>v = .bool false:=fun w' hx=>by
   have:=zD cs[i] _ w' (jU.ext hx) (by omega) (hS.ext hx)
   rwa [KW] at this
  repeat' (first|refine Wz ?_|refine Wo hw ((hc.row.all cQ)) ?_|(refine Wk (c2 _ hw) ?_;intro v w1 ai hv;subst hv;obtain ⟨hw,ap,aq⟩:=cj ai hw ap aq;clear ai))
  all_goals
   refine Wk (s8 r s a _ (hr.ext hw) hs hM ha) fun v w6 EV hv => ?_
   obtain ⟨ix,rfl,rG⟩:=hv;(obtain ⟨hw,ap,aq⟩:=cj EV hw ap aq);cases hW:df s a
   ·repeat' (first|refine Wz ?_|(refine CW.gj rfl ?_))
    refine SW.ag aq rfl rfl rfl rfl (aY .zero) fun w7 cS hg => ?_
    have hw:=hw.own cG hg;refine Wz ?_;exact ae.dw rfl rfl rfl cS rfl ⟨_,rfl,hw,_,.no hq qj hO hW,iN.zero 4 _ _⟩
   ·obtain ⟨ND,ha0,_⟩:=eW hW;repeat' (first|refine Wz ?_|(refine CW.fU rfl ?_)|refine Wm ((me ap)) ?_)
    refine Wk (ve r.Heap s.Heap cpu (a / 16) _ (hr.heap.ext hw) hs.heap hf.cr (by omega)) fun v w7 je hv => ?_
    obtain ⟨H,rfl,hH⟩:=hv;rw [Dh hW];have hH:=hH.low hw.size;(obtain ⟨hw,ap,aq⟩:=cj je hw ap aq);refine Wz ?_;refine SW.alloc rfl fun Wj w1 ai vp rB => ?_
    skip;refine SW.ag rB rfl rfl rfl rfl (dU H) fun w2 xh hg => ?_
    have ar:=ai.own vp hg;have PU:=hw.up vp
    obtain ⟨hw,ap,aq,hH⟩:=dG ar hw ap aq hH;have rB:=xh;clear xh ai hg ar;refine Wz ?_;refine Wk (mi r s _ (hr.ext hw) hs) fun v w9 th hv => ?_
    obtain ⟨p,cs',rfl,Np,_⟩:=hv;have hP:=Np.xH.low hw.size;clear Np;(obtain ⟨hw,ap,aq,rB,hH⟩:=fI th hw ap aq rB hH);refine SW.ag ap rfl rfl rfl rfl (aY p) fun qU dW hg => ?_
    have hG:=ap.gr hg;have aq:=aq.grown hg (by simpa using bL);have hw:=hw.own cg hg;(obtain ⟨rB,hH,hP⟩:=cj hG rB hH hP);have ap:=dW;clear dW hG hg;refine Wz ?_;refine SW.gi 1 ap rfl rfl rfl (ady rfl) (dU H) (aP ⟨p.Words,H,p.aa⟩) rfl fun rq dW hg => ?_
    have hG:=ap.gr hg;have aq:=aq.grown hg (by simpa using bL);have hw:=hw.own cg hg;(obtain ⟨hH,hP⟩:=cX hG hH hP);refine Wz ?_;refine SW.ag aq rfl rfl rfl rfl (aY ⟨p.Words,H,p.aa⟩) fun jb hR hg => ?_
    have hG:=aq.gr hg;have hw:=hw.own cG hg;(obtain ⟨hH,hP⟩:=cX hG hH hP);refine Wz ?_;exact ae.dw rfl rfl rfl hR rfl ⟨_,rfl,hw,_,.whole hq qj hO hW,_,rfl,hP.words,hH,hP.br⟩
 ·have RX:=qj;unfold m9 at RX;have:cpu<0∨(0<=cpu∧s.Heap.bG<=cpu):=by omega
  rcases this with h1|h1
  all_goals repeat' (first|refine Wz ?_|(refine Wk (c1 _ hw) ?_;intro v w1 ai hv;subst hv;obtain ⟨hw,ap,aq⟩:=cj ai hw ap aq;clear ai))
  all_goals
   refine SW.ag aq rfl rfl rfl rfl (aY .zero) fun w5 cS hg => ?_
   have hw:=hw.own cG hg;refine Wz ?_;exact ae.dw rfl rfl rfl cS rfl ⟨_,rfl,hw,_,.range hq qj,iN.zero 1 _ _⟩
theorem HD (n:Int) (w:World) (hS:iv w) : bI prog 70 [.int .i64 n] w fun v _=>v = .tuple #[.string (ji n),.bool (decide (n<=32))]:=by
 refine aE func70 rfl ntmps70 rfl ?_;have hw:=Ext.refl w;repeat' (first|refine Wz ?_|refine Wm ((B9 hS)) ?_)
 refine CW.loop (fun j:Nat=>[(0,.int .i64 n),(6,.agg (kL.map (Value.int .i64)).toArray),(7,.int .i64 (j:Int))]) (fun j w'=>j<=6∧Ext w w' ∧ ∀ m,m<j->kP m<n) (fun j=>6-j) 0
  ⟨rfl,rfl,rfl,trivial⟩ ⟨by omega,hw,fun m h=>by omega⟩ ?_
 clear hw;rintro j w' ⟨hj,hw,hI⟩
 by_cases P9:j<6
 ·obtain ⟨k1,k2,k3,k4⟩:=Mw P9;have Ow:=MM (n:=n) P9 hI;obtain ⟨z,hz⟩ : ∃ z,kP j=z:=⟨_,rfl⟩;rw [hz] at k1 k2 k3 k4 Ow;have NJ:(kL.map (Value.int .i64))[j]?=some (.int .i64 z):=by rw [aeC,k2];rfl
  by_cases hnz:n<=z
  ·obtain ⟨e1,e2⟩:=Ow hnz;repeat' (first|refine Wz ?_|(refine Wk (wi z k1 _) ?_;intro v w1 ai hv;subst hv;have hw:=hw.trans ai;clear ai)|(refine SW.st (qz j rfl rfl rfl P9 NJ) rfl ?_))
   exact ae.dj rfl rfl rfl ⟨_,rfl,hw,by rw [e1,decide_eq_true e2]⟩
  ·repeat' (first|refine Wz ?_|(refine SW.st (qz j rfl rfl rfl P9 NJ) rfl ?_))
   refine ae.again (j+1) ⟨rfl,rfl,rfl,trivial⟩ (by omega) ⟨by omega,hw,fun m h => ?_⟩;by_cases e:m=j
   ·subst e;omega
   ·exact hI m (by omega)
 ·obtain rfl:j=6:=by omega
  obtain ⟨e1,e2⟩:=J8 hI;refine Wz ?_;exact ae.dj rfl rfl rfl ⟨_,rfl,hw,by rw [e1,decide_eq_false (by omega)]⟩
def xO (lo:Nat) (u:ah×Int×Int) (v:Value) (w:World) : Prop := ∃ q,v = .tuple #[.agg (aP q).toArray,.int .i64 u.2.1,.int .i64 u.2.2]∧iT w lo q u.1
theorem xO.zero (e:Int) (lo:Nat) (w:World) : xO lo (.zero,0,e) (.tuple #[.agg (aP .zero).toArray,.int .i64 0,.int .i64 e]) w :=
 ⟨.zero,rfl,Own.fv _ _ _ _ _ _,jC.zero w lo,⟨[],fj.nil _ _⟩⟩
set_option maxHeartbeats 4000000 in
theorem uq (r:db) (s:ah) (cpu n:Int) (w:World) (hr:AM w r s) (hf:s.cV) (hS:iv w) (eY:mD w) :
 bI prog 31 [.agg (aP r).toArray,.int .i64 cpu,.int .i64 n] w fun v w' => ∃ u,fc s cpu n u∧xO w.heap.size u v w':=by
 refine aE func31 rfl ntmps31 rfl ?_;refine CW.seq (CW.region (SW.box rfl rfl fun b3 w1 hw cg ap => ?_));refine SW.alloc rfl fun b6 w2 bt dt aq => ?_
 have cG:=hw.up dt
 have bL:b6≠b3:=by have:=ap.lt;omega
 (obtain ⟨hw,ap⟩:=cX bt hw ap);have hs:=hf.small;obtain ⟨q,hq⟩ : ∃ q,fQ s=q:=⟨_,rfl⟩
 have c1:∀ w',Ext w w'->bI prog 46 [.agg (aP r).toArray] w' fun v _=>v = .int .i64 (if q then 0 else 8):=fun w' hx=>by
  have:=mf r s w' (hr.ext hx) hf
  rwa [hq] at this
 cases q
 ·simp only [Bool.false_eq_true,if_false] at c1;repeat' (first|refine Wz ?_|(refine Wk (c1 _ hw) ?_;intro v w1 ai hv;subst hv;obtain ⟨hw,ap,aq⟩:=cj ai hw ap aq;clear ai))
  refine SW.ag aq rfl rfl rfl rfl (aY .zero) fun w5 cS hg => ?_
  have hw:=hw.own cG hg;refine Wz ?_;exact ae.e8 rfl rfl rfl rfl cS rfl ⟨_,rfl,hw,_,.bad hq,xO.zero 8 _ _⟩
 simp only [if_true] at c1;have hM:=iM.1 hq;by_cases I0:n<1
 ·repeat' (first|refine Wz ?_|(refine Wk (c1 _ hw) ?_;intro v w1 ai hv;subst hv;obtain ⟨hw,ap,aq⟩:=cj ai hw ap aq;clear ai))
  refine SW.ag aq rfl rfl rfl rfl (aY .zero) fun w5 cS hg => ?_
  have hw:=hw.own cG hg;refine Wz ?_;exact ae.e8 rfl rfl rfl rfl cS rfl ⟨_,rfl,hw,_,.range hq I0,xO.zero 1 _ _⟩
 have c2:∀ w',Ext w w'->bI prog 70 [.int .i64 n] w' fun v _=>v = .tuple #[.string (ji n),.bool (decide (n<=32))]:=fun w' hx=>HD n w' (hS.ext hx)
 have lJ:=Fa n;by_cases Pq:n<=32
 ·rw [decide_eq_true Pq] at c2;obtain ⟨cs,Xv⟩ : ∃ cs,ji n=cs:=⟨_,rfl⟩;have hR:=fun u (h:pj s (ji n) cpu u)=>fc.obj (cpu:=cpu) (n:=n) hq ⟨by omega,Pq⟩ h
  rw [Xv] at c2 lJ hR;repeat' (first|refine Wz ?_|(refine CW.gj rfl ?_)|((first|refine Wk (c1 _ hw) ?_|refine Wk (c2 _ hw) ?_);intro v w1 ai hv;subst hv;obtain ⟨hw,ap,aq⟩:=cj ai hw ap aq;clear ai))
  refine Wk (pp r s cs cpu _ (hr.ext hw) hf lJ (eY.ext hw)) fun v w5 ox hv => ?_
  obtain ⟨u,hu,q,rfl,hO⟩:=hv;have hO:=hO.low hw.size;(obtain ⟨hw,ap,aq⟩:=cj ox hw ap aq);refine Wz ?_;refine SW.ag aq rfl rfl rfl rfl (aY q) fun w6 cS hg => ?_
  have hG:=aq.gr hg;have hw:=hw.own cG hg;(have hO:=hO.aN hG rfl);refine Wz ?_;exact ae.e8 rfl rfl rfl rfl cS rfl ⟨_,rfl,hw,_,hR u hu,q,rfl,hO⟩
 rw [decide_eq_false Pq] at c2;repeat' (first|refine Wz ?_|(refine CW.fU rfl ?_)|((first|refine Wk (c1 _ hw) ?_|refine Wk (c2 _ hw) ?_);intro v w1 ai hv;subst hv;obtain ⟨hw,ap,aq⟩:=cj ai hw ap aq;clear ai))
 clear c1 c2
 refine CW.loop (fun j:Nat=>[(1,.int .i64 cpu),(2,.int .i64 n),(3,.pointer (some ⟨b3,0,none⟩)),(6,.pointer (some ⟨b6,0,none⟩)),(38,.int .i64 (j:Int))])
  (fun j w'=>j<=5∧Ext w w'∧aS w' b3 44 (aP r)∧aS w' b6 44 (aP .zero) ∧ ∀ m:Nat,m<j->16*pw (m:Int)<n) (fun j=>5-j) 0
  ⟨rfl,rfl,rfl,rfl,rfl,trivial⟩ ⟨by omega,hw,ap,aq,fun m h=>by omega⟩ ?_
 clear hw ap aq;rintro j w' ⟨hj,hw,ap,aq,hI⟩
 by_cases QG:j<5
 ·have UK:=cy (o:=(j:Int)) (by omega) (by omega);have kX:=Ru (n:=n) QG hI;obtain ⟨p,hp⟩ : ∃ p,pw (j:Int)=p:=⟨_,rfl⟩;rw [hp] at UK kX;have U3:(16:Int)*2 ^ ((j:Int)).toNat=16*p:=by rw [<- hp];rfl
  by_cases hn3:n<=16*p
  ·obtain ⟨e1,e2⟩:=kX hn3;have FY:=fun u (h:cM s.Heap cpu (Bm n) 0 u) he=>fc.fault hq ⟨by omega,e2⟩ h he
   have cS:=fun u (h:cM s.Heap cpu (Bm n) 0 u) he=>fc.bC hq ⟨by omega,e2⟩ h he
   rw [e1] at FY cS;repeat' (first|refine Wz ?_|refine Wm ((me ap)) ?_|(refine SW.st (fA (r:=16*p) rfl rfl (by omega) (by omega) U3 (by omega) (by omega)) rfl ?_))
   refine Wk (pZ r.Heap s.Heap cpu (j:Int) 0 _ (hr.heap.ext hw) hs.heap hf.cr (eY.ext hw)) fun v w7 je hv => ?_
   obtain ⟨u,hu,H,rfl,hH⟩:=hv;have hH:=hH.low hw.size;(obtain ⟨hw,ap,aq⟩:=cj je hw ap aq);by_cases he:u.2.2=0
   ·have hau:=hu.at_ he;rw [he];refine Wz ?_;refine SW.alloc rfl fun tz w1 ai lH cw => ?_
    skip;refine SW.ag cw rfl rfl rfl rfl (dU H) fun w2 lI hg => ?_
    have ar:=ai.own lH hg;have tO:=hw.up lH
    obtain ⟨hw,ap,aq,hH⟩:=dG ar hw ap aq hH;have cw:=lI;clear lI ai hg ar;refine Wz ?_;refine Wk (mi r s _ (hr.ext hw) hs) fun v w9 th hv => ?_
    obtain ⟨p,cs',rfl,Np,_⟩:=hv;have hP:=Np.xH.low hw.size;clear Np;(obtain ⟨hw,ap,aq,cw,hH⟩:=fI th hw ap aq cw hH);refine SW.ag ap rfl rfl rfl rfl (aY p) fun qU dW hg => ?_
    have hG:=ap.gr hg;have aq:=aq.grown hg (by simpa using bL);have hw:=hw.own cg hg;(obtain ⟨cw,hH,hP⟩:=cj hG cw hH hP);have ap:=dW;clear dW hG hg;refine Wz ?_;refine SW.gi 1 ap rfl rfl rfl (ady rfl) (dU H) (aP ⟨p.Words,H,p.aa⟩) rfl fun rq dW hg => ?_
    have hG:=ap.gr hg;have aq:=aq.grown hg (by simpa using bL);have hw:=hw.own cg hg;(obtain ⟨hH,hP⟩:=cX hG hH hP);refine Wz ?_;refine SW.ag aq rfl rfl rfl rfl (aY ⟨p.Words,H,p.aa⟩) fun jb hR hg => ?_
    have hG:=aq.gr hg;have hw:=hw.own cG hg;(obtain ⟨hH,hP⟩:=cX hG hH hP);refine Wz ?_;exact ae.e8 rfl rfl rfl rfl hR rfl ⟨_,rfl,hw,_,cS u hu he,⟨p.Words,H,p.aa⟩,by rw [ad8],hP.words,hH,hP.br⟩
   ·have hv:=FY u hu he;obtain ⟨e,gV⟩ : ∃ e,u.2.2=e:=⟨_,rfl⟩;rw [gV] at he hv ⊢;refine Wz ?_;refine SW.alloc rfl fun tz w1 ai lH cw => ?_
    skip;refine SW.ag cw rfl rfl rfl rfl (dU H) fun w2 lI hg => ?_
    have ar:=ai.own lH hg;have tO:=hw.up lH
    obtain ⟨hw,aq⟩:=cX ar hw aq;have cw:=lI;clear lI ai hg ar;refine Wz ?_;refine SW.ag aq rfl rfl rfl rfl (aY .zero) fun jb hR hg => ?_
    have hw:=hw.own cG hg;refine Wz ?_;exact ae.e8 rfl rfl rfl rfl hR rfl ⟨_,rfl,hw,_,hv,xO.zero _ _ _⟩
  ·repeat' (first|refine Wz ?_|(refine SW.st (fA (r:=16*p) rfl rfl (by omega) (by omega) U3 (by omega) (by omega)) rfl ?_))
   refine ae.again (j+1) ⟨rfl,rfl,rfl,rfl,rfl,trivial⟩ (by omega) ⟨by omega,hw,ap,aq,fun m h => ?_⟩;by_cases e:m=j
   ·subst e;rw [hp];omega
   ·exact hI m (by omega)
 ·obtain rfl:j=5:=by omega
  have hn:=OW hI;refine Wz ?_;refine SW.ag aq rfl rfl rfl rfl (aY .zero) fun w5 cS hg => ?_
  have hw:=hw.own cG hg;refine Wz ?_;exact ae.e8 rfl rfl rfl rfl cS rfl ⟨_,rfl,hw,_,.size hq hn,xO.zero 9 _ _⟩
theorem Nu (l:List Int) (t f k:Int) : (Bn l t f k).length<=l.length:=by
 unfold Bn;split
 ·rw [wA (by omega) (by omega)];exact ac3 _
 ·exact adO _
theorem Kx (h:s.cV) (t f k:Int) : (Fc s t f k).cV:=by
 have:=Nu s.Words t f k
 have h1:=h.small.words;exact ⟨⟨by simp only [Fc];omega,h.small.heap,h.small.br,h.small.each⟩,h.cr,h.aD,h.names⟩
set_option maxHeartbeats 4000000 in
theorem AD (r:db) (s:ah) (cpu a n:Int) (w:World) (hr:AM w r s) (hI:dI s) (ha : -9223372036854775808<=a∧a<=9223372036854775807) (hS:iv w) (eY:mD w) :
 bI prog 34 [.agg (aP r).toArray,.int .i64 cpu,.int .i64 a,.int .i64 n] w fun v w' => ∃ u,nu s cpu a n u∧xO w.heap.size u v w':=by
 have hf:=hI.cV;have hs:=hf.small;have hM:=hI.may;have ec:=hr.heap.cpus;refine aE func34 rfl ntmps34 rfl ?_;refine CW.seq (CW.region (SW.box rfl rfl fun b4 w1 hw fJ aH => ?_));have l4:=aH.lt;refine SW.alloc rfl fun b8 w2 bt oC bg => ?_
 have gz:w.heap.size<=b8:=ac2 hw.size oC
 (replace hw:=Ext.trans hw bt;replace aH:=aH.ext bt);clear bt;have l8:=bg.lt;refine Wz ?_;refine Wk (Mu r s a _ (hr.ext hw) hf ha (hS.ext hw)) fun v w3 nL hv => ?_
 obtain ⟨u,hu,rfl⟩:=hv;(replace hw:=Ext.trans hw nL;replace aH:=aH.ext nL;replace bg:=bg.ext nL);clear nL;by_cases he:u.2=0
 rotate_left
 ·have hR:=nu.size (cpu:=cpu) (n:=n) hu he;obtain ⟨z,e⟩:=u;simp only at he hR ⊢;refine Wz ?_;refine SW.ag bg rfl rfl rfl rfl (aY .zero) fun w7 jT hg => ?_
  replace hw:=hw.own gz hg;refine Wz ?_;exact ae.e8 rfl rfl rfl rfl jT rfl ⟨_,rfl,hw,_,hR,xO.zero _ _ _⟩
 by_cases hc:m9 s cpu∧1<=n
 rotate_left
 ·have hR:=nu.range hu he hc;obtain ⟨z,e⟩:=u;simp only at he hR ⊢;subst he;unfold m9 at hc;have lJ:cpu<0∨(0<=cpu∧s.Heap.bG<=cpu)∨((0<=cpu∧cpu<s.Heap.bG)∧n<1):=by omega
  rw [<- ec] at lJ;rcases lJ with h|h|h
  all_goals refine Wz ?_
  all_goals
   refine SW.ag bg rfl rfl rfl rfl (aY .zero) fun w7 jT hg => ?_
   replace hw:=hw.own gz hg;refine Wz ?_;exact ae.e8 rfl rfl rfl rfl jT rfl ⟨_,rfl,hw,_,hR,xO.zero _ _ _⟩
 have By:=hc.1;have PR:=hc.2;unfold m9 at By;rw [<- ec] at By;by_cases hn:n<=u.1
 ·have hR:=nu.stay hu he hc hn;obtain ⟨z,e⟩:=u;simp only at he hn ⊢;subst he;refine Wz ?_;refine Wk (mi r s _ (hr.ext hw) hs) fun v w9 th hv => ?_
  obtain ⟨p,cs',rfl,Np,_⟩:=hv;have hP:=Np.xH.low hw.size;(replace hw:=Ext.trans hw th;replace aH:=aH.ext th;replace bg:=bg.ext th);clear th Np;refine Wz ?_;refine SW.ag bg rfl rfl rfl rfl (aY p) fun w7 jT hg => ?_
  have hG:=bg.gr hg;replace hw:=hw.own gz hg;(replace hP:=hP.aN hG rfl);refine Wz ?_;exact ae.e8 rfl rfl rfl rfl jT rfl ⟨_,rfl,hw,_,hR,p,rfl,hP⟩
 have FY:=fun v hv h0=>nu.fault (v:=v) hu he hc hn hv h0
 have cS:=fun v u hv h0 ua h1=>nu.free (v:=v) (u:=u) hu he hc hn hv h0 ua h1
 have KY:=fun v u hv h0 ua h1=>nu.ok (v:=v) (u:=u) hu he hc hn hv h0 ua h1
 obtain ⟨z,e⟩:=u;simp only at he hn FY cS KY ⊢;subst he;refine Wz ?_;refine Wk (uq r s cpu n _ (hr.ext hw) hf (hS.ext hw) (eY.ext hw)) fun v w4 ko hv => ?_
 obtain ⟨v,hv,q,rfl,hq⟩:=hv;replace hq:=hq.low hw.size;(replace hw:=Ext.trans hw ko;replace aH:=aH.ext ko;replace bg:=bg.ext ko);clear ko;replace FY:=FY v hv;replace cS:=fun u=>cS v u hv
 replace KY:=fun u=>KY v u hv
 have Qd:=fun h0=>hv.step hI h0
 obtain ⟨t,to,e⟩:=v;simp only at FY cS KY Qd hq ⊢;refine Wz ?_;have l8:=bg.lt;have l4:=aH.lt;refine SW.alloc rfl fun tz w1 ai lH cw => ?_
 skip;refine SW.ag cw rfl rfl rfl rfl (aY q) fun w2 lI hg => ?_
 have ar:=ai.own lH hg;have tO:w.heap.size<=tz:=ac2 hw.size lH
 replace hw:=Ext.trans hw ar;replace aH:=aH.ext ar;replace bg:=bg.ext ar;replace hq:=hq.ext ar;replace cw:=lI;clear lI ai hg ar;have l13:=cw.lt;by_cases he:e=0
 rotate_left
 ·refine Wz ?_;refine SW.ag bg rfl rfl rfl rfl (aY .zero) fun w7 jT hg => ?_
  replace hw:=hw.own gz hg;refine Wz ?_;exact ae.e8 rfl rfl rfl rfl jT rfl ⟨_,rfl,hw,_,FY he,xO.zero _ _ _⟩
 obtain ⟨_,_,_,P4,_,_⟩:=Qd he;replace cS:=fun u=>cS u he
 replace KY:=fun u=>KY u he
 subst he;have Y5:=P4.cV;have m1:=Y5.small.words;have wl:=hq.words.len;have n8:b8≠tz:=by omega
 have n4:b4≠tz:=by omega
 refine Wz ?_;refine Wk (MN q.Words.A q.Words.n q.Words.c t.Words to a z _ hq.words.sl (by omega) hq.words.LC) fun v w5 ox hv => ?_
 have key:∃ X m c e1,v = .tuple #[.slice X m c,.int .i64 e1]∧Own w5 w.heap.size 3 1 bw X m c (Bn t.Words to a z):=by
  unfold yr at hv;unfold Bn;by_cases h : 0<=to∧0<=a∧0<=z∧to+z<=t.Words.length∧a+z<=t.Words.length
  ·rw [if_pos (by omega)] at hv;obtain ⟨X,c,rfl,hX⟩:=hv;rw [if_pos h];exact ⟨X,_,c,0,rfl,hX.low hw.size⟩
  ·rw [if_neg (by omega)] at hv;rw [if_neg h];exact ⟨none,0,0,1,hv,Own.fv _ _ _ _ _ _⟩
 obtain ⟨X,m,c,e1,rfl,hX⟩:=key;(replace hw:=Ext.trans hw ox;replace aH:=aH.ext ox;replace bg:=bg.ext ox;replace cw:=cw.ext ox;replace hq:=hq.ext ox);clear ox;refine Wz ?_;refine Wb (i:=0) cw fun w5 lI hg => ?_
 have hG:=cw.gr hg;replace bg:=bg.grown hg (by simpa using n8);replace aH:=aH.grown hg (by simpa using n4);replace hw:=hw.own tO hg;(replace hq:=hq.aN hG rfl;replace hX:=hX.aN hG rfl);replace cw:aS w5 tz 44 (aP ⟨⟨X,m,c⟩,q.Heap,q.aa⟩):=lI;clear lI hG hg;have uu:iT w5 w.heap.size ⟨⟨X,m,c⟩,q.Heap,q.aa⟩ (Fc t to a z):=⟨hX,hq.heap,hq.br⟩
 clear hq hX;refine Wz ?_;refine Wk (wN _ (Fc t to a z) cpu a _ uu.rd (Kx Y5 to a z) ha (hS.ext hw)) fun v w6 EV hv => ?_
 obtain ⟨u,Y6,p,rfl,hp⟩:=hv;replace hp:=hp.low hw.size;(replace hw:=Ext.trans hw EV;replace aH:=aH.ext EV;replace bg:=bg.ext EV;replace cw:=cw.ext EV);clear EV uu;replace cS:=cS u Y6;replace KY:=KY u Y6;obtain ⟨t2,e2⟩:=u;simp only at cS KY hp ⊢;refine Wz ?_;refine SW.ag cw rfl rfl rfl rfl (aY p) fun w7 lI hg => ?_
 have hG:=cw.gr hg;replace bg:=bg.grown hg (by simpa using n8);replace hw:=hw.own tO hg;(replace hp:=hp.aN hG rfl);replace cw:=lI;clear lI hG hg;by_cases he:e2=0
 ·replace KY:=KY he;subst he;refine Wz ?_;refine SW.ag bg rfl rfl rfl rfl (aY p) fun w7 jT hg => ?_
  have hG:=bg.gr hg;replace hw:=hw.own gz hg;(replace hp:=hp.aN hG rfl);refine Wz ?_;exact ae.e8 rfl rfl rfl rfl jT rfl ⟨_,rfl,hw,_,KY,p,rfl,hp⟩
 ·refine Wz ?_;refine SW.ag bg rfl rfl rfl rfl (aY .zero) fun w7 jT hg => ?_
  replace hw:=hw.own gz hg;refine Wz ?_;exact ae.e8 rfl rfl rfl rfl jT rfl ⟨_,rfl,hw,_,cS he,xO.zero _ _ _⟩
variable {c2:Nat} {G:Nat->Prop} {A A2:Option Addr}
theorem sk.aside {n c n2:Nat} {r:db} {cs:List dN} {l:List Int} (h:SX w lo r s cs) (hJ:SJ (fun g=>aI A c=some g) w lo r s cs) (hO:Own w lo 3 1 bw A n c l) (hg:w.grownBy w' (aI A c)) (OT:∀ g,aI A2 c2=some g->aI A c=some g∨w.heap.size<=g) :
 SX w' lo r s cs∧SJ (fun g=>aI A2 c2=some g) w' lo r s cs:=by
 obtain ⟨m1,m0,h1,h0,h3⟩:=hJ.ints;have hG:=hO.gr hg;have G9:=h.Iw
 obtain ⟨m2,k1,k2,h2⟩ : ∃ m2,m2<=m0∧m2<=w.heap.size∧jH w m1 m2 r.Heap s.Heap:=by
  rcases Nat.le_total m0 w.heap.size with e|e
  ·exact ⟨m0,ac3 _,e,h0⟩
  ·exact ⟨w.heap.size,e,ac3 _,h0.own.vd⟩
 have hh:jH w' m1 m2 r.Heap s.Heap:=by
  cases e:aI A c with
  | none=>rw [e] at hg;exact h2.aN (⟨none,hg,fun k hk=>by cases hk⟩ : rF w w' 44) rfl
  | some g =>
    rw [e] at hg;have:=(h3 g (.inr e)).1
    exact h2.Iq hg hG (by omega)
 refine ⟨⟨h.words.apart hg fun g e e2=>(h3 g (.inr e2)).2 e,hh.own.low h1,h.row.aN hG rfl,⟨h.each.len,fun k a1 a2 => ?_⟩,h.pair⟩,⟨⟨m1,m2,h1,hh,fun g e => ?_⟩,fun u hu g e e2 => ?_⟩⟩
 ·have ho:=h.each.get k a1 a2;exact ⟨ho.size,ho.per,ho.order,ho.names.aN hG rfl,ho.aD.aN hG rfl,ho.aZ.apart hg fun g e e2=>hJ.sep _ (ac0 a1) g e2 e⟩
 ·rcases e with e|e
  ·have:=h3 g (.inl e)
   exact ⟨by omega,this.2⟩
  ·rcases OT g e with e2|e2
   ·have:=h3 g (.inr e2)
    exact ⟨by omega,this.2⟩
   ·exact ⟨.inr (by omega),fun e3=>by have:=h.words.lt_size g e3;omega⟩
 ·rcases OT g e with e3|e3
  ·exact hJ.sep u hu g e3 e2
  ·have:=G9 u hu g e2
   omega
theorem SJ.none {r:db} {cs:List dN} (h:SJ (fun _=>False) w lo r s cs) (hG:∀ g,¬ G g) : SJ G w lo r s cs:=by
 obtain ⟨m1,m2,h1,h2,h3⟩:=h.ints;exact ⟨⟨m1,m2,h1,h2,fun g e=>h3 g (e.imp id fun e=>hG g e)⟩,fun u hu g e=>(hG g e).elim⟩
theorem Own.same {n c:Nat} {l:List Int} (h:Own w lo 3 1 bw A n c l) (hk:∀ j x,aI A c=some j->aS w j 3 x->aS w' j 3 x) : Own w' lo 3 1 bw A n c l:=by
 refine ⟨h.len,?_⟩;rcases h.row with e|⟨hc,g,jO,rfl,dz,h1,h2⟩
 ·exact .inl e
 ·have e:aI (some ⟨g,0,none⟩) c=some g:=by unfold aI;rw [if_neg (by omega)];rfl
  have:=hk g jO.toList e (by unfold aS;simpa using h1)
  unfold aS at this;exact .inr ⟨hc,g,jO,rfl,dz,by simpa using this,h2⟩
set_option maxHeartbeats 8000000 in
theorem vC (r:db) (s:ah) (n:ByteArray) (cpu many:Int) (w:World) (hr:AM w r s) (hf:s.cV) (NL:n.size<=140737488351232) (eY:mD w) :
 bI prog 59 [.agg (aP r).toArray,.string n,.int .i64 cpu,.int .i64 many] w fun v w' => ∃ u,oc s n cpu many u ∧ ∃ q A c,v = .tuple #[.agg (aP q).toArray,.slice A u.2.1.length c,.int .i64 u.2.2]∧iT w' w.heap.size q u.1∧Own w' w.heap.size 3 1 bw A u.2.1.length c u.2.1:=by
 refine aE func59 rfl ntmps59 rfl ?_;refine CW.seq (CW.region (SW.box rfl rfl fun b3 w1 hw cg ap => ?_));refine SW.alloc rfl fun b6 w3 nL dt aq => ?_
 have cG:=hw.up dt
 have bL:b6≠b3:=by have:=ap.lt;omega
 have hz:∀ w',iT w' w.heap.size db.zero ah.zero:=fun w'=>⟨Own.fv _ _ _ _ _ _,jC.zero w' _,⟨[],fj.nil _ _⟩⟩
 (obtain ⟨hw,ap⟩:=cX nL hw ap);repeat' (first|refine Wz ?_|fail);refine Wk (yq r s n cpu _ (hr.ext hw) hf NL) fun v w4 ar hv => ?_
 have oy:=hw.size;(obtain ⟨hw,ap,aq⟩:=cj ar hw ap aq);rcases hv with ⟨he,rfl⟩|⟨he,q,cs,rfl,hO,hI⟩
 ·have hP:=oc.ask (many:=many) he;obtain ⟨e,hE⟩ : ∃ e,iO s n cpu=e:=⟨_,rfl⟩;rw [hE] at he hP;rw [hE];repeat' (first|refine Wz ?_|fail);refine SW.ag ap rfl rfl rfl rfl (aY .zero) fun w5 dW hg => ?_
  have aq:=aq.grown hg (by simpa using bL);have hw:=hw.own cg hg;repeat' (first|refine Wz ?_|fail);all_goals try omega
  refine SW.ag aq rfl rfl rfl rfl (aY .zero) fun w6 cS hg => ?_
  have hw:=hw.own cG hg;repeat' (first|refine Wz ?_|fail);exact ae.e8 rfl rfl rfl rfl cS rfl ⟨_,rfl,hw,_,hP,.zero,none,0,rfl,hz _,Own.fv _ _ _ _ _ _⟩
 ·have hO:=hO.low oy;have hI:=hI.low oy;obtain ⟨i,c,rG,rfl,hM,hB⟩:=OF he hf;rw [rG];repeat' (first|refine Wz ?_|fail);refine SW.ag ap rfl rfl rfl rfl (aY q) fun w5 dW hg => ?_
  have hG:=ap.gr hg;have aq:=aq.grown hg (by simpa using bL);have hw:=hw.own cg hg;(obtain ⟨hO,hI⟩:=cX hG hO hI);have ap:=dW;clear dW hG hg;by_cases hm : 1<=many∧many<=256
  ·obtain ⟨m,rfl⟩:=ada (show 0<=many by omega);have hP:∀ u,oa i c m s [] u->oc s n c m u:=fun u hu=>oc.DS he hm rG hu
   have wy:m<=256:=by omega
   repeat' (first|refine Wz ?_|fail);all_goals try omega
   refine CW.loop (fun t:Nat×(Option Addr×Nat×List Int)×db×ah×List dN=>[(2,.int .i64 (c:Int)),(4,.pointer (some ⟨b3,0,none⟩)),(8,.pointer (some ⟨b6,0,none⟩)),(11,.int .i64 (i:Int)),(13,.slice t.2.1.1 t.1 t.2.1.2.1),(35,.int .i64 (m:Int)),(36,.int .i64 (t.1:Int))])
    (fun t w'=>t.1<=m∧Ext w w'∧aS w' b3 44 (aP t.2.2.1)∧aS w' b6 44 (aP .zero)∧SX w' w.heap.size t.2.2.1 t.2.2.2.1 t.2.2.2.2∧SJ (fun g=>aI t.2.1.1 t.2.1.2.1=some g) w' w.heap.size t.2.2.1 t.2.2.2.1 t.2.2.2.2∧Own w' w.heap.size 3 1 bw t.2.1.1 t.1 t.2.1.2.1 t.2.1.2.2∧Bk t.2.2.2.1 i c ∧ ∀ u,oa i c (m-t.1) t.2.2.2.1 t.2.1.2.2 u->oa i c m s [] u)
    (fun t=>m-t.1) (0,(none,0,[]),q,s,cs) ⟨rfl,rfl,rfl,rfl,rfl,rfl,rfl,trivial⟩ ⟨adO _,hw,ap,aq,hO,hI.sj.none (fun g e=>by cases e),Own.fv _ _ _ _ _ _,hB,fun u hu=>hu⟩ ?_
   clear hw ap aq hO hI hB hM;rintro ⟨j,⟨A,ca,l⟩,q1,s1,cs1⟩ w6 ⟨hj,hw,ap,aq,hS,hJ,hO,hB,hR⟩
   simp only at hj ap hS hJ hO hB hR ⊢;by_cases XN:j<m
   ·have yd:=sX hB.inv;repeat' (first|refine Wz ?_|fail);all_goals try omega
    refine SW.dT rfl rfl (IC (fun g=>aI A ca=some g) w _ b3 q1 s1 cs1 i c hB.cV hB.hi hB.inv (eY.ext hw) hw ap cg hS hJ (fun g e=>hO.lt_size g e) hB.pW (by omega)) fun v w7 hv => ?_
    obtain ⟨M,xL,hx7,ue,F2,hv⟩:=hv;have aq:=ue _ _ bL aq;have hO:=hO.same F2;have mO:m-j=(m-(j+1))+1:=by omega
    rw [mO] at hR;clear hw hS hJ;have hw:=hx7;rcases hv with ⟨hn,gV,rfl⟩|⟨M,rfl,rfl,X,H,UX,hb,hS,hJ⟩
    ·have hQ:=hP _ (hR _ (.bad hB.hi xL hn));obtain ⟨m1,e⟩:=M;simp only at hn gV hQ;repeat' (first|refine Wz ?_|fail);all_goals try omega
     refine SW.ag aq rfl rfl rfl rfl (aY .zero) fun w8 cS hg => ?_
     have hw:=hw.own cG hg;repeat' (first|refine Wz ?_|fail);exact ae.e8 rfl rfl rfl rfl cS rfl ⟨_,rfl,hw,_,hQ,.zero,none,0,rfl,hz _,Own.fv _ _ _ _ _ _⟩
    ·have qg:=hB.DS xL;have cS:∀ u,oa i c (m-(j+1)) (uc s1 i c M) (l++[(ig M.c M.k).cf]) u->oa i c m s [] u:=fun u hu=>hR u (.more hB.hi xL hu)
     obtain ⟨a,ha⟩ : ∃ a,(ig M.c M.k).cf=a:=⟨_,rfl⟩;obtain ⟨s2,gH⟩ : ∃ s2,uc s1 i c M=s2:=⟨_,rfl⟩;rw [show bH (mV s1 M.ws) i (M.h,dH M.c c M.k (M.ws.getD (ig M.c M.k).cf.toNat 0))=s2 from gH] at hS hJ;rw [ha,gH] at cS;rw [gH] at qg;rw [ha];repeat' (first|refine Wz ?_|fail);all_goals try omega
     refine SW.dR rfl rfl rfl rfl rfl fun bn w9 ar TQ OS => ?_
     (obtain ⟨hw,hb,aq,hS,hJ,hO⟩:=iS ar hw hb aq hS hJ hO);refine SW.Dg hO (aS.vF (enc:=bw) (x:=a) OS) hw.size (by omega) rfl rfl rfl (by omega) (by omega) fun A2 c2 qU bh hg OT => ?_
     obtain ⟨yo,wV⟩:=hS.aside (n2:=0) hJ hO hg OT;have hG:=hO.gr hg;have hw:=aF hw hg (ac3 _) hO.ba;(obtain ⟨hb,aq⟩:=cX hG hb aq);repeat' (first|refine Wz ?_|fail);exact ae.again (j+1,(A2,c2,l++[a]),⟨X,H,q1.aa⟩,s2,UX) ⟨rfl,rfl,rfl,rfl,rfl,rfl,rfl,trivial⟩ (by simp only;omega) ⟨by simp only;omega,hw,hb,aq,yo,wV,bh,qg,cS⟩
   ·obtain rfl:j=m:=by omega
    have hQ:=hP _ (hR (s1,l,0) (by rw [ae6];exact .done));have mv:=hO.len;repeat' (first|refine Wz ?_|fail);all_goals try omega
    refine SW.ag aq rfl rfl rfl rfl (aY q1) fun w7 cS hg => ?_
    have hG:=aq.gr hg;have hw:=hw.own cG hg;(obtain ⟨hS,hO⟩:=cX hG hS hO);repeat' (first|refine Wz ?_|fail);exact ae.e8 rfl rfl rfl rfl cS rfl ⟨_,rfl,hw,_,hQ,_,A,ca,by rw [mv],hS.xH,by rw [mv];exact hO⟩
  ·have hP:=oc.range he hm;repeat' (first|refine Wz ?_|refine SW.fZ rfl rfl rfl (fun h => ?_) (fun h => ?_))
   all_goals try omega
   all_goals refine SW.ag aq rfl rfl rfl rfl (aY .zero) fun w7 cS hg => ?_
   all_goals have hw:=hw.own cG hg
   repeat' (first|refine Wz ?_|fail);all_goals exact ae.e8 rfl rfl rfl rfl cS rfl ⟨_,rfl,hw,_,hP,.zero,none,0,rfl,hz _,Own.fv _ _ _ _ _ _⟩
end Go.Proofs.YtohigmjjbgpfmaaGreatDoor
