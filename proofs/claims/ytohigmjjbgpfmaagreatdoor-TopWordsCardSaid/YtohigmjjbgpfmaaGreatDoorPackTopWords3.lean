/- Part 3 of what topWords_holds leans on. -/
import Derived.Test.YtohigmjjbgpfmaaGreatDoorPackTopWords2
import Derived.Test.YtohigmjjbgpfmaaGreatDoorRows
import Derived.ProofKit
import Derived.LaidMore
import Derived.OpenShut
import Derived.Stop.Joined
import Derived.Lib.ConvBytes
import Derived.Laws.Strings
set_option linter.unusedVariables false
set_option linter.unusedSimpArgs false
set_option linter.defProp false
open Go.Proofs.Tryz
namespace Go.Proofs.YtohigmjjbgpfmaaGreatDoor
open Go.RowKit
variable {ad:Addr} {R:Ending->World->Prop} {fn:Func} {N i sz:Nat} {y:Operand} {P:Program} {e t:TypeId} {w:World}
section
variable {P:Program} {L:Env} {w:World} {d:Option Nat} {T:TypeId} {pos:String} {af:Array Edge} {g:Option (Nat×Bool)}
theorem rY {len:Nat} [c:yF P t len e sz] {x:Operand} {i:Int} (k:Nat) (hx:cK L x=some (.pointer (some ad))) (hy:cK L y=some (.int .i64 i)) (hi:i=(k:Int)) (hk:k<len) :
 St P ⟨d,.indexAddr t x y,T,pos,af,g⟩ L w (.pointer (some (ad.add (k*sz)))) :=
 ⟨fun _ a ha w' _=>by
  subst hi;have e1:=ha.eval hx;have e2:=ha.eval hy;generalize a.eval = ρ at *
  simp [execOp,e1,e2,Instr.indexAt,Instr.sureAddr,asIntOf,run_underlying c.ou,run_sizeOf c.size,hk]⟩
end
theorem ae.QD {n:Nat} {L:Env} (hr:fn.results = #[]) (h:R (.returned (.tuple #[])) w) : ae n (bodyPost P fn R) .ret L w :=
 ⟨fun a ha=>⟨ha.defers,_,by simpa using mw.results (rs:=[]) hr .nil ha,h⟩⟩
theorem ae.pI {n:Nat} {L:Env} (hr:fn.results = #[]) (h:R (.returned (.tuple #[])) w) : ae n (bodyPost P fn R) .normal L w :=
 ⟨fun a ha=>⟨ha.defers,_,by simpa using mw.results (rs:=[]) hr .nil ha,h⟩⟩
def iJ (p:Nat->Bool) (N:Nat) (bad:Bool) : List Value:=(marksOf p N).map Value.bool++[.bool bad]
theorem tU (p:Nat->Bool) (N:Nat) (bad:Bool) : (iJ p N bad).length=N+1:=by simp [iJ,marksOf]
theorem y6 (p:Nat->Bool) (N:Nat) (bad:Bool) : (iJ p N bad)[N]?=some (.bool bad):=by
 unfold iJ;rw [adL (by simp [marksOf])];simp [marksOf]
theorem I9 (p:Nat->Bool) (N:Nat) (bad:Bool) (h:i<N) : (iJ p N bad)[i]?=some (.bool (p i)):=by
 unfold iJ;rw [adF (by simp [marksOf];omega)];simp [marksOf,h]
theorem tE (p:Nat->Bool) (N:Nat) (bad b:Bool) : (iJ p N bad).set N (.bool b)=iJ p N b:=by
 unfold iJ;rw [ad2 _ _ (by simp [marksOf])];simp [marksOf]
theorem Gh (p:Nat->Bool) (N:Nat) (bad:Bool) (h:i<N) : (iJ p N bad).set i (.bool true)=iJ (fun j=>if j=i then true else p j) N bad:=by
 unfold iJ;rw [List.set_append_left _ _ (by simp [marksOf];omega),<- rV,aem]
theorem qy {p q:Nat->Bool} {bad:Bool} (h:∀ i,i<N->p i=q i) : iJ p N bad=iJ q N bad:=by
 unfold iJ;rw [ir h]
set_option maxHeartbeats 4000000 in
theorem Ec (b:Nat) (p:Nat->Bool) (bad:Bool) (N:Nat) (hN:N=256) (a n:Int) (w:World) (hB:aS w b 191 (iJ p N bad)) (hn : 0<=n∧n<=16) :
 iI prog 107 [.pointer (some ⟨b,0,none⟩),.int .i64 a,.int .i64 n] w fun v w' => ∃ p' Ja,aS w' b 191 (iJ p' N Ja)∧w.grownBy w' (some b)∧((QC p a n∧Ja=bad∧p'=AX p a n)∨(¬ QC p a n∧Ja=true)):=by
 refine dh func107 rfl ntmps107 rfl ?_;have Gb:w.grownBy w (some b):=World.grownBy.refl _ _
 have hw:=Ext.refl w;by_cases cQ : 0<=a∧a<256∧n<=256-a
 ·obtain ⟨h1,h2,h3⟩:=id cQ;obtain ⟨k,rfl⟩:=ada h1;obtain ⟨m,rfl⟩:=ada hn.1;refine Wz ?_;clear hw
  refine CW.loop (fun j:Nat=>[(0,.pointer (some ⟨b,0,none⟩)),(1,.int .i64 (k:Int)),(2,.int .i64 (m:Int)),(6,.int .i64 ((k+j:Nat) : Int))])
   (fun j w'=>j<=m∧aS w' b 191 (iJ (AX p k (j:Int)) N bad)∧w.grownBy w' (some b) ∧ ∀ i:Nat,k<=i->i<k+j->p i=false) (fun j=>m-j) 0
   ⟨rfl,rfl,rfl,rfl,trivial⟩ ⟨by omega,by rwa [qy (q:=p) (fun i _=>by simp [AX]<;>omega)],Gb,fun i h1 h2=>by omega⟩ ?_
  clear hB Gb;rintro j w' ⟨hj,hB,hg,hI⟩
  have hw:=Ext.refl w';by_cases XN:j<m
  ·have eQ:k+j<N:=by omega
   have hc:=hB.cell (I9 _ N bad eQ);have hv:AX p k (j:Int) (k+j)=p (k+j):=by simp [AX]
   rw [hv] at hc;have gQ:w'.cell? (((⟨b,0,none⟩ : Addr).add 0).add ((k+j)*1))=some (.bool (p (k+j))):=by rw [add_add];simpa using hc
   cases hp:p (k+j)
   ·rw [hp] at gQ;repeat' (first|refine Wz ?_|refine Wl (gQ) ?_|(refine SW.st (rY (k+j) rfl rfl rfl (by omega)) rfl ?_))
    have Vi:(⟨b,0,none⟩ : Addr).add (k+j)=((⟨b,0,none⟩ : Addr).add 0).add ((k+j)*1):=by rw [add_add];simp
    refine SW.rR (i:=k+j) hB (by rw [Vi];rfl) rfl rfl (by rw [tU];simp;omega) fun w3 vI KQ => ?_
    rw [Gh _ _ _ eQ,qy (q:=AX p k ((j+1:Nat) : Int)) (fun i _=>by
     by_cases e:i=k+j
     ·subst e;simp [AX];omega
     ·simp only [e,if_false,AX];congr 1
      by_cases e1:i<k+j
      ·rw [decide_eq_true (show (i:Int)<(k:Int)+(j:Int) by omega),decide_eq_true (show (i:Int)<(k:Int)+((j+1:Nat) : Int) by omega)]
      ·rw [decide_eq_false (show ¬ (i:Int)<(k:Int)+(j:Int) by omega),decide_eq_false (show ¬ (i:Int)<(k:Int)+((j+1:Nat) : Int) by omega)])] at vI
    have AK:=bQ hg KQ (.inl rfl);clear hw;have hw:=Ext.refl w3;refine Wz ?_;refine ae.again (j+1) ⟨rfl,rfl,rfl,rfl,trivial⟩ (by omega) ⟨by omega,vI,AK,fun i h1 h2 => ?_⟩;by_cases e:i=k+j
    ·subst e;exact hp
    ·exact hI i h1 (by omega)
   ·rw [hp] at gQ;repeat' (first|refine Wz ?_|refine Wl (gQ) ?_|(refine SW.st (rY (k+j) rfl rfl rfl (by omega)) rfl ?_))
    subst hN;refine SW.rR (i:=256) hB rfl rfl rfl (by rw [tU];rfl) fun w3 vI KQ => ?_
    rw [tE] at vI;clear hw;have hw:=Ext.refl w3;refine Wz ?_;exact ae.QD rfl ⟨_,rfl,_,true,vI,bQ hg KQ (.inl rfl),.inr ⟨(fun h=>by have:=h.2.2.2 (k+j) (by omega) (by omega);rw [hp] at this;cases this),rfl⟩⟩
  ·obtain rfl:j=m:=by omega
   refine Wz ?_;exact ae.pI rfl ⟨_,rfl,_,bad,hB,hg,.inl ⟨⟨h1,h2,h3,fun i h4 h5=>hI i (by omega) (by omega)⟩,rfl,rfl⟩⟩
 ·have oD : ¬ QC p a n:=fun h=>cQ ⟨h.1,h.2.1,h.2.2.1⟩
  subst hN;repeat' (first|refine Wz ?_|refine SW.fZ rfl rfl rfl (fun h => ?_) (fun h => ?_))
  all_goals
   first
    | (exfalso;omega)
    | (refine SW.rR (i:=256) hB rfl rfl rfl (by rw [tU];rfl) fun w3 vI KQ => ?_
       rw [tE] at vI;clear hw;have hw:=Ext.refl w3;refine Wz ?_;exact ae.QD rfl ⟨_,rfl,_,true,vI,KQ,.inr ⟨oD,rfl⟩⟩)
variable {α:Type} {a f o:Int} {l:List Block} {j k m:Nat} {z:ak}
def rZ (o t:Int) (b:Block) : Bool:=decide (b.Order=o) && decide (b.Ty=t)
theorem Lp {t:Int} {b:Block}:rZ o t b=true↔b.Order=o∧b.Ty=t:=by simp [rZ]
def AY (t:Int) : Int:=if t=2 then 0 else 2
def AZ (t:Int) : Int:=if t=1 then 0 else 1
def uR (o:Int) (n:Nat) : Int:=if n<5 then o+n else 4-(((n-5) / 2:Nat) : Int)
def N4 (t:Int) (n:Nat) : Int:=if n<5 then t else if (n-5) % 2=0 then AY t else AZ t
def kZ (l:List Block) (o t:Int) (n:Nat) : Bool:=decide (o<=uR o n∧uR o n<=4) && l.any (rZ (uR o n) (N4 t n))
theorem x9 (h:j<5) : uR o j=o+j:=by unfold uR;rw [if_pos h]
theorem CV:uR o (5+2*j)=4-(j:Int):=by unfold uR;rw [if_neg (by omega)];omega
theorem CX:uR o (5+2*j+1)=4-(j:Int):=by unfold uR;rw [if_neg (by omega)];omega
theorem Gi {t:Int} (h:j<5) : N4 t j=t:=by unfold N4;rw [if_pos h]
theorem Gj {t:Int}:N4 t (5+2*j)=AY t:=by unfold N4;rw [if_neg (by omega),if_pos (by omega)]
theorem Gk {t:Int}:N4 t (5+2*j+1)=AZ t:=by unfold N4;rw [if_neg (by omega),if_neg (by omega)]
theorem Lq {t:Int} (h:j<5) (ho:o+j<=4) : kZ l o t j=l.any (rZ (o+j) t):=by
 unfold kZ;rw [x9 h,Gi h,decide_eq_true (by omega),aeY]
theorem Lr {t:Int} (ho:o<=4-(j:Int)) : kZ l o t (5+2*j)=l.any (rZ (4-(j:Int)) (AY t)):=by
 unfold kZ;rw [CV,Gj,decide_eq_true (by omega),aeY]
theorem Ls {t:Int} (ho:o<=4-(j:Int)) : kZ l o t (5+2*j+1)=l.any (rZ (4-(j:Int)) (AZ t)):=by
 unfold kZ;rw [CX,Gk,decide_eq_true (by omega),aeY]
theorem Ed {t:Int} {n:Nat} (h : ¬ (o<=uR o n∧uR o n<=4)) : kZ l o t n=false:=by
 unfold kZ;rw [decide_eq_false h,Bool.false_and]
inductive ll (l:List Block) (o t:Int) : Option (Nat×Bool)->Prop
 | hit {n k:Nat} (hn:n<15) (ht:kZ l o t n=true) (hf:∀ m,m<n->kZ l o t m=false) (hk:k<l.length) (hp:rZ (uR o n) (N4 t n) l[k]=true) (hg:∀ (j:Nat) (hj:j<l.length),j<k->rZ (uR o n) (N4 t n) l[j]=false) : ll l o t (some (k,decide (5<=n)))
 | N5 (hf:∀ m,m<15->kZ l o t m=false) : ll l o t none
theorem ll.dm {t:Int} {u v:Option (Nat×Bool)} (a:ll l o t u) (b:ll l o t v) : u=v:=by
 cases a with
 | @hit n k hn ht hf hk hp hg =>
   cases b with
   | @hit n' k' kb ru FR bW Gg KQ =>
     rcases adD n n' with h|h|h
     ·rw [FR n h] at ht;cases ht
     ·subst h;rcases adD k k' with h|h|h
      ·rw [KQ k hk h] at hp;cases hp
      ·subst h;rfl
      ·rw [hg k' bW h] at Gg;cases Gg
     ·rw [hf n' h] at ru;cases ru
   | N5 FR=>rw [FR n hn] at ht;cases ht
 | N5 hf =>
   cases b with
   | @hit n' k' kb ru FR bW Gg KQ=>rw [hf n' kb] at ru;cases ru
   | N5=>rfl
theorem ll.ord {t:Int} {s:Bool} (a:ll l o t (some (k,s))) : ∃ hk:k<l.length,o<=l[k].Order∧l[k].Order<=4:=by
 cases a with
 | hit hn ht hf hk hp hg =>
   refine ⟨hk,?_⟩;unfold kZ at ht;rw [adG] at ht;have h1:=of_decide_eq_true ht.1;have h2:=(Lp.1 hp).1;omega
def N6 (f to t:Int) (x:Block) : Block:=if f<=x.At∧x.At+pw x.Order<=to then ⟨x.At,x.Order,t⟩ else x
def Ee (b:Block) : Int:=if b.Order=4 then b.At+16 else b.At / 8*8+8
def jR (l:List Block) (b:Block) (t:Int) : List Block:=if b.Order<2 then l else l.map (N6 (b.At / 8*8) (Ee b) t)
def uS (z:ak) (b:Block) : Nat:=((b.At-z.aU) / 8).toNat
def kD (z:ak) (b:Block) (t:Int) : List Int:=if b.Order<2 then z.Types else if b.Order=4 then (z.Types.set (uS z b) t).set (uS z b+1) t else z.Types.set (uS z b) t
theorem pe (f to t:Int) (x:Block) : (N6 f to t x).At=x.At∧(N6 f to t x).Order=x.Order:=by
 unfold N6;split<;>exact ⟨rfl,rfl⟩
theorem Gl (l:List Block) (b:Block) (t:Int) : (jR l b t).length=l.length:=by unfold jR;split<;>simp
theorem Gm {b:Block} {t:Int} (h:rT l) : rT (jR l b t):=by
 unfold jR;split
 ·exact h
 ·unfold rT at *;rw [ae0];refine h.imp fun {x y} Vj => ?_
  rw [(pe _ _ _ x).1,(pe _ _ _ x).2,(pe _ _ _ y).1];exact Vj
theorem Gn {u:Int} {b:Block} {t:Int} (h:∀ x∈l,kV f u x) (ht:kH t) : ∀ x∈jR l b t,kV f u x:=by
 unfold jR;split
 ·exact h
 ·intro x hx;obtain ⟨y,hy,rfl⟩:=adk.1 hx;have hk:=h y hy;unfold kV at *;rw [(pe _ _ _ y).1,(pe _ _ _ y).2];refine ⟨hk.1,?_⟩;unfold N6;split
  ·exact ht
  ·exact hk.2
def nR (ty a q:Int) : Block:=⟨a+pw (q-1),q-1,ty⟩
def tF (ty a q:Int) (l:List Block) : List Block:=aM l (bE l (a+pw (q-1))) (nR ty a q)
def lY (ty a:Int) : Nat->Int->List Block->List Block
 | 0,_,l=>l
 | f+1,q,l=>lY ty a f (q-1) (tF ty a q l)
def xz (z:ak) (t:Int) (st:Bool) (b:Block) : Int:=if st=true∧2<=b.Order then t else b.Ty
def tV (z:ak) (o t:Int) (b:Block) (k:Nat) (st:Bool) : ak :=
 ⟨z.aU,z.To,lY (xz z t st b) b.At (b.Order-o).toNat b.Order ((if st=true then jR z.aj b t else z.aj).eraseIdx k),if st=true then kD z b t else z.Types⟩
inductive ib (z:ak) (o t:Int) : ak×Int×Int->Prop
 | bad (h:fD z=false) : ib z o t (.zero,0,8)
 | range (h:fD z=true) (ho : ¬ (0<=o∧o<=4)) : ib z o t (.zero,0,1)
 | kind (h:fD z=true) (ho : 0<=o∧o<=4) (ht : ¬ kH t) : ib z o t (.zero,0,2)
 | room (h:fD z=true) (ho : 0<=o∧o<=4) (ht:kH t) (hp:ll z.aj o t none) : ib z o t (.zero,0,6)
 | ok {k:Nat} {st:Bool} (h:fD z=true) (ho : 0<=o∧o<=4) (ht:kH t) (hk:k<z.aj.length) (hp:ll z.aj o t (some (k,st))) : ib z o t (tV z o t z.aj[k] k st,z.aj[k].At,0)
theorem ib.dm {t:Int} {u v:ak×Int×Int} (a:ib z o t u) (b:ib z o t v) : u=v:=by
 cases a with
 | bad h=>cases b with
   | bad=>rfl
   | range h'|kind h'|room h'|ok h'=>rw [h] at h';cases h'
 | range h ho=>cases b with
   | bad h'=>rw [h] at h';cases h'
   | range=>rfl
   | kind _ nK|room _ nK|ok _ nK=>exact absurd nK ho
 | kind h ho ht=>cases b with
   | bad h'=>rw [h] at h';cases h'
   | range _ nK=>exact absurd ho nK
   | kind=>rfl
   | room _ _ ru|ok _ _ ru=>exact absurd ru ht
 | room h ho ht hp=>cases b with
   | bad h'=>rw [h] at h';cases h'
   | range _ nK=>exact absurd ho nK
   | kind _ _ ru=>exact absurd ht ru
   | room=>rfl
   | ok _ _ _ _ Gg=>cases hp.dm Gg
 | ok h ho ht hk hp=>cases b with
   | bad h'=>rw [h] at h';cases h'
   | range _ nK=>exact absurd ho nK
   | kind _ _ ru=>exact absurd ht ru
   | room _ _ _ Gg=>cases hp.dm Gg
   | ok _ _ _ _ Gg=>cases hp.dm Gg;rfl
theorem kr {l:List α} {x y : α}:y∈aM l i x↔y=x∨y∈l:=by
 have e:l=l.take i++l.drop i:=(ac4 i l).symm
 unfold aM;constructor
 ·intro h;simp only [List.mem_append,List.mem_singleton] at h;rcases h with (h|h)|h
  ·exact .inr (adu h)
  ·exact .inl h
  ·exact .inr (adI h)
 ·intro h;simp only [List.mem_append,List.mem_singleton];rcases h with h|h
  ·exact .inl (.inr h)
  ·rw [e,ac9] at h;rcases h with h|h
   ·exact .inl (.inl h)
   ·exact .inr h
theorem Jb {t:Int} {y:Block} (hu:rT l) (hb:∀ b∈l,kV f t b) (hy : 0<=y.Order∧y.Order<=4) (hd:∀ b∈l,b.At+pw b.Order<=y.At∨y.At+pw y.Order<=b.At) : rT (aM l (bE l y.At) y):=by
 have e:l=l.take (bE l y.At)++l.drop (bE l y.At):=(ac4 _ l).symm
 have h0:=hu;unfold rT at h0;rw [e,adp] at h0;obtain ⟨h1,h2,h3⟩:=h0
 have hA:∀ x∈l.take (bE l y.At),x.At+pw x.Order<=y.At:=fun x hx=>by
  obtain ⟨j,hj,rfl⟩:=ac1 hx;simp only [List.length_take] at hj;rw [adH];have eQ:=pE (l:=l) (a:=y.At) (k:=j) (by omega);have hp:=cy hy.1 hy.2;rcases hd _ (ac0 (show j<l.length by omega)) with h|h<;>omega
 have hB:∀ x∈l.drop (bE l y.At),y.At+pw y.Order<=x.At:=fun x hx=>by
  obtain ⟨j,hj,rfl⟩:=ac1 hx;simp only [List.length_drop] at hj;rw [adZ];have Lb:=D7 (l:=l) (a:=y.At) (by omega)
  have hle:(l[bE l y.At]'(by omega)).At<=(l[bE l y.At+j]'(by omega)).At:=by
   rcases adj j with rfl|N7
   ·exact aeR _
   ·have:=jF hu (show bE l y.At+j<l.length by omega) (show bE l y.At<bE l y.At+j by omega)
    have:=cy (hb _ (ac0 (show bE l y.At<l.length by omega))).1.1 (hb _ (ac0 (show bE l y.At<l.length by omega))).1.2.1
    omega
  have hm:=ac0 (show bE l y.At+j<l.length by omega);have:=cy (hb _ hm).1.1 (hb _ hm).1.2.1
  rcases hd _ hm with h|h<;>omega
 unfold aM rT;rw [ac6,adp];refine ⟨h1,?_,fun a ha b iq => ?_⟩
 ·rw [adn,adY];exact ⟨hB,h2⟩
 ·rw [adn,ad4] at iq;rcases iq with rfl|iq
  ·exact hA a ha
  ·exact h3 a ha b iq
theorem Ef {t:Int} {q ty:Int} (h:D5 f t l a q) (h0 : 0<=f) (ht:t<=256) (QE:t % 16=0) (hq : 1<=q) (yY:kH ty) : D5 f t (tF ty a q l) a (q-1)∧(∀ b∈l,b.At≠a+pw (q-1)):=by
 obtain ⟨f1,f2,f3,f4,f5⟩:=h.fit
 have hp:pw q=2*pw (q-1):=by
  have:=qv (o:=q-1) (by omega) (by omega)
  rwa [aey] at this
 have hm:a % pw (q-1)=0∧(a+pw (q-1)) % pw (q-1)=0∧1<=pw (q-1)∧a+pw (q-1)<t:=by
  rcases fB f1 f2 with ⟨e1,e2⟩|⟨e1,e2⟩|⟨e1,e2⟩|⟨e1,e2⟩|⟨e1,e2⟩
  all_goals
   rw [e2] at f5 hp
   first
    | omega
    | (have e3:pw (q-1)=1:=by omega
       rw [e3];omega)
    | (have e3:pw (q-1)=2:=by omega
       rw [e3];omega)
    | (have e3:pw (q-1)=4:=by omega
       rw [e3];omega)
    | (have e3:pw (q-1)=8:=by omega
       rw [e3];omega)
 obtain ⟨m1,m2,m3,m4⟩:=hm
 have hd:∀ b∈l,b.At+pw b.Order<=a+pw (q-1)∨a+pw (q-1)+pw (q-1)<=b.At:=fun b hb=>by
  rcases h.NB b hb with g|g<;>omega
 have bL:∀ b∈l,b.At≠a+pw (q-1):=fun b hb e=>by
  have:=cy (h.eG b hb).1.1 (h.eG b hb).1.2.1
  rcases h.NB b hb with g|g<;>omega
 refine ⟨⟨?_,fun b hb => ?_,⟨by omega,by omega,f3,f4,m1⟩,fun b hb => ?_⟩,bL⟩
 ·exact Jb (y:=nR ty a q) h.rT h.eG ⟨by simp only [nR];omega,by simp only [nR];omega⟩ hd
 ·rcases kr.1 hb with rfl|hb
  ·exact ⟨⟨by simp only [nR];omega,by simp only [nR];omega,by simp only [nR];omega,m4,m2⟩,yY⟩
  ·exact h.eG b hb
 ·rcases kr.1 hb with rfl|hb
  ·right;simp only [nR];omega
  ·rcases h.NB b hb with g|g<;>omega
theorem Jc (ty a q:Int) (l:List Block) : (tF ty a q l).length=l.length+1:=by
 have:=HW l (a+pw (q-1))
 unfold tF aM;simp;omega
theorem Bu {t:Int} (hu:rT l) (hb:∀ b∈l,kV f t b) (hk:k<l.length) : D5 f t (l.eraseIdx k) l[k].At l[k].Order:=by
 have hs:∀ b∈l.eraseIdx k,b∈l:=fun b h=>adJ h
 refine ⟨?_,fun b h=>hb b (hs b h),(hb _ (ac0 hk)).1,fun b h => ?_⟩
 ·unfold rT at *;exact hu.sublist (adU l k)
 ·obtain ⟨j,hj,rfl⟩:=ac1 h;have hlen:=aeh hk;rw [aeI];split
  ·rename_i mO;exact .inl (jF hu hk mO)
  ·rename_i mO;exact .inr (jF hu (by omega) (by omega))
theorem Lt {t:Int} (hm : 5+2*j<=m) (ho : 4-(j:Int)<o) : kZ l o t m=false :=
 Ed (by unfold uR;rw [if_neg (by omega)];omega)
theorem N8 {b:Block} (h2 : 2<=b.Order) (h4:b.Order<=4) (hm:b.At % pw b.Order=0) : b.At / 8*8<=b.At∧b.At+pw b.Order<=Ee b:=by
 unfold Ee;rcases fB (show 0<=b.Order by omega) h4 with ⟨e1,e2⟩|⟨e1,e2⟩|⟨e1,e2⟩|⟨e1,e2⟩|⟨e1,e2⟩<;>rw [e2] at hm ⊢<;>split<;>omega
def kc (z:ak) (b:Block) (t:Int) (st:Bool) : List Block:=if st=true then jR z.aj b t else z.aj
theorem uT (hz:bU z) {b:Block} {t:Int} (ht:kH t) (st:Bool) : (kc z b t st).length=z.aj.length∧rT (kc z b t st) ∧ ∀ x∈kc z b t st,kV z.aU z.To x:=by
 have hb:∀ x∈z.aj,kV z.aU z.To x:=fun x hx=>by
  obtain ⟨i,hi,rfl⟩:=ac1 hx;exact hz.eG i hi
 unfold kc;split
 ·exact ⟨Gl _ _ _,Gm (pD hz),Gn hb ht⟩
 ·exact ⟨rfl,pD hz,hb⟩
theorem vO (hz:bU z) {t:Int} (ht:kH t) (st:Bool) (hk:k<z.aj.length) :
 (kc z z.aj[k] t st)[k]'(by rw [(uT hz ht st).1];exact hk)=⟨z.aj[k].At,z.aj[k].Order,xz z t st z.aj[k]⟩:=by
 obtain ⟨f1,f2,f3,f4,f5⟩:=(hz.eG k hk).1;unfold kc xz;cases st
 ·simp
 ·simp only [if_true,true_and];unfold jR;by_cases h2:z.aj[k].Order<2
  ·simp only [if_pos h2,if_neg (show ¬ 2<=z.aj[k].Order by omega)]
  ·simp only [if_neg h2,if_pos (show 2<=z.aj[k].Order by omega),aen];unfold N6;rw [if_pos (N8 (by omega) f2 f5)]
variable {T:TypeId} {w1 w2:World}
section
variable {P:Program} {L:Env} {w:World} {d:Option Nat} {T:TypeId} {pos:String} {af:Array Edge} {g:Option (Nat×Bool)}
theorem qz {len:Nat} [c:yF P t len e 1] [gI P e] {x:Operand} {vs:List Value} {i:Int} {v:Value} (k:Nat) (hx:cK L x=some (.agg vs.toArray)) (hy:cK L y=some (.int .i64 i)) (hi:i=(k:Int)) (hk:k<len) (hv:vs[k]?=some v) :
 St P ⟨d,.index t x y,T,pos,af,g⟩ L w v :=
 ⟨fun _ a ha w' _=>by
  subst hi;have e1:=ha.eval hx;have e2:=ha.eval hy;generalize a.eval = ρ at *
  simp [execOp,e1,e2,Instr.index,asIntOf,run_underlying c.ou,run_sizeOf c.size,hk,part,tB,hv]⟩
end
theorem Lu (o t:Int) (b4 b5:Nat) (x:Block) (w:World) (h4:aS w b4 3 [.int .i64 o]) (h5:aS w b5 3 [.int .i64 t]) :
 bI prog 180 ([.agg (aO x).toArray]++[.pointer (some ⟨b4,0,none⟩),.pointer (some ⟨b5,0,none⟩)]) w fun v _=>v = .bool (rZ o t x):=by
 refine aE func180 rfl ntmps180 rfl ?_;refine CW.seq (CW.region (SW.box rfl rfl fun b1 w1 hw lc aW => ?_));obtain ⟨h4,h5⟩:=cX hw h4 h5;have Vk:=h4.cell (i:=0) (v := .int .i64 o) rfl;have XO:=h5.cell (i:=0) (v := .int .i64 t) rfl;rw [add_zero] at Vk XO;by_cases h1:x.Order=o
 ·repeat' (first|refine Wz ?_|refine Wl Vk ?_|refine Wl XO ?_)
  exact ae.bj rfl rfl ⟨_,rfl,hw,by simp [rZ,h1]⟩
 ·repeat' (first|refine Wz ?_|refine Wl Vk ?_)
  exact ae.bj rfl rfl ⟨_,rfl,hw,by simp [rZ,h1]⟩
theorem Gp (r:dZ) (l:List Block) (o t:Int) (w:World) (hl:Sl w 3 aO r.aj.A r.aj.n l) (hn:r.aj.n<=9223372036854775807) :
 bI prog 169 [.agg (dp r).toArray,.int .i64 o,.int .i64 t] w fun v _=>v = .int .i64 (idxOf (rZ o t) l):=by
 refine aE func169 rfl ntmps169 rfl ?_;refine CW.seq (CW.region (SW.box rfl rfl fun b3 w1 hw cg ap => ?_));refine SW.Lh rfl rfl rfl fun b4 w2 bt fJ aH => ?_
 (obtain ⟨hw,ap⟩:=cX bt hw ap);refine SW.Lh rfl rfl rfl fun b5 w3 nL gm aL => ?_
 (obtain ⟨hw,ap,aH⟩:=cj nL hw ap aH);repeat' (first|refine Wz ?_|(refine SW.st (jg (vs:=[.pointer (some ⟨b4,0,none⟩),.pointer (some ⟨b5,0,none⟩)]) rfl) rfl ?_))
 refine Wk (nM _ _ _ _ _ (hl.ext hw) _ [.pointer (some ⟨b4,0,none⟩),.pointer (some ⟨b5,0,none⟩)] (rZ o t) (fun x => .agg (aO x).toArray) (fun x=>rfl) (fun x hx w1 lf=>Lu o t b4 b5 x w1 (aH.ext lf) (aL.ext lf)) hn) fun v w4 ko hv => ?_
 subst hv;have hw:=hw.trans ko;refine Wz ?_;exact ae.bj rfl rfl ⟨_,rfl,hw,rfl⟩
structure pJ (T:TypeId) (w w':World) : Prop where
 out:∀ b cs,aS w b T cs->aS w' b T cs
theorem pJ.refl (T:TypeId) (w:World) : pJ T w w:=⟨fun _ _ h=>h⟩
theorem pJ.ext (h:pJ T w w1) (hx:Ext w1 w2) : pJ T w w2:=⟨fun b cs hb=>(h.out b cs hb).ext hx⟩
theorem pJ.aN (h:pJ T w w1) (hG:rF w1 w2 t) (bL:Nat.beq t T=false) : pJ T w w2:=⟨fun b cs hb=>(h.out b cs hb).aN hG bL⟩
def Jd (T:List Int) (i:Nat) (t:Int) (c:Nat) : List Int:=if c=0 then T else if c<=8 then T.set i t else (T.set i t).set (i+1) t
theorem Je {T:List Int} {t:Int} {c:Nat} (hc:c<16) : (Jd T i t c).set (i+c / 8) t=Jd T i t (c+1):=by
 unfold Jd;rcases (show c=0∨(1<=c∧c<8)∨c=8∨(8<c∧c<16) by omega) with rfl|h|rfl|h
 ·simp
 ·have e:c / 8=0:=by omega
  rw [if_neg (by omega),if_pos (by omega),if_neg (by omega),if_pos (by omega),e,aeM,aeu]
 ·simp
 ·have e:c / 8=1:=by omega
  rw [if_neg (by omega),if_neg (by omega),if_neg (by omega),if_neg (by omega),e,aeu]
def nS (f : α -> α) (l:List α) (j:Nat) : List α := (l.take j).map f++l.drop j
theorem vP {f : α -> α} {l:List α}:(nS f l j).length=l.length:=by simp [nS];omega
theorem Bv {f : α -> α} {l:List α} (hj:j<l.length) : (nS f l j)[j]'(by rw [vP];exact hj)=l[j]:=by
 have e:(nS f l j)[j]?=l[j]?:=by
  unfold nS;rw [adL (by simp;omega)];have:j-((l.take j).map f).length=0:=by simp;omega
  rw [this,aez];simp
 rw [ac7 (by rw [vP];exact hj),ac7 hj] at e;exact Option.some.inj e
theorem Bw {f : α -> α} {l:List α} (hj:j<l.length) : (nS f l j).set j (f l[j])=nS f l (j+1):=by
 unfold nS;rw [ad2 _ _ (by simp;omega)];have:j-((l.take j).map f).length=0:=by simp;omega
 rw [this,ac5 hj,adr,ae3 hj,List.set_cons_zero];simp
theorem Gq {f : α -> α} {l:List α} (hj:j<l.length) (hf:f l[j]=l[j]) : nS f l (j+1)=nS f l j:=by
 rw [<- Bw hj,hf];have:=Bv (f:=f) hj
 rw [<- this];exact adK (by rw [vP];exact hj)
theorem Gr {f : α -> α} {l:List α}:nS f l 0=l:=by simp [nS]
theorem Jf {f : α -> α} {l:List α}:nS f l l.length=l.map f:=by simp [nS]
theorem Lv (hf:f % 16=0) (ND:f<=a) (h2 : 2<=o) (h4:o<=4) (hm:a % pw o=0) {c:Nat} (hc:(c:Int)<pw o) : (a+c-f) / 8=((((a-f) / 8).toNat+c / 8:Nat) : Int):=by
 rcases fB (show 0<=o by omega) h4 with ⟨e1,e2⟩|⟨e1,e2⟩|⟨e1,e2⟩|⟨e1,e2⟩|⟨e1,e2⟩<;>rw [e2] at hm hc<;>omega
theorem Lw {b:Block} (h2 : 2<=b.Order) (h4:b.Order<=4) (hm:b.At % pw b.Order=0) : max (b.At+pw b.Order) (b.At / 8*8+8)=Ee b:=by
 unfold Ee;rcases fB (show 0<=b.Order by omega) h4 with ⟨e1,e2⟩|⟨e1,e2⟩|⟨e1,e2⟩|⟨e1,e2⟩|⟨e1,e2⟩<;>rw [e2] at hm ⊢<;>split<;>omega
structure Lx (base w:World) (r:dZ) (z:ak) (b:Block) (t:Int) (w':World) : Prop where
 ext:Ext base w'
 jS:pJ 117 w w'
 free:Own w' base.heap.size 147 3 aO r.aj.A r.aj.n r.aj.c (jR z.aj b t)
 types:Own w' base.heap.size 3 1 bw r.Types.A r.Types.n r.Types.c (kD z b t)
set_option maxHeartbeats 2000000 in
theorem Bx (r:dZ) (z:ak) (k:Nat) (t:Int) (base w:World) (hB:Ext base w) (hX:Own w base.heap.size 147 3 aO r.aj.A r.aj.n r.aj.c z.aj) (hT:Own w base.heap.size 3 1 bw r.Types.A r.Types.n r.Types.c z.Types)
 (eF:r.aU=z.aU) (hz:bU z) (hk:k<z.aj.length) (hn:r.aj.n<=1000000000000000000) :
 iI prog 170 [.agg (dp r).toArray,.int .i64 (k:Int),.int .i64 t] w fun _ w'=>Lx base w r z z.aj[k] t w':=by
 refine dh func170 rfl ntmps170 rfl ?_;obtain ⟨f1,f2,f3,f4,f5⟩:=(hz.eG k hk).1;obtain ⟨o1,o2,o3,o4,o5⟩:=hz.ok;have hlen:=hz.len;have NZ:=hX.len;have SK:=hT.len;have hA:=hX.sl.base;have hAT:=hT.sl.base;have gh:k<r.aj.n:=by omega
 refine CW.seq (CW.region (SW.box rfl rfl fun b3 w1 ai cg ap => ?_));have hw:=hB.trans ai;have hK:pJ 117 w w1:=(pJ.refl _ w).ext ai
 obtain ⟨hX,hT⟩:=cX ai hX hT;have fW:base.heap.size<=b3:=ac2 hB.size cg
 clear ai cg;obtain ⟨x,hx⟩ : ∃ x,z.aj[k]=x:=⟨_,rfl⟩;rw [hx] at f1 f2 f3 f4 f5 ⊢;have hg:=hX.sl.all gh;simp only [hx] at hg;repeat' (first|refine Wz ?_|refine Wm hg ?_)
 refine SW.alloc rfl fun b6 w1 ai UE aq => ?_
 have Vl:=hw.up UE
 have Vm:aI r.aj.A r.aj.c≠some b6:=fun e=>by have:=hX.lt_size _ e;omega
 obtain ⟨hw,ap,hX,hT,hK⟩:=fI ai hw ap hX hT hK;skip;refine SW.ag aq rfl rfl rfl rfl (im.one (enc:=aO) x) fun w2 bP hg => ?_
 have hG:=aq.gr hg;have hw:=hw.own Vl hg;have hX:=hX.grown hg (.inr Vm);(obtain ⟨ap,hT,hK⟩:=cj hG ap hT hK);have aq:=bP;clear bP hg hG ai UE;by_cases h2:x.Order<2
 ·refine Wz ?_;exact ae.QD rfl ⟨_,rfl,hw,hK,by rw [jR,if_pos h2];exact hX,by rw [kD,if_pos h2];exact hT⟩
 ·refine Wz ?_;have hp:=cy f1 f2;have R5:∀ c:Nat,(c:Int)<pw x.Order->(x.At+c-z.aU) / 8=((uS z x+c / 8:Nat) : Int):=fun c hc=>Lv o4 f3 (by omega) f2 f5 hc
  have cE:∀ w',bI prog 133 [.agg (aO x).toArray] w' fun v _=>v = .int .i64 (x.At+pw x.Order):=fun w'=>pC x w' ⟨f1,f2⟩ ⟨by omega,by omega⟩
  refine CW.loop (fun c:Nat=>[(2,.int .i64 t),(3,.pointer (some ⟨b3,0,none⟩)),(6,.pointer (some ⟨b6,0,none⟩)),(7,.int .i64 (x.At+(c:Int)))])
   (fun c w'=>(c:Int)<=pw x.Order∧Ext base w'∧pJ 117 w w'∧aS w' b3 117 (dp r)∧aS w' b6 147 (aO x)∧Own w' base.heap.size 147 3 aO r.aj.A r.aj.n r.aj.c z.aj∧Own w' base.heap.size 3 1 bw r.Types.A r.Types.n r.Types.c (Jd z.Types (uS z x) t c))
   (fun c=>(pw x.Order).toNat-c) 0 ⟨rfl,rfl,rfl,congrArg (fun z=>some (Value.int .i64 z)) (by omega),trivial⟩ ⟨by omega,hw,hK,ap,aq,hX,hT⟩ ?_
  clear hw hK ap aq hX hT;rintro c w' ⟨hc,hw,hK,ap,aq,hX,hT⟩
  by_cases qj:(c:Int)<pw x.Order
  ·have hgc:=R5 c qj
   have cQ:uS z x+c / 8<r.Types.n:=by
    have:x.At+c<z.To:=by
     rcases fB f1 f2 with ⟨e1,e2⟩|⟨e1,e2⟩|⟨e1,e2⟩|⟨e1,e2⟩|⟨e1,e2⟩<;>rw [e2] at f5 qj<;>omega
    omega
   have Vn:c<16:=by omega
   repeat' (first|refine Wz ?_|refine SW.st (cm (uS z x+c / 8) rfl rfl (by assumption) (by omega) (by omega)) rfl ?_|(refine Wk (cE _) ?_;intro v w1 ai hv;subst hv;obtain ⟨hw,ap,aq,hX,hT,hK⟩:=iS ai hw ap aq hX hT hK;clear ai))
   refine SW.qp (uS z x+c / 8) hT rfl rfl cQ fun w5 R6 hg => ?_
   have hG:=hT.gr hg;have hw:=aF hw hg (ac3 _) hT.ba;(obtain ⟨ap,aq,hX,hK⟩:=dG hG ap aq hX hK);rw [Je Vn] at R6;refine Wz ?_;exact ae.again (c+1) ⟨rfl,rfl,rfl,congrArg (fun z=>some (Value.int .i64 z)) (by omega),trivial⟩ (by omega) ⟨by omega,hw,hK,ap,aq,hX,R6⟩
  ·have hce:(c:Int)=pw x.Order:=by omega
   have yY:Jd z.Types (uS z x) t c=kD z x t:=by
    unfold Jd kD;rcases fB f1 f2 with ⟨e1,e2⟩|⟨e1,e2⟩|⟨e1,e2⟩|⟨e1,e2⟩|⟨e1,e2⟩
    ·omega
    ·omega
    ·rw [if_neg (by omega),if_pos (by omega),if_neg (by omega),if_neg (by omega)]
    ·rw [if_neg (by omega),if_pos (by omega),if_neg (by omega),if_neg (by omega)]
    ·rw [if_neg (by omega),if_neg (by omega),if_neg (by omega),if_pos (by omega)]
   rw [yY] at hT;have DN:=Lw (b:=x) (by omega) f2 f5;repeat' (first|refine Wz ?_|(refine Wk (cE _) ?_;intro v w1 ai hv;subst hv;obtain ⟨hw,ap,aq,hX,hT,hK⟩:=iS ai hw ap aq hX hT hK;clear ai)|(refine SW.st ((CL rfl rfl).eq (congrArg (Value.int .i64) DN)) rfl ?_))
   clear aq cE R5;obtain ⟨f,hf⟩ : ∃ f,N6 (x.At / 8*8) (Ee x) t=f:=⟨_,rfl⟩
   refine CW.loop (fun j:Nat=>[(2,.int .i64 t),(3,.pointer (some ⟨b3,0,none⟩)),(8,.int .i64 (x.At / 8*8)),(9,.int .i64 (Ee x)),(47,.slice r.aj.A r.aj.n r.aj.c),(48,.int .i64 (r.aj.n:Int)),(49,.int .i64 (j:Int))])
    (fun j w'=>j<=r.aj.n∧Ext base w'∧pJ 117 w w'∧aS w' b3 117 (dp r)∧Own w' base.heap.size 147 3 aO r.aj.A r.aj.n r.aj.c (nS f z.aj j)∧Own w' base.heap.size 3 1 bw r.Types.A r.Types.n r.Types.c (kD z x t))
    (fun j=>r.aj.n-j) 0 ⟨rfl,rfl,rfl,rfl,rfl,rfl,rfl,trivial⟩ ⟨by omega,hw,hK,ap,by rw [Gr];exact hX,hT⟩ ?_
   clear hw hK ap hX hT;rintro j w' ⟨hj,hw,hK,ap,hX,hT⟩
   by_cases pB:j<r.aj.n
   ·have pA:j<z.aj.length:=by omega
    obtain ⟨g1,g2,g3,g4,g5⟩:=(hz.eG j pA).1;obtain ⟨y,hy⟩ : ∃ y,z.aj[j]=y:=⟨_,rfl⟩;have iu:=Bv (f:=f) pA;rw [hy] at g1 g2 g3 g4 g5 iu;have fe:=hX.sl.all pB;simp only [iu] at fe;have hpy:=cy g1 g2;have cY:∀ w',bI prog 133 [.agg (aO y).toArray] w' fun v _=>v = .int .i64 (y.At+pw y.Order):=fun w'=>pC y w' ⟨g1,g2⟩ ⟨by omega,by omega⟩
    repeat' (first|refine Wz ?_|refine Wm fe ?_)
    refine SW.alloc rfl fun N9 w1 ai hb gR => ?_
    have DK:=hw.up hb
    have bL:aI r.aj.A r.aj.c≠some N9:=fun e=>by have:=hX.lt_size _ e;omega
    obtain ⟨hw,ap,hX,hT,hK⟩:=fI ai hw ap hX hT hK;refine Wz ?_;refine SW.ag gR rfl rfl rfl rfl (im.one (enc:=aO) y) fun w2 oI hg => ?_
    have hG:=gR.gr hg;have hw:=hw.own DK hg;have hX:=hX.grown hg (.inr bL);(obtain ⟨ap,hT,hK⟩:=cj hG ap hT hK);have gR:=oI;clear oI hg hG ai hb;by_cases Pw:x.At / 8*8<=y.At∧y.At+pw y.Order<=Ee x
    ·have Vo:f y=⟨y.At,y.Order,t⟩:=by rw [<- hf];unfold N6;rw [if_pos Pw]
     repeat' (first|refine Wz ?_|(refine Wk (cY _) ?_;intro v w1 ai hv;subst hv;obtain ⟨hw,ap,gR,hX,hT,hK⟩:=iS ai hw ap gR hX hT hK;clear ai))
     refine SW.gM j 2 ⟨y.At,y.Order,t⟩ hX rfl rfl rfl pB (by decide) rfl (by rw [iu];rfl) fun w5 CT hg => ?_
     have hG:=hX.gr hg;have hw:=aF hw hg (ac3 _) hX.ba;(obtain ⟨ap,hT,hK⟩:=cj hG ap hT hK);rw [<- Vo,<- hy,Bw pA] at CT;refine Wz ?_;exact ae.again (j+1) ⟨rfl,rfl,rfl,rfl,rfl,rfl,rfl,trivial⟩ (by omega) ⟨by omega,hw,hK,ap,CT,hT⟩
    ·have Vo:f y=y:=by rw [<- hf];unfold N6;rw [if_neg Pw]
     have Vp:=Gq (f:=f) pA (by rw [hy];exact Vo);by_cases By:x.At / 8*8<=y.At
     all_goals
      repeat' (first|refine Wz ?_|(refine Wk (cY _) ?_;intro v w1 ai hv;subst hv;obtain ⟨hw,ap,gR,hX,hT,hK⟩:=iS ai hw ap gR hX hT hK;clear ai))
      exact ae.again (j+1) ⟨rfl,rfl,rfl,rfl,rfl,rfl,rfl,trivial⟩ (by omega) ⟨by omega,hw,hK,ap,by rw [Vp];exact hX,hT⟩
   ·obtain rfl:j=r.aj.n:=by omega
    refine Wz ?_;rw [<- NZ,Jf,NZ,<- hf] at hX;exact ae.pI rfl ⟨_,rfl,hw,hK,by rw [jR,if_neg h2];exact hX,hT⟩
variable {b lo:Nat} {A:Option Addr} {w':World} {p:α -> Bool}
structure mD (w:World) : Prop where
 row:∀ (k:Nat),k<3 -> ∀ (j:Nat) (v:Value),[Value.int .i64 (AY (k:Int)),Value.int .i64 (AZ (k:Int))][j]?=some v->w.cell? (((⟨1,0,none⟩ : Addr).add (k*2)).add j)=some v
theorem mD.ext (h:mD w) (hx:Ext w w') : mD w':=⟨fun k hk j v hv=>hx.cell (h.row k hk j v hv)⟩
def qA (lo:Nat) (u:ak×Int×Int) (v:Value) (w:World) : Prop := ∃ s,v = .tuple #[.agg (dp s).toArray,.int .i64 u.2.1,.int .i64 u.2.2]∧iA w lo s u.1
theorem qA.zero (e:Int) (lo:Nat) (w:World) : qA lo (.zero,0,e) (.tuple #[.agg (dp .zero).toArray,.int .i64 0,.int .i64 e]) w:=⟨.zero,rfl,iA.zero _ _⟩
theorem CY {l:List α} (h:l.any p=true) : ∃ (k:Nat) (hk:k<l.length),p l[k]=true∧(∀ (j:Nat) (hj:j<l.length),j<k->p l[j]=false)∧idxOf p l=(k:Int):=by
 have h1:l.findIdx p<l.length:=List.findIdx_lt_length_of_exists (by simpa using h)
 exact ⟨l.findIdx p,h1,List.findIdx_getElem (w:=h1),fun j hj js=>by simpa using List.not_of_lt_findIdx js,by unfold idxOf;rw [if_pos h]⟩
theorem y7 {l:List α} (h:l.any p=false) : idxOf p l = -1:=by unfold idxOf;rw [h];rfl
theorem Own.QF {n c:Nat} {x:Block} (h:Own w lo 147 3 aO A n c l) (hB:aS w b 147 (aO x)) (hn : 0<n) (hx:∀ y∈l,y.At≠x.At) : aI A c≠some b:=by
 rcases h.row with ⟨h0,_⟩|⟨hc,g,jO,rfl,h1,h2,h3,h4,h5,h6⟩
 ·omega
 ·intro e;simp only [aI,Nat.pos_iff_ne_zero.1 hc,if_false,Option.map_some,Option.some.injEq] at e;subst e;unfold aS at hB;rw [h2] at hB;injection hB with hB
  injection hB with Vq _ _
  subst Vq;have By:c=1:=by simp [aO] at h5;omega
  have I0:n=1:=by omega
  have hl:=h.len;rw [I0] at hl;obtain ⟨y,rfl⟩:=List.length_eq_one_iff.1 hl;rw [I0] at h6;simp [aO] at h6;exact hx y (by simp) h6.1.symm
set_option maxHeartbeats 8000000 in
theorem Ly (r:dZ) (z:ak) (o t:Int) (w:World) (hr:F6 w r z) (hf:(r.aj.n+1)*24<=140737488355328) (ht:r.Types.n*8<=140737488355328) (h1 : -9223372036854775808<=r.aU∧r.aU<=9223372036854775807) (h2 : -9223372036854775808<=r.To∧r.To<=9223372036854775807) (hO:mD w) :
 bI prog 151 [.agg (dp r).toArray,.int .i64 o,.int .i64 t] w fun v w' => ∃ u,ib z o t u∧qA w.heap.size u v w':=by
 refine aE func151 rfl ntmps151 rfl ?_;refine CW.seq (CW.region (SW.box rfl rfl fun b3 w1 hw cg ap => ?_));refine SW.alloc rfl fun b6 w2 bt dt aq => ?_
 have cG:=hw.up dt
 have oG:b3≠b6:=by have:=ap.lt;omega
 (obtain ⟨hw,ap⟩:=cX bt hw ap);have eF:=hr.from_;have eT:=hr.o8;have NZ:=hr.free.len;have SK:=hr.types.len;obtain ⟨q,hq⟩ : ∃ q,fD z=q:=⟨_,rfl⟩
 have c1:∀ w',Ext w w'->bI prog 80 [.agg (dp r).toArray] w' fun v _=>v = .int .i64 (if q then 0 else 8):=fun w' h=>by
  have:=kJ r z w' (hr.ext h) (by omega) (by omega) h1 h2
  rwa [hq] at this
 cases q
 ·simp only [Bool.false_eq_true,if_false] at c1;repeat' (first|refine Wz ?_|(refine Wk (c1 _ hw) ?_;intro v w1 ai hv;subst hv;obtain ⟨hw,ap,aq⟩:=cj ai hw ap aq;clear ai))
  skip;refine SW.ag aq rfl rfl rfl rfl (fE .zero) fun w5 cS hg => ?_
  have hw:=hw.own cG hg;refine Wz ?_;exact ae.e8 rfl rfl rfl rfl cS rfl ⟨_,rfl,hw,_,.bad hq,qA.zero 8 _ _⟩
 ·simp only [if_true] at c1;have hz:=fg.1 hq;obtain ⟨o1,o2,o3,o4,o5⟩:=hz.ok;by_cases ho : 0<=o∧o<=4
  ·by_cases yY:kH t
   ·have F9:=yY;unfold kH at F9;repeat' (first|refine Wz ?_|(refine Wk (c1 _ hw) ?_;intro v w1 ai hv;subst hv;obtain ⟨hw,ap,aq⟩:=cj ai hw ap aq;clear ai))
    refine Wk (sL r z _ (hr.ext hw) (by omega) ht) fun v w4 ko hv => ?_
    obtain ⟨s,rfl,hs,e1,e2⟩:=hv;have hs:=hs.low hw.size;(obtain ⟨hw,ap,aq⟩:=cj ko hw ap aq);clear c1;skip;refine SW.ag ap rfl rfl rfl rfl (fE s) fun w5 dW hg => ?_
    have hG:=ap.gr hg;have hw:=hw.own cg hg;have hX:=hs.free.aN hG rfl;have hT:=hs.types.aN hG rfl;have aq:=aq.grown hg (by simpa using oG.symm);have ap:=dW;have es:s.aj.n=z.aj.length:=by rw [e1,NZ]
    have sF:=hs.from_;have sT:=hs.o8;clear dW hg hG hs;have cL:∀ p u w',Sl w' 3 aO s.aj.A s.aj.n z.aj->bI prog 169 [.agg (dp s).toArray,.int .i64 p,.int .i64 u] w' fun v _=>v = .int .i64 (idxOf (rZ p u) z.aj):=fun p u w' h=>Gp s z.aj p u w' h (by omega)
    refine Wz ?_
    obtain ⟨K,hK⟩ : ∃ K:Env->World->Prop,K=fun L' w' => ∃ i:Int,il L' [(1,.int .i64 o),(2,.int .i64 t),(3,.pointer (some ⟨b3,0,none⟩)),(6,.pointer (some ⟨b6,0,none⟩)),(10,.int .i64 i)]∧Ext w w'∧aS w' b3 117 (dp s)∧aS w' b6 117 (dp .zero) ∧
     Own w' w.heap.size 147 3 aO s.aj.A s.aj.n s.aj.c z.aj∧Own w' w.heap.size 3 1 bw s.Types.A s.Types.n s.Types.c z.Types∧((i = -1 ∧ ∀ m,m<5->kZ z.aj o t m=false) ∨ ∃ k:Nat,i=(k:Int)∧ll z.aj o t (some (k,false))):=⟨_,rfl⟩
    refine CW.I4 K ?_ ?_
    ·refine CW.loop (fun u:Nat×Int=>[(1,.int .i64 o),(2,.int .i64 t),(3,.pointer (some ⟨b3,0,none⟩)),(6,.pointer (some ⟨b6,0,none⟩)),(10,.int .i64 u.2),(11,.int .i64 (o+(u.1:Int)))])
      (fun u w'=>Ext w w'∧aS w' b3 117 (dp s)∧aS w' b6 117 (dp .zero)∧Own w' w.heap.size 147 3 aO s.aj.A s.aj.n s.aj.c z.aj∧Own w' w.heap.size 3 1 bw s.Types.A s.Types.n s.Types.c z.Types ∧
        ((u.2 = -1∧(u.1:Int)<=5-o ∧ ∀ m,m<u.1->kZ z.aj o t m=false) ∨ ∃ k:Nat,u.2=(k:Int)∧ll z.aj o t (some (k,false)))) (fun u=>if u.2<0 then 7-u.1 else 0) (0,-1)
      ⟨rfl,rfl,rfl,rfl,rfl,congrArg (fun z=>some (Value.int .i64 z)) (by simp),trivial⟩ ⟨hw,ap,aq,hX,hT,.inl ⟨rfl,by simp only;omega,fun m h=>by simp only at h;omega⟩⟩ ?_
     clear hw ap aq hX hT;rintro ⟨j,i⟩ w' ⟨hw,ap,aq,hX,hT,hI⟩
     simp only at hI ⊢;rcases hI with ⟨rfl,hj,hI⟩|⟨k,rfl,hP⟩
     ·by_cases hp:o+(j:Int)<=4
      ·have QG:j<5:=by omega
       have DN:=Lq (l:=z.aj) (o:=o) (t:=t) QG hp;cases iC:z.aj.any (rZ (o+(j:Int)) t)
       ·have c2:=cL (o+(j:Int)) t;rw [y7 iC] at c2;repeat' (first|refine Wz ?_|(refine Wk (c2 _ hX.sl) ?_;intro v w1 ai hv;subst hv;obtain ⟨hw,ap,aq,hX,hT⟩:=fI ai hw ap aq hX hT;clear ai))
        refine ae.again (j+1,-1) ⟨rfl,rfl,rfl,rfl,rfl,congrArg (fun z=>some (Value.int .i64 z)) (by simp only;omega),trivial⟩ (by simp only;(repeat' split)<;>omega) ⟨hw,ap,aq,hX,hT,.inl ⟨rfl,by simp only;omega,fun m h => ?_⟩⟩;simp only at h;by_cases e:m=j
        ·subst e;rw [DN,iC]
        ·exact hI m (by omega)
       ·obtain ⟨k,hk,SU,Bs,rG⟩:=CY iC;have c2:=cL (o+(j:Int)) t;rw [rG] at c2;repeat' (first|refine Wz ?_|(refine Wk (c2 _ hX.sl) ?_;intro v w1 ai hv;subst hv;obtain ⟨hw,ap,aq,hX,hT⟩:=fI ai hw ap aq hX hT;clear ai))
        have hP:ll z.aj o t (some (k,false)):=by
         have:=ll.hit (l:=z.aj) (o:=o) (t:=t) (n:=j) (k:=k) (by omega) (by rw [DN,iC]) hI hk (by rw [x9 QG,Gi QG];exact SU) (by rw [x9 QG,Gi QG];exact Bs)
         rwa [decide_eq_false (by omega)] at this
        exact ae.again (j+1,(k:Int)) ⟨rfl,rfl,rfl,rfl,rfl,congrArg (fun z=>some (Value.int .i64 z)) (by simp only;omega),trivial⟩ (by simp only;(repeat' split)<;>omega) ⟨hw,ap,aq,hX,hT,.inr ⟨k,rfl,hP⟩⟩
      ·refine Wz ?_
       have Vr:∀ m,m<5->kZ z.aj o t m=false:=fun m hm=>by
        by_cases e:m<j
        ·exact hI m e
        ·exact Ed (by rw [x9 hm];omega)
       exact ae.lW (K:=K) (by rw [hK];exact ⟨-1,⟨rfl,rfl,rfl,rfl,rfl,trivial⟩,hw,ap,aq,hX,hT,.inl ⟨rfl,Vr⟩⟩)
     ·refine Wz ?_;exact ae.lW (K:=K) (by rw [hK];exact ⟨(k:Int),⟨rfl,rfl,rfl,rfl,rfl,trivial⟩,hw,ap,aq,hX,hT,.inr ⟨k,rfl,hP⟩⟩)
    ·clear hw ap aq hX hT;subst hK;rintro L' w' ⟨i0,jw,hw,ap,aq,hX,hT,Px⟩
     refine ae.sub jw ?_;clear jw;obtain ⟨kt,XP⟩ : ∃ kt:Nat,t=(kt:Int):=⟨t.toNat,by omega⟩;have SV:kt<3:=by omega
     have gg:=hO.row kt SV;rw [<- XP] at gg;refine Wz ?_
     obtain ⟨K,hK⟩ : ∃ K:Env->World->Prop,K=fun L' w' => ∃ (i:Int) (F:List Block) (T:List Int),il L' [(1,.int .i64 o),(2,.int .i64 t),(3,.pointer (some ⟨b3,0,none⟩)),(6,.pointer (some ⟨b6,0,none⟩)),(10,.int .i64 i)]∧Ext w w'∧aS w' b3 117 (dp s)∧aS w' b6 117 (dp .zero) ∧
      Own w' w.heap.size 147 3 aO s.aj.A s.aj.n s.aj.c F∧Own w' w.heap.size 3 1 bw s.Types.A s.Types.n s.Types.c T∧((i = -1 ∧ ∀ m,m<15->kZ z.aj o t m=false) ∨ ∃ (k:Nat) (st:Bool) (hk:k<z.aj.length),i=(k:Int)∧ll z.aj o t (some (k,st))∧F=kc z z.aj[k] t st∧T=if st=true then kD z z.aj[k] t else z.Types):=⟨_,rfl⟩
     refine CW.I4 K ?_ ?_
     ·refine CW.loop (fun u:Nat×Int×List Block×List Int=>[(1,.int .i64 o),(2,.int .i64 t),(3,.pointer (some ⟨b3,0,none⟩)),(6,.pointer (some ⟨b6,0,none⟩)),(10,.int .i64 u.2.1),(12,.int .i64 (4-(u.1:Int)))])
       (fun u w'=>Ext w w'∧aS w' b3 117 (dp s)∧aS w' b6 117 (dp .zero)∧Own w' w.heap.size 147 3 aO s.aj.A s.aj.n s.aj.c u.2.2.1∧Own w' w.heap.size 3 1 bw s.Types.A s.Types.n s.Types.c u.2.2.2 ∧
         ((u.2.1 = -1∧(u.1:Int)<=5-o∧(∀ m,m<5+2*u.1->kZ z.aj o t m=false)∧u.2.2.1=z.aj∧u.2.2.2=z.Types) ∨ ∃ (k:Nat) (st:Bool) (hk:k<z.aj.length),u.2.1=(k:Int)∧ll z.aj o t (some (k,st))∧u.2.2.1=kc z z.aj[k] t st∧u.2.2.2=if st=true then kD z z.aj[k] t else z.Types)) (fun u=>if u.2.1<0 then 7-u.1 else 0) (0,i0,z.aj,z.Types)
       ⟨rfl,rfl,rfl,rfl,rfl,rfl,trivial⟩ ⟨hw,ap,aq,hX,hT,?_⟩ ?_
      ·rcases Px with ⟨rfl,Px⟩|⟨k,rfl,hP⟩
       ·exact .inl ⟨rfl,by simp only;omega,fun m h=>Px m (by simp only at h;omega),rfl,rfl⟩
       ·obtain ⟨hk,_⟩:=hP.ord;exact .inr ⟨k,false,hk,rfl,hP,rfl,rfl⟩
      clear hw ap aq hX hT Px;rintro ⟨j,i,F,T⟩ w' ⟨hw,ap,aq,hX,hT,hI⟩
      simp only at hX hT hI ⊢;rcases hI with ⟨rfl,hj,hI,rfl,rfl⟩|⟨k,st,hk,rfl,hP,hF,UF⟩
      ·by_cases hp:o<=4-(j:Int)
       ·have Vs:=Lr (l:=z.aj) (t:=t) hp;have SY:=Ls (l:=z.aj) (t:=t) hp;repeat' (first|refine Wz ?_|refine Wo hw gg ?_|(refine SW.st (rY kt rfl rfl XP SV) rfl ?_))
        refine CW.loop (fun v:Nat=>[(1,.int .i64 o),(2,.int .i64 t),(3,.pointer (some ⟨b3,0,none⟩)),(6,.pointer (some ⟨b6,0,none⟩)),(10,.int .i64 (-1)),(12,.int .i64 (4-(j:Int))),(65,.agg [Value.int .i64 (AY t),Value.int .i64 (AZ t)].toArray),(66,.int .i64 (v:Int))])
         (fun v w'=>v<=2∧Ext w w'∧aS w' b3 117 (dp s)∧aS w' b6 117 (dp .zero)∧Own w' w.heap.size 147 3 aO s.aj.A s.aj.n s.aj.c z.aj∧Own w' w.heap.size 3 1 bw s.Types.A s.Types.n s.Types.c z.Types ∧ ∀ m,m<5+2*j+v->kZ z.aj o t m=false)
         (fun v=>2-v) 0 ⟨rfl,rfl,rfl,rfl,rfl,rfl,rfl,rfl,trivial⟩ ⟨by omega,hw,ap,aq,hX,hT,hI⟩ ?_
        clear hw ap aq hX hT hI;rintro v w' ⟨Vt,hw,ap,aq,hX,hT,hI⟩
        rcases (show v=0∨v=1∨v=2 by omega) with rfl|rfl|rfl
        ·cases iC:z.aj.any (rZ (4-(j:Int)) (AY t))
         ·have c2:=cL (4-(j:Int)) (AY t);rw [y7 iC] at c2;repeat' (first|refine Wz ?_|(refine Wk (c2 _ hX.sl) ?_;intro v w1 ai hv;subst hv;obtain ⟨hw,ap,aq,hX,hT⟩:=fI ai hw ap aq hX hT;clear ai)|(refine SW.st (qz 0 rfl rfl rfl (by decide) rfl) rfl ?_))
          refine ae.again (0+1) ⟨rfl,rfl,rfl,rfl,rfl,rfl,rfl,rfl,trivial⟩ (by omega) ⟨by omega,hw,ap,aq,hX,hT,fun m h => ?_⟩;by_cases e:m=5+2*j+0
          ·subst e;exact Vs.trans iC
          ·exact hI m (by omega)
         ·obtain ⟨k,hk,SU,Bs,rG⟩:=CY iC;have c2:=cL (4-(j:Int)) (AY t);rw [rG] at c2;repeat' (first|refine Wz ?_|(refine Wk (c2 _ hX.sl) ?_;intro v w1 ai hv;subst hv;obtain ⟨hw,ap,aq,hX,hT⟩:=fI ai hw ap aq hX hT;clear ai)|(refine SW.st (qz 0 rfl rfl rfl (by decide) rfl) rfl ?_))
          refine SW.dT rfl rfl (Bx s z k t w _ hw hX hT sF hz hk (by omega)) fun v w5 hv => ?_
          obtain ⟨hw,SZ,hX,hT⟩:=hv;have ap:=SZ.out _ _ ap;have aq:=SZ.out _ _ aq
          have hP:ll z.aj o t (some (k,true)):=by
           have:=ll.hit (l:=z.aj) (o:=o) (t:=t) (n:=5+2*j+0) (k:=k) (by omega) (Vs.trans iC) hI hk (by have e1:=CV (o:=o) (j:=j);have e2:=Gj (t:=t) (j:=j);(try simp only [Nat.add_zero] at *);rw [e1,e2];exact SU) (by have e1:=CV (o:=o) (j:=j);have e2:=Gj (t:=t) (j:=j);(try simp only [Nat.add_zero] at *);rw [e1,e2];exact Bs)
           rwa [decide_eq_true (by omega)] at this
          refine Wz ?_;exact ae.again (j+1,(k:Int),jR z.aj z.aj[k] t,kD z z.aj[k] t) ⟨rfl,rfl,rfl,rfl,rfl,congrArg (fun z=>some (Value.int .i64 z)) (by simp only;omega),trivial⟩ (by simp only;(repeat' split)<;>omega) ⟨hw,ap,aq,hX,hT,.inr ⟨k,true,hk,rfl,hP,rfl,rfl⟩⟩
        ·cases iC:z.aj.any (rZ (4-(j:Int)) (AZ t))
         ·have c2:=cL (4-(j:Int)) (AZ t);rw [y7 iC] at c2;repeat' (first|refine Wz ?_|(refine Wk (c2 _ hX.sl) ?_;intro v w1 ai hv;subst hv;obtain ⟨hw,ap,aq,hX,hT⟩:=fI ai hw ap aq hX hT;clear ai)|(refine SW.st (qz 1 rfl rfl rfl (by decide) rfl) rfl ?_))
          refine ae.again (1+1) ⟨rfl,rfl,rfl,rfl,rfl,rfl,rfl,rfl,trivial⟩ (by omega) ⟨by omega,hw,ap,aq,hX,hT,fun m h => ?_⟩;by_cases e:m=5+2*j+1
          ·subst e;exact SY.trans iC
          ·exact hI m (by omega)
         ·obtain ⟨k,hk,SU,Bs,rG⟩:=CY iC;have c2:=cL (4-(j:Int)) (AZ t);rw [rG] at c2;repeat' (first|refine Wz ?_|(refine Wk (c2 _ hX.sl) ?_;intro v w1 ai hv;subst hv;obtain ⟨hw,ap,aq,hX,hT⟩:=fI ai hw ap aq hX hT;clear ai)|(refine SW.st (qz 1 rfl rfl rfl (by decide) rfl) rfl ?_))
          refine SW.dT rfl rfl (Bx s z k t w _ hw hX hT sF hz hk (by omega)) fun v w5 hv => ?_
          obtain ⟨hw,SZ,hX,hT⟩:=hv;have ap:=SZ.out _ _ ap;have aq:=SZ.out _ _ aq
          have hP:ll z.aj o t (some (k,true)):=by
           have:=ll.hit (l:=z.aj) (o:=o) (t:=t) (n:=5+2*j+1) (k:=k) (by omega) (SY.trans iC) hI hk (by have e1:=CX (o:=o) (j:=j);have e2:=Gk (t:=t) (j:=j);(try simp only [Nat.add_zero] at *);rw [e1,e2];exact SU) (by have e1:=CX (o:=o) (j:=j);have e2:=Gk (t:=t) (j:=j);(try simp only [Nat.add_zero] at *);rw [e1,e2];exact Bs)
           rwa [decide_eq_true (by omega)] at this
          refine Wz ?_;exact ae.again (j+1,(k:Int),jR z.aj z.aj[k] t,kD z z.aj[k] t) ⟨rfl,rfl,rfl,rfl,rfl,congrArg (fun z=>some (Value.int .i64 z)) (by simp only;omega),trivial⟩ (by simp only;(repeat' split)<;>omega) ⟨hw,ap,aq,hX,hT,.inr ⟨k,true,hk,rfl,hP,rfl,rfl⟩⟩
        ·refine Wz ?_;exact ae.again (j+1,-1,z.aj,z.Types) ⟨rfl,rfl,rfl,rfl,rfl,congrArg (fun z=>some (Value.int .i64 z)) (by simp only;omega),trivial⟩ (by simp only;(repeat' split)<;>omega) ⟨hw,ap,aq,hX,hT,.inl ⟨rfl,by simp only;omega,fun m h=>hI m (by simp only at h;omega),rfl,rfl⟩⟩
       ·refine Wz ?_
        have Vr:∀ m,m<15->kZ z.aj o t m=false:=fun m hm=>by
         by_cases e:m<5+2*j
         ·exact hI m e
         ·exact Lt (j:=j) (by omega) (by omega)
        exact ae.lW (K:=K) (by rw [hK];exact ⟨-1,z.aj,z.Types,⟨rfl,rfl,rfl,rfl,rfl,trivial⟩,hw,ap,aq,hX,hT,.inl ⟨rfl,Vr⟩⟩)
      ·refine Wz ?_;exact ae.lW (K:=K) (by rw [hK];exact ⟨(k:Int),F,T,⟨rfl,rfl,rfl,rfl,rfl,trivial⟩,hw,ap,aq,hX,hT,.inr ⟨k,st,hk,rfl,hP,hF,UF⟩⟩)
     ·clear hw ap aq hX hT Px;subst hK;rintro L' w' ⟨i,F,T,jw,hw,ap,aq,hX,hT,hI⟩
      refine ae.sub jw ?_;clear jw cL;rcases hI with ⟨rfl,hI⟩|⟨k,st,hk,rfl,hP,rfl,UF⟩
      ·refine Wz ?_;refine SW.ag aq rfl rfl rfl rfl (fE .zero) fun w5 cS hg => ?_
       have hw:=hw.own cG hg;refine Wz ?_;exact ae.e8 rfl rfl rfl rfl cS rfl ⟨_,rfl,hw,_,.room hq ho yY (.N5 hI),qA.zero 6 _ _⟩
      ·obtain ⟨_,Vu,XQ⟩:=hP.ord;obtain ⟨l1,l2,l3⟩:=uT hz (b:=z.aj[k]) yY st;have S0:k<(kc z z.aj[k] t st).length:=by omega
       have Py:(kc z z.aj[k] t st)[k]=⟨z.aj[k].At,z.aj[k].Order,xz z t st z.aj[k]⟩:=vO hz yY st hk
       obtain ⟨⟨f1,f2,f3,f4,f5⟩,f6⟩:=hz.eG k hk;have lP:ib z o t (tV z o t z.aj[k] k st,z.aj[k].At,0) := .ok hq ho yY hk hP
       have hJ:=Bu l2 l3 S0;rw [Py] at hJ;have Gs:=kq hz;have R0:kH (xz z t st z.aj[k]):=by unfold xz;split<;>assumption
       obtain ⟨ty,Vv⟩ : ∃ ty,xz z t st z.aj[k]=ty:=⟨_,rfl⟩
       have XR:tV z o t z.aj[k] k st=⟨z.aU,z.To,lY ty z.aj[k].At (z.aj[k].Order-o).toNat z.aj[k].Order ((kc z z.aj[k] t st).eraseIdx k),T⟩:=by
        rw [UF,<- Vv];rfl
       rw [XR] at lP;rw [Vv] at Py R0;clear XR Vv UF hP;obtain ⟨F,hF⟩ : ∃ F,kc z z.aj[k] t st=F:=⟨_,rfl⟩;simp only [hF] at hX l1 S0 Py hJ lP;clear l2 l3;obtain ⟨x,hx⟩ : ∃ x,z.aj[k]=x:=⟨_,rfl⟩;simp only [hx] at Py hJ lP f1 f2 f3 f4 f5 Vu XQ;clear f6;have gh:k<s.aj.n:=by omega
       have hA:=hX.sl.base;have fe:=hX.sl.all gh;simp only [Py] at fe;repeat' (first|refine Wz ?_|refine Wm fe ?_)
       refine SW.alloc rfl fun Eg w3 nL S1 dL => ?_
       have S3:=hw.up S1
       have H9:aI s.aj.A s.aj.c≠some Eg:=fun e=>by have:=hX.lt_size _ e;omega
       (obtain ⟨hw,ap,aq,hX,hT⟩:=fI nL hw ap aq hX hT);clear fe;skip;refine SW.ag dL rfl rfl rfl rfl (im.one (enc:=aO) ⟨x.At,x.Order,ty⟩) fun w5 oJ hg => ?_
       have hG:=dL.gr hg;have hw:=hw.own S3 hg;have hX:=hX.grown hg (.inr H9);(obtain ⟨ap,aq,hT⟩:=cj hG ap aq hT);have dL:aS w5 Eg 147 [.int .i64 x.At,.int .i64 x.Order,.int .i64 ty]:=oJ;clear oJ hg hG S1;refine Wz ?_;refine SW.dT rfl rfl (mR s.aj.A s.aj.n s.aj.c w.heap.size F _ hX k gh (by omega) hw.size) fun v w6 hv => ?_
       obtain ⟨rfl,CT,hg⟩:=hv;have hG:=hX.gr hg;have hw:=aF hw hg (ac3 _) hX.ba;have dL:=dL.grown hg (fun e=>H9 e.symm);(obtain ⟨ap,aq,hT⟩:=cj hG ap aq hT);clear hg hG;have AV:s.aj.n-1=(F.eraseIdx k).length:=by rw [aeh S0];omega
       rw [AV] at CT;rw [AV];refine Wz ?_;refine Wb (i:=2) ap fun w7 dW hg => ?_
       have hG:=ap.gr hg;have hw:=hw.own cg hg;have aq:=aq.grown hg (by simpa using oG.symm);(obtain ⟨dL,CT,hT⟩:=cj hG dL CT hT);have ap:aS w7 b3 117 [.int .i64 s.aU,.int .i64 s.To,.slice s.aj.A (F.eraseIdx k).length s.aj.c,.slice s.Types.A s.Types.n s.Types.c]:=dW;clear dW hg hG hX;refine Wz ?_;obtain ⟨R7,S4⟩ : ∃ R7,lY ty x.At (x.Order-o).toNat x.Order (F.eraseIdx k)=R7:=⟨_,rfl⟩;rw [S4] at lP
       refine CW.loop (fun u:Int×List Block×Option Addr×Nat=>[(1,.int .i64 o),(3,.pointer (some ⟨b3,0,none⟩)),(6,.pointer (some ⟨b6,0,none⟩)),(15,.pointer (some ⟨Eg,0,none⟩))])
        (fun u w'=>Ext w w'∧aS w' b3 117 [.int .i64 s.aU,.int .i64 s.To,.slice u.2.2.1 u.2.1.length u.2.2.2,.slice s.Types.A s.Types.n s.Types.c]∧aS w' b6 117 (dp .zero)∧aS w' Eg 147 [.int .i64 x.At,.int .i64 u.1,.int .i64 ty] ∧
          Own w' w.heap.size 147 3 aO u.2.2.1 u.2.1.length u.2.2.2 u.2.1∧Own w' w.heap.size 3 1 bw s.Types.A s.Types.n s.Types.c T∧D5 z.aU z.To u.2.1 x.At u.1∧o<=u.1∧lY ty x.At (u.1-o).toNat u.1 u.2.1=R7∧(u.2.1.length:Int)+u.1<=300∧aI u.2.2.1 u.2.2.2≠some Eg) (fun u=>(u.1-o).toNat) (x.Order,F.eraseIdx k,s.aj.A,s.aj.c)
        ⟨rfl,rfl,rfl,rfl,trivial⟩ ⟨hw,ap,aq,dL,CT,hT,hJ,Vu,S4,by simp only;omega,H9⟩ ?_
       clear hw ap aq dL CT hT hJ AV Py H9;rintro ⟨q,l,A,c⟩ w' ⟨hw,ap,aq,dL,hX,hT,hJ,Zu,yQ,hlen,bL⟩
       simp only at ap dL hX hJ Zu yQ hlen bL ⊢;by_cases hqq:o<q
       ·obtain ⟨k1,k2,k3,k4,k5⟩:=hJ.fit;obtain ⟨wV,Zv⟩:=Ef hJ o1 o3 o5 (by omega) R0;rw [show (q-o).toNat=(q-1-o).toNat+1 by omega,lY] at yQ;have UD:=cy (o:=q-1) (by omega) (by omega);have cE:∀ w',bI prog 133 [.agg (aO ⟨x.At,q-1,ty⟩).toArray] w' fun v _=>v = .int .i64 (x.At+pw (q-1)):=fun w'=>pC ⟨x.At,q-1,ty⟩ w' ⟨by simp only;omega,by simp only;omega⟩ ⟨by simp only;omega,by simp only;omega⟩
        have cF:∀ w',Sl w' 3 aO A l.length l->bI prog 135 [.agg (dp ⟨s.aU,s.To,⟨A,l.length,c⟩,s.Types⟩).toArray,.int .i64 (x.At+pw (q-1))] w' fun v _=>v = .tuple #[.int .i64 (bE l (x.At+pw (q-1)) : Int),.bool (bO l (x.At+pw (q-1)))]:=fun w' h =>
         vL ⟨s.aU,s.To,⟨A,l.length,c⟩,s.Types⟩ l z.aU z.To (x.At+pw (q-1)) w' h hJ.rT hJ.eG o1 (by omega) (by simp only;omega) ⟨by omega,by omega⟩
        have AL:=HW l (x.At+pw (q-1));have XS:=Jc ty x.At q l;refine Wz ?_;refine Wb (i:=1) dL fun w5 oJ hg => ?_
        have hG:=dL.gr hg;have hw:=hw.own S3 hg;have hX:=hX.grown hg (.inr bL);(obtain ⟨ap,aq,hT⟩:=cj hG ap aq hT);have dL:aS w5 Eg 147 [.int .i64 x.At,.int .i64 (q-1),.int .i64 ty]:=oJ;clear oJ hg hG;refine Wz ?_
        focus
         refine CW.any 8 mixed (dg (by kernel_rfl)) rfl fun w1 ai aJ => ?_
         obtain ⟨hw,ap,aq,dL,hX,hT⟩:=iS ai hw ap aq dL hX hT;clear ai;refine Wa ?_;refine SA.two 1 7 rfl rfl (by kernel_rfl) rfl rfl ?_ ?_
         focus
          refine Wk (cE _) fun v w4 ar hv => ?_
          subst hv;(obtain ⟨hw,ap,aq,dL,hX,hT⟩:=iS ar hw ap aq dL hX hT);try have uU:=uU.ext ar
          refine SW.nil (ae.sa ar ?_);refine Wa ?_;refine SA.one 7 rfl (by kernel_rfl) rfl ?_;refine SW.alloc rfl fun R8 w4 ar QH uU => ?_
          have S5:=hw.up QH
          have S6:aI A c≠some R8:=fun e=>by have:=hX.lt_size _ e;omega
          have S7:Eg≠R8:=by have:=dL.lt;omega
          (obtain ⟨hw,ap,aq,dL,hX,hT⟩:=iS ar hw ap aq dL hX hT);refine SW.nil (ae.sa ar ?_)
         rotate_left
         focus
          refine SW.alloc rfl fun R8 w4 ar QH uU => ?_
          have S5:=hw.up QH
          have S6:aI A c≠some R8:=fun e=>by have:=hX.lt_size _ e;omega
          have S7:Eg≠R8:=by have:=dL.lt;omega
          (obtain ⟨hw,ap,aq,dL,hX,hT⟩:=iS ar hw ap aq dL hX hT);refine SW.nil (ae.sa ar ?_);refine SA.one 1 rfl (by kernel_rfl) rfl ?_;refine Wk (cE _) fun v w4 ar hv => ?_
          subst hv;(obtain ⟨hw,ap,aq,dL,hX,hT⟩:=iS ar hw ap aq dL hX hT);try have uU:=uU.ext ar
          refine SW.nil (ae.sa ar ?_);refine Wa ?_
         rotate_left
         all_goals
          refine SA.done (by kernel_rfl) ?_;skip;refine SW.ag uU rfl rfl rfl rfl (im.one (enc:=aO) ⟨x.At+pw (q-1),q-1,ty⟩) fun w5 Eh hg => ?_
          have hG:=uU.gr hg;have hw:=hw.own S5 hg;have hX:=hX.grown hg (.inr S6);have dL:=dL.grown hg (by simpa using S7);(obtain ⟨ap,aq,hT⟩:=cj hG ap aq hT);have uU:=Eh;clear Eh hg hG cE;repeat' (first|refine Wz ?_|(refine Wk (cF _ hX.sl) ?_;intro v w1 ai hv;subst hv;obtain ⟨hw,ap,aq,dL,uU,hX,hT⟩:=ur ai hw ap aq dL uU hX hT;clear ai))
          refine SW.dR rfl rfl rfl rfl rfl fun b w6 ar hb hB => ?_
          have vQ:aI A c≠some b:=fun e=>by have:=hX.lt_size _ e;omega
          (obtain ⟨hw,ap,aq,dL,hX,hT⟩:=iS ar hw ap aq dL hX hT);skip;refine SW.dT rfl rfl (kC A l.length c w.heap.size l _ hX (bE l (x.At+pw (q-1))) AL (nR ty x.At q) b hB vQ (by omega) hw.size) fun v w7 hv => ?_
          obtain ⟨A2,c2,rfl,bh,hg⟩:=hv;have hG:=hX.gr hg;have hw:=aF hw hg (ac3 _) hX.ba;have dL:=dL.grown hg (fun e=>bL e.symm);(obtain ⟨ap,aq,hT⟩:=cj hG ap aq hT);clear hg hG hX
          have Oa:aI A2 c2≠some Eg:=bh.QF (x:=⟨x.At,q-1,ty⟩) dL (by omega) fun y hy e=>by
           have g1:=(wV.eG y hy).1;have g2:=cy g1.1 g1.2.1;simp only at e;rcases wV.NB y hy with g|g<;>omega
          rw [<- XS] at bh;rw [<- XS];refine Wz ?_;refine Wb (i:=2) ap fun w8 dW hg => ?_
          have hG:=ap.gr hg;have hw:=hw.own cg hg;have aq:=aq.grown hg (by simpa using oG.symm);(obtain ⟨dL,bh,hT⟩:=cj hG dL bh hT);refine Wz ?_;exact ae.again (q-1,tF ty x.At q l,A2,c2) ⟨rfl,rfl,rfl,rfl,trivial⟩ (by simp only;omega) ⟨hw,dW,aq,dL,bh,hT,wV,by simp only;omega,yQ,by simp only;omega,Oa⟩
       ·obtain rfl:o=q:=by omega
        have Pz:l=R7:=by
         rw [<- yQ,show (o-o).toNat=0 by omega];rfl
        rw [Pz] at hX;rw [Pz] at ap;refine Wz ?_;refine CW.gl 3 5 (fun w2=>aS w2 Eg 147 [.int .i64 x.At,.int .i64 o,.int .i64 ty]) mixed (by kernel_rfl) fun w1 ai aJ => ?_
        obtain ⟨hw,ap,aq,dL,hX,hT⟩:=iS ai hw ap aq dL hX hT;clear ai;refine Wf ?_;refine SF.cq 1 [] aJ rfl (by kernel_rfl) (by kernel_rfl) (by kernel_rfl) (az rfl) (fun w2 hS=>az rfl) rfl ?_;refine SF.cq 2 [] aJ rfl (by kernel_rfl) (by kernel_rfl) (by kernel_rfl) (aT rfl (dL.cell (i:=0) (v := .int .i64 x.At) rfl)) (fun w2 hS=>aT rfl (hS.cell (i:=0) (v := .int .i64 x.At) rfl)) rfl ?_;refine SF.turn rfl (by kernel_rfl) rfl ?_;refine SW.ag aq rfl rfl rfl rfl (fE ⟨s.aU,s.To,⟨A,R7.length,c⟩,s.Types⟩) fun w5 cS hg => ?_
        have hG:=aq.gr hg;have hS:=dL.aN hG rfl;have hw:=hw.own cG hg;(obtain ⟨hX,hT⟩:=cX hG hX hT);refine SW.nil (ae.sg hS ?_);refine SG.one 4 rfl (by kernel_rfl) rfl ?_;repeat (refine SW.pure rfl rfl ?_)
        refine SW.nil (ae.sg hS ?_);refine SG.last rfl (by kernel_rfl) (by kernel_rfl) ?_;refine Wz ?_;exact ae.e8 rfl rfl rfl rfl cS rfl ⟨_,rfl,hw,_,lP,⟨s.aU,s.To,⟨A,R7.length,c⟩,s.Types⟩,rfl,⟨sF,sT,hX,hT⟩⟩
   ·have F9:=yY;unfold kH at F9;rcases (show t<0∨(0<=t∧2<t) by omega) with g|g
    all_goals
     repeat' (first|refine Wz ?_|(refine Wk (c1 _ hw) ?_;intro v w1 ai hv;subst hv;obtain ⟨hw,ap,aq⟩:=cj ai hw ap aq;clear ai))
     refine SW.ag aq rfl rfl rfl rfl (fE .zero) fun w5 cS hg => ?_
     have hw:=hw.own cG hg;refine Wz ?_;exact ae.e8 rfl rfl rfl rfl cS rfl ⟨_,rfl,hw,_,.kind hq ho yY,qA.zero 2 _ _⟩
  ·rcases (show o<0∨(0<=o∧4<o) by omega) with g|g
   all_goals
    repeat' (first|refine Wz ?_|(refine Wk (c1 _ hw) ?_;intro v w1 ai hv;subst hv;obtain ⟨hw,ap,aq⟩:=cj ai hw ap aq;clear ai))
    refine SW.ag aq rfl rfl rfl rfl (fE .zero) fun w5 cS hg => ?_
    have hw:=hw.own cG hg;refine Wz ?_;exact ae.e8 rfl rfl rfl rfl cS rfl ⟨_,rfl,hw,_,.range hq ho,qA.zero 1 _ _⟩
variable {held:Bool} {cs:List Value} {fuel:Nat} {spare:Nat->Bool} {W:World}
theorem CZ : prog.globalNamed "paddock/buddy.others" = some 1 := by kernel_rfl
theorem Ei:(prog.globals[1]?).map (·.type)=some 240:=by kernel_rfl
set_option maxRecDepth 100000 in
theorem C0 {p:List MemPlace} {enc:TypeId×Value->Unit} {base:Nat} (h:DataW.trod enc prog W base spare held fuel 240 cs=some (Rows.laid_paddock_buddy_others,p)) :
 cs=[.int .i64 2,.int .i64 1,.int .i64 2,.int .i64 0,.int .i64 0,.int .i64 1]:=by
 have c2:prog.cellsOf 239=2:=by kernel_rfl
 have c6:prog.cellsOf 240=6:=by kernel_rfl
 have c1:prog.cellsOf 3=1:=by kernel_rfl
 obtain ⟨xs,m,rfl,hx,hlen,hn,FT⟩:=DataW.trod_array Tryz.underlying240 h;rw [c6] at hlen;rw [c2] at FT;simp only [Prod.mk.injEq] at hx
 have pair:∀ (a b:Value) (u v:Int) (x:DataW Unit×List MemPlace),DataW.trod enc prog W base spare held m 239 [a,b]=some x->x.1 = .agg [.lit (.int .i64 u),.lit (.int .i64 v)]->a = .int .i64 u∧b = .int .i64 v:=by
  intro a b u v x hx e;obtain ⟨ys,k,rfl,rfl,_,hk,he⟩:=DataW.trod_array Tryz.underlying239 hx;rw [c1] at he
  match ys,hk with
  | [y0,y1],_ =>
    have h0:=he 0 (by decide);have h1:=he 1 (by decide);obtain ⟨z0,e0,f0,_⟩:=DataW.trod_int Tryz.underlying3 (show DataW.trod enc prog W base spare held k 3 [a]=some y0 from h0);obtain ⟨z1,e1,f1,_⟩:=DataW.trod_int Tryz.underlying3 (show DataW.trod enc prog W base spare held k 3 [b]=some y1 from h1);rw [f0,f1] at e;simp at e e0 e1;rw [e0,e1,e.1,e.2];exact ⟨rfl,rfl⟩
 match cs,hlen,xs,hn with
 | [a,b,c,d,e,f],_,[x0,x1,x2],_ =>
   have h0:=FT 0 (by decide);have h1:=FT 1 (by decide);have h2:=FT 2 (by decide);have lf:=hx.1;simp only [Rows.laid_paddock_buddy_others,List.map_cons,List.map_nil,DataW.agg.injEq,List.cons.injEq,and_true] at lf;obtain ⟨rfl,rfl⟩:=pair a b 2 1 x0 h0 lf.1.symm;obtain ⟨rfl,rfl⟩:=pair c d 2 0 x1 h1 lf.2.1.symm;obtain ⟨rfl,rfl⟩:=pair e f 0 1 x2 h2 lf.2.2.symm
   rfl
variable {d:Nat} {dst src ty:TypeId}
def eA (a b:ByteArray) : Bool:=Op.bytesLess a.toList b.toList
theorem Bz:∀ x y:List UInt8,Op.bytesLess x y=(!(Op.bytesLess y x || decide (x=y)))
 | [],[]=>by simp [Op.bytesLess]
 | [],_::_=>by simp [Op.bytesLess]
 | _::_,[]=>by simp [Op.bytesLess]
 | a::x,b::y=>by
   have ih:=Bz x y;simp only [Op.bytesLess,List.cons.injEq];rcases adD a.toNat b.toNat with h|h|h
   ·have h1:a<b:=h
    have h2 : ¬ b<a:=fun e=>by have:b.toNat<a.toNat:=e;omega
    have h3 : ¬ a=b:=fun e=>by subst e;omega
    have h4 : ¬ b=a:=fun e=>h3 e.symm
    simp [h1,h2,h3,h4]
   ·have h3:a=b:=UInt8.toNat_inj.1 h
    subst h3;have h1 : ¬ a<a:=fun e=>by have:a.toNat<a.toNat:=e;omega
    simp [h1,ih]
   ·have h1:b<a:=h
    have h2 : ¬ a<b:=fun e=>by have:a.toNat<b.toNat:=e;omega
    have h3 : ¬ a=b:=fun e=>by subst e;omega
    have h4 : ¬ b=a:=fun e=>h3 e.symm
    simp [h1,h2,h3]
theorem bytes_trans:∀ x y z:List UInt8,Op.bytesLess x y=true->Op.bytesLess y z=true->Op.bytesLess x z=true
 | _,[],_,h,_=>by simp [Op.bytesLess] at h
 | _,_::_,[],_,h=>by simp [Op.bytesLess] at h
 | [],_::_,_::_,_,_=>by simp [Op.bytesLess]
 | a::x,b::y,c::z,h,k=>by
   simp only [Op.bytesLess,Bool.or_eq_true,decide_eq_true_eq,Bool.and_eq_true,beq_iff_eq] at h k ⊢;rcases h with h|⟨rfl,h⟩<;>rcases k with k|⟨rfl,k⟩
   ·have h':a.toNat<b.toNat:=h
    have k':b.toNat<c.toNat:=k
    exact .inl (show a.toNat<c.toNat by omega)
   ·exact .inl h
   ·exact .inl k
   ·exact .inr ⟨rfl,bytes_trans x y z h k⟩
theorem C2 (a b:ByteArray) : (a.toList == b.toList)=decide (a=b):=by
 by_cases h:a=b
 ·subst h;simp
 ·have : ¬ a.toList=b.toList:=fun e=>h (by
   have e1:=congrArg (fun l:List UInt8=>ByteArray.mk l.toArray) e;simp only [ByteArray.toList_eq] at e1;cases a;cases b;simpa using e1)
  simp [h,this]
theorem oK {a b c:ByteArray} (h:eA a b=true) (k:eA b c=true) : eA a c=true:=bytes_trans _ _ _ h k
theorem Jg (a b:ByteArray) : eA a b = !(eA b a || decide (a=b)):=by
 unfold eA;rw [Bz];have:decide (a.toList=b.toList)=decide (a=b):=by rw [<- C2];exact (Bool.beq_eq_decide_eq _ _).symm
 rw [this]
class Ia (P:Program) (t:TypeId) : Prop where
 ou:P.underlying t=some .string
def C3 (b:UInt8) : List Value:=[.int .u8 b.toNat]
section
variable {P:Program} {L:Env} {w:World} {d:Option Nat} {T:TypeId} {pos:String} {af:Array Edge} {g:Option (Nat×Bool)}
theorem mE {x:Operand} {a b:ByteArray} (hx:cK L x=some (.string a)) (hy:cK L y=some (.string b)) : St P ⟨d,.binOp .eql t x y ty,T,pos,af,g⟩ L w (.bool (decide (a=b))) :=
 ⟨fun _ A hA w' _=>by
  have e1:=hA.eval hx;have e2:=hA.eval hy;generalize A.eval = ρ at *
  have h1:(binOp .eql t (.string a) (.string b)).run P w' = .ok (.bool (decide (a=b))) w':=by
   have:binOp .eql t (.string a) (.string b)=Op.stringOp .eql a b:=by simp [binOp]
   rw [this,<- C2];simp [Op.stringOp,pure]
  simp [execOp,e1,e2,eqGuard,h1]⟩
theorem Ej {x:Operand} {a b:ByteArray} (hx:cK L x=some (.string a)) (hy:cK L y=some (.string b)) : St P ⟨d,.binOp .geq t x y ty,T,pos,af,g⟩ L w (.bool (!eA a b)) :=
 ⟨fun _ A hA w' _=>by
  have e1:=hA.eval hx;have e2:=hA.eval hy;generalize A.eval = ρ at *
  have h1:(binOp .geq t (.string a) (.string b)).run P w' = .ok (.bool (!eA a b)) w':=by
   have:binOp .geq t (.string a) (.string b)=Op.stringOp .geq a b:=by simp [binOp]
   rw [this];simp [Op.stringOp,pure,eA]
  simp [execOp,e1,e2,eqGuard,h1]⟩
theorem Lz {x:Operand} {a b:ByteArray} (hx:cK L x=some (.string a)) (hy:cK L y=some (.string b)) : St P ⟨d,.binOp .lss t x y ty,T,pos,af,g⟩ L w (.bool (eA a b)) :=
 ⟨fun _ A hA w' _=>by
  have e1:=hA.eval hx;have e2:=hA.eval hy;generalize A.eval = ρ at *
  have h1:(binOp .lss t (.string a) (.string b)).run P w' = .ok (.bool (eA a b)) w':=by
   have:binOp .lss t (.string a) (.string b)=Op.stringOp .lss a b:=by simp [binOp]
   rw [this];simp [Op.stringOp,pure,eA]
  simp [execOp,e1,e2,eqGuard,h1]⟩
theorem vR {x:Operand} {a b:ByteArray} (hx:cK L x=some (.string a)) (hy:cK L y=some (.string b)) : St P ⟨d,.binOp .neq t x y ty,T,pos,af,g⟩ L w (.bool (decide (a≠b))) :=
 ⟨fun _ A hA w' _=>by
  have e1:=hA.eval hx;have e2:=hA.eval hy;generalize A.eval = ρ at *
  have h1:(binOp .neq t (.string a) (.string b)).run P w' = .ok (.bool (decide (a≠b))) w':=by
   have:binOp .neq t (.string a) (.string b)=Op.stringOp .neq a b:=by simp [binOp]
   rw [this];have e:decide (a≠b) = !(a.toList == b.toList):=by rw [C2];simp
   rw [e];simp [Op.stringOp,pure]
  simp [execOp,e1,e2,eqGuard,h1]⟩
theorem Ib [c:Ia P t] {x:Operand} {s:ByteArray} (hx:cK L x=some (.string s)) :
 St P ⟨d,.call ⟨.builtin .len,#[x],#[t]⟩,T,pos,af,g⟩ L w (.int .i64 (s.size:Int)) :=
 ⟨fun _ a ha w' _=>by simp [execOp,resolve,invoke,builtin,ha.eval hx,Builtin.len_,run_underlying c.ou,goInt]⟩
end
section
variable {P:Program} {n:Nat} {ops:Array Oper} {Q:Exit->Act->World->Prop} {rest:List Oper} {L:Env} {w:World} {T:TypeId} {pos:String} {af:Array Edge}
theorem SW.Jh [S:Ia P src] [D:bz P dst e 1] (he:P.underlying e=some (.int .u8)) {x:Operand} {s:ByteArray} (hx:cK L x=some (.string s)) (hn:Nat.blt d n=true)
 (h:∀ b c w',Ext w w'->w.heap.size<=b->Sl w' 1 C3 (some ⟨b,0,none⟩) s.size s.data.toList->SW P n ops (.gL Q) rest ((d,.slice (some ⟨b,0,none⟩) s.size c)::L) w') :
 SW P n ops (.gL Q) (⟨some d,.convert src dst x,T,pos,af,none⟩::rest) L w :=
 ⟨fun a ha=>by
  simp only [swp,wpList,Region.wanted,if_true];refine .inl ?_;unfold Oper.wp;have hr:=Lib.run_convert_string_bytes (P:=P) w src dst e s S.ou D.ou he
  have:(execOp a.eval ⟨some d,.convert src dst x,T,pos,af,none⟩).run P w = .ok (.value (.slice (some ⟨w.heap.size,0,none⟩) s.size (grownCap w s.size 0 e))) (Lib.bytesWorld w e s):=by
   simp [execOp,ha.eval hx,hr]
  rw [this,Oper.upon_value];have hE:Ext w (Lib.bytesWorld w e s):=⟨rfl,rfl,rfl,by rw [Lib.bytesWorld_size];omega,fun j hj=>Lib.bytesWorld_at_old w e s j hj⟩
  refine (h _ _ _ hE (ac3 _) ⟨?_,fun _=>rfl,fun i hi j u hu => ?_⟩).out _ (ha.put hn _)
  ·exact aea
  ·have nO:i<s.size:=by rw [aea] at hi;exact hi
   have:=Lib.bytesWorld_cell w e s i nO
   match j,hu with
   | 0,hu =>
     simp only [C3,List.getElem?_cons_zero,Option.some.injEq] at hu;rw [add_zero]
     have e2:(((some (⟨w.heap.size,0,none⟩ : Addr)).getD default).add (i*1))=⟨w.heap.size,i,none⟩:=by
      simp only [Option.getD_some,Nat.mul_one];unfold Addr.add;split<;>simp_all
     rw [e2,this,<- hu];have e3:s.data.toList.getD i 0=s.data.toList[i]:=by simp [List.getD,nO]
     rw [e3]
   | j+1,hu=>simp [C3] at hu⟩
end
variable {L:List aR} {zs:List dZ} {li lv:ga}
theorem dU (r:ju) : ∀ v∈dC r,v.oneCell'=true:=im.one (enc:=dC) r
theorem LA (r:du) : ∀ v∈ck r,v.oneCell'=true:=im.one (enc:=ck) r
def Gt (ls:List du) : Prop := ∀ (i j:Nat) (hi:i<ls.length) (hj:j<ls.length),i≠j -> ∀ g,aI ls[i].ax.A ls[i].ax.c=some g->aI ls[j].ax.A ls[j].ax.c≠some g
structure uV (m:ga) (zs:List dZ) (ls:List du) : Prop where
 ef:∀ (i:Nat) (hi:i<ls.length) (g:Nat),aI ls[i].ax.A ls[i].ax.c=some g->aI m.A m.c≠some g
 types:∀ (i:Nat) (hi:i<ls.length) (g:Nat),aI ls[i].ax.A ls[i].ax.c=some g -> ∀ u∈zs,aI u.Types.A u.Types.c≠some g
 sep:Gt ls
theorem uV.nil (m:ga) (zs:List dZ) : uV m zs []:=⟨fun i hi=>by simp at hi,fun i hi=>by simp at hi,fun i j hi=>by simp at hi⟩
theorem uV.snoc {m:ga} {ls:List du} {s:ga} {x:List Int} {zl:List ak} {y:du} (h:uV m zs ls) (hm:Own w lo 3 1 bw m.A m.n m.c x) (hz:kW w lo s zs zl) (hl:gd w lo li ls L) (hy:∀ g,aI y.ax.A y.ax.c=some g->w.heap.size<=g) : uV m zs (ls++[y]):=by
 have eQ:∀ (i:Nat) (hi:i<ls.length) (g:Nat),aI ls[i].ax.A ls[i].ax.c=some g->g<w.heap.size:=fun i hi g e=>(hl.each.get i hi (by rw [<- hl.each.len];exact hi)).bC.lt_size g e
 have key:∀ (i:Nat) (hi:i<(ls++[y]).length),(∃ h:i<ls.length,(ls++[y])[i]=ls[i])∨(i=ls.length∧(ls++[y])[i]=y):=fun i hi=>by
  by_cases e:i<ls.length
  ·exact .inl ⟨e,adT e⟩
  ·have:i=ls.length:=by simp at hi;omega
   subst this;exact .inr ⟨rfl,by simp⟩
 refine ⟨fun i hi g e => ?_,fun i hi g e u hu => ?_,fun i j hi hj o9 g e e2 => ?_⟩
 ·rcases key i hi with ⟨h1,h2⟩|⟨h1,h2⟩
  ·rw [h2] at e;exact h.ef i h1 g e
  ·rw [h2] at e;intro e3;have:=hm.lt_size g e3;have:=hy g e;omega
 ·rcases key i hi with ⟨h1,h2⟩|⟨h1,h2⟩
  ·rw [h2] at e;exact h.types i h1 g e u hu
  ·rw [h2] at e;intro e3;obtain ⟨j,hj,rfl⟩:=ac1 hu;have:=(hz.each.get j hj (by rw [<- hz.each.len];exact hj)).types.lt_size g e3
   have:=hy g e
   omega
 ·rcases key i hi with ⟨h1,h2⟩|⟨h1,h2⟩
  ·rw [h2] at e;rcases key j hj with ⟨h3,h4⟩|⟨h3,h4⟩
   ·rw [h4] at e2;exact h.sep i j h1 h3 o9 g e e2
   ·rw [h4] at e2;have:=eQ i h1 g e;have:=hy g e2;omega
  ·rw [h2] at e;rcases key j hj with ⟨h3,h4⟩|⟨h3,h4⟩
   ·rw [h4] at e2;have:=eQ j h3 g e2;have:=hy g e;omega
   ·omega
def xA (lv:ga) (zs:List dZ) : Prop := ∀ u∈zs,∀ g,aI u.aj.A u.aj.c=some g->aI lv.A lv.c≠some g
theorem xA.nil (lv:ga) : xA lv []:=fun u hu=>by simp at hu
theorem xA.snoc {x:List Block} {u:dZ} (h:xA lv zs) (hl:Own w lo 147 3 aO lv.A lv.n lv.c x) (hu:∀ g,aI u.aj.A u.aj.c=some g->w.heap.size<=g) : xA lv (zs++[u]):=fun y hy g e e2=>by
 rcases ac9.1 hy with hy|hy
 ·exact h y hy g e e2
 ·simp at hy;subst hy;have:=hu g e
  have:=hl.lt_size g e2
  omega
structure LB (w:World) (lo:Nat) (r:ju) (h:Heap) : Prop where
 own:jC w lo r h
 all:∃ zs ls,kW w lo r.bp zs h.bp∧gd w lo r.av ls h.av∧uV r.dK zs ls∧xA r.Live zs
set_option maxHeartbeats 4000000 in
theorem tW (r:ju) (h:Heap) (w:World) (hr:HY w r h) (hs:h.small) :
 bI prog 38 [.agg (dC r).toArray] w fun v w' => ∃ s,v = .agg (dC s).toArray∧LB w' w.heap.size s h:=by
 refine aE func38 rfl ntmps38 rfl ?_;refine CW.seq (CW.region (SW.box rfl rfl fun b1 w1 hw lc aW => ?_));refine SW.alloc rfl fun b2 w2 bt fk au => ?_
 have uM:=hw.up fk
 have Oa:b2≠b1:=by have:=aW.lt;omega
 (obtain ⟨hw,aW⟩:=cX bt hw aW);obtain ⟨zs,hz⟩:=hr.cr;obtain ⟨ls,hl⟩:=hr.lists;have S8:=hr.ef.len;have R9:=hr.live.len;have s1:=hs.ef;have s2:=hs.live;have s3:=hs.cr;have s4:=hs.lists;obtain ⟨z1,z2⟩:=hz.len;obtain ⟨l1,l2⟩:=hl.len;refine Wz ?_
 obtain ⟨K,hK⟩ : ∃ K:Env->World->Prop,K=fun L' w' => ∃ X c1 Y d1 b3,il L' [(1,.pointer (some ⟨b1,0,none⟩)),(2,.pointer (some ⟨b2,0,none⟩)),(3,.pointer (some ⟨b3,0,none⟩))]∧Ext w w'∧aS w' b1 41 (dC r)∧aS w' b2 41 (dC .zero) ∧
  aS w' b3 41 (dC ⟨.nil,⟨X,r.dK.n,c1⟩,r.bG,.nil,⟨Y,r.Live.n,d1⟩⟩)∧Own w' w.heap.size 3 1 bw X r.dK.n c1 h.dK∧Own w' w.heap.size 147 3 aO Y r.Live.n d1 h.Live∧w.heap.size<=b3∧b1≠b3∧b2≠b3:=⟨_,rfl⟩
 refine CW.cut K ?_ ?_
 ·focus
   refine CW.any 10 mixed (dg (by kernel_rfl)) rfl fun w1 ai aJ => ?_
   obtain ⟨hw,aW,au⟩:=cj ai hw aW au;clear ai;refine Wa ?_;refine SA.two 2 9 rfl rfl (by kernel_rfl) rfl rfl ?_ ?_
   focus
    refine Wk (dB _ _ _ _ _ (hr.ef.ext hw) (by omega)) fun v w4 ar hv => ?_
    obtain ⟨X,c4,rfl,hX⟩:=hv;have hX:=hX.low hw.size;obtain ⟨hw,aW,au⟩:=cj ar hw aW au;try have ap:=ap.ext ar
    refine SW.nil (ae.sa ar ?_);refine SA.two 7 9 rfl rfl (by kernel_rfl) rfl rfl ?_ ?_
    focus
     refine Wk (lg _ _ _ _ _ (hr.live.ext hw) (by omega)) fun v w4 ar hv => ?_
     obtain ⟨Y,d4,rfl,hY⟩:=hv;have hY:=hY.low hw.size;obtain ⟨hX,hw,aW,au⟩:=dG ar hX hw aW au;try have ap:=ap.ext ar
     refine SW.nil (ae.sa ar ?_);refine Wa ?_;refine SA.one 9 rfl (by kernel_rfl) rfl ?_;refine SW.alloc rfl fun b3 w4 ar cg ap => ?_
     have fW:=hw.up cg
     have rv:b1≠b3:=by have:=aW.lt;omega
     have pf:b2≠b3:=by have:=au.lt;omega
     obtain ⟨hw,aW,au⟩:=cj ar hw aW au;try have hX:=hX.ext ar
     try have hY:=hY.ext ar
     refine SW.nil (ae.sa ar ?_)
    rotate_left
    focus
     refine SW.alloc rfl fun b3 w4 ar cg ap => ?_
     have fW:=hw.up cg
     have rv:b1≠b3:=by have:=aW.lt;omega
     have pf:b2≠b3:=by have:=au.lt;omega
     obtain ⟨hw,aW,au⟩:=cj ar hw aW au;try have hX:=hX.ext ar
     try have hY:=hY.ext ar
     refine SW.nil (ae.sa ar ?_);refine SA.one 7 rfl (by kernel_rfl) rfl ?_;refine Wk (lg _ _ _ _ _ (hr.live.ext hw) (by omega)) fun v w4 ar hv => ?_
     obtain ⟨Y,d4,rfl,hY⟩:=hv;have hY:=hY.low hw.size;obtain ⟨hX,hw,aW,au⟩:=dG ar hX hw aW au;try have ap:=ap.ext ar
     refine SW.nil (ae.sa ar ?_);refine Wa ?_
    rotate_left
   rotate_left 2
   focus
    refine SW.alloc rfl fun b3 w4 ar cg ap => ?_
    have fW:=hw.up cg
    have rv:b1≠b3:=by have:=aW.lt;omega
    have pf:b2≠b3:=by have:=au.lt;omega
    obtain ⟨hw,aW,au⟩:=cj ar hw aW au;try have hX:=hX.ext ar
    try have hY:=hY.ext ar
    refine SW.nil (ae.sa ar ?_);refine SA.one 2 rfl (by kernel_rfl) rfl ?_;refine Wk (dB _ _ _ _ _ (hr.ef.ext hw) (by omega)) fun v w4 ar hv => ?_
    obtain ⟨X,c4,rfl,hX⟩:=hv;have hX:=hX.low hw.size;obtain ⟨hw,aW,au⟩:=cj ar hw aW au;try have ap:=ap.ext ar
    refine SW.nil (ae.sa ar ?_);refine SA.one 7 rfl (by kernel_rfl) rfl ?_;refine Wk (lg _ _ _ _ _ (hr.live.ext hw) (by omega)) fun v w4 ar hv => ?_
    obtain ⟨Y,d4,rfl,hY⟩:=hv;have hY:=hY.low hw.size;obtain ⟨hX,hw,aW,au⟩:=dG ar hX hw aW au;try have ap:=ap.ext ar
    refine SW.nil (ae.sa ar ?_);refine Wa ?_
   rotate_left
   all_goals
    refine SA.done (by kernel_rfl) ?_;skip;refine SW.ag ap rfl rfl rfl rfl (dU ⟨.nil,⟨X,r.dK.n,c4⟩,r.bG,.nil,⟨Y,r.Live.n,d4⟩⟩) fun w5 cS hg => ?_
    have hG:=ap.gr hg;have hw:=hw.own fW hg;(obtain ⟨hX,hY⟩:=cX hG hX hY);have aW:=aW.grown hg (by simpa using rv);have au:=au.grown hg (by simpa using pf);refine Wz ?_;exact ae.cut (K:=K) (by rw [hK];exact ⟨X,c4,Y,d4,b3,⟨rfl,rfl,rfl,trivial⟩,hw,aW,au,cS,hX,hY,fW,rv,pf⟩)
 ·clear aW au hw;subst hK;rintro L' w' ⟨X,c4,Y,d4,b3,jw,hw,aW,au,ap,hX,hY,fW,rv,pf⟩
  refine ae.sub jw ?_;refine Wz ?_
  refine CW.loop (fun s:Nat×Option Addr×Nat×List dZ=>[(1,.pointer (some ⟨b1,0,none⟩)),(2,.pointer (some ⟨b2,0,none⟩)),(3,.pointer (some ⟨b3,0,none⟩)),(18,.slice r.bp.A r.bp.n r.bp.c),(19,.int .i64 (r.bp.n:Int)),(20,.int .i64 (s.1:Int))])
   (fun s w'=>s.1<=r.bp.n∧Ext w w'∧aS w' b1 41 (dC r)∧aS w' b2 41 (dC .zero)∧aS w' b3 41 (dC ⟨⟨s.2.1,s.1,s.2.2.1⟩,⟨X,r.dK.n,c4⟩,r.bG,.nil,⟨Y,r.Live.n,d4⟩⟩)∧Own w' w.heap.size 3 1 bw X r.dK.n c4 h.dK∧Own w' w.heap.size 147 3 aO Y r.Live.n d4 h.Live ∧
     kW w' w.heap.size ⟨s.2.1,s.1,s.2.2.1⟩ s.2.2.2 (h.bp.take s.1)∧xA ⟨Y,r.Live.n,d4⟩ s.2.2.2) (fun s=>r.bp.n-s.1) (0,none,0,[]) ⟨rfl,rfl,rfl,rfl,rfl,rfl,trivial⟩ ⟨by omega,hw,aW,au,ap,hX,hY,kW.nil _ _,xA.nil _⟩ ?_
  clear aW au ap hX hY hw jw;rintro ⟨k,A,c,zr⟩ w' ⟨hk,hw,aW,au,ap,hX,hY,hO,NE⟩
  simp only at hk ap hO NE ⊢;have hA:=hz.row.base;by_cases gh:k<r.bp.n
  ·have Vw:=hz.each.get k (by omega) (by omega);have cQ:h.bp[k]'(by omega)∈h.bp:=ac0 _
   have q:=hs.free _ cQ;have q1:=Vw.free.len;have q2:=Vw.types.len;repeat' (first|refine Wz ?_|refine Wo hw ((hz.row.all gh)) ?_)
   refine SW.alloc rfl fun b5 w1 ai gm aL => ?_
   skip;refine SW.ag aL rfl rfl rfl rfl (fE _) fun w2 eJ hg => ?_
   have ar:=ai.own gm hg;have jD:=hw.up gm
   obtain ⟨hw,aW,au,ap,hX,hY,hO⟩:=ur ar hw aW au ap hX hY hO;have aL:=eJ;clear eJ ai hg ar;refine Wz ?_;refine CW.any 5 mixed (dg (by kernel_rfl)) rfl fun w1 ai aJ => ?_
   obtain ⟨hw,aW,au,ap,aL,hX,hY,hO⟩:=DJ ai hw aW au ap aL hX hY hO;clear ai;refine Wa ?_;refine SA.one 3 rfl (by kernel_rfl) rfl ?_;refine Wk (sL _ _ _ (Vw.ext hw) (by omega) (by omega)) fun v w4 ar hv => ?_
   obtain ⟨s,rfl,nd,e1,e2⟩:=hv;have Vx:=NE.snoc (u:=s) hY nd.free.ba;have nd:=nd.low hw.size;(obtain ⟨hw,aW,au,ap,aL,hX,hY,hO⟩:=DJ ar hw aW au ap aL hX hY hO);refine SW.nil (ae.sa ar ?_);refine SA.one 4 rfl (by kernel_rfl) rfl ?_;refine SW.dR rfl rfl rfl rfl rfl fun b w4 ar hb hB => ?_
   (obtain ⟨hw,aW,au,ap,aL,hX,hY,hO,nd⟩:=Lj ar hw aW au ap aL hX hY hO nd);refine SW.nil (ae.sa ar ?_);refine SA.done (by kernel_rfl) ?_;refine SW.append hO.row (aS.vF (enc:=dp) hB) hw.size rfl rfl rfl (by simp only;omega) (by simp only;omega) fun A2 c2 w5 lm hg => ?_
   have hG:=hO.row.gr hg;have hw:=aF hw hg (ac3 _) hO.row.ba;(obtain ⟨aW,au,ap,hX,hY,nd⟩:=iS hG aW au ap hX hY nd);have hE:=hO.each.mono fun _ _ h=>h.aN hG rfl
   refine Wz ?_;refine Wb (i:=0) ap fun w6 dW hg => ?_
   have hG:=ap.gr hg;have hw:=hw.own fW hg;have aW:=aW.grown hg (by simpa using rv);have au:=au.grown hg (by simpa using pf);(obtain ⟨hX,hY,nd,lm⟩:=dG hG hX hY nd lm);have hE:=hE.mono fun _ _ h=>h.aN hG rfl
   refine Wz ?_;refine ae.again (k+1,A2,c2,zr++[s]) ⟨rfl,rfl,rfl,rfl,rfl,rfl,trivial⟩ (by simp only;omega) ⟨by simp only;omega,hw,aW,au,dW,hX,hY,⟨lm,?_⟩,Vx⟩;rw [ac5 (by omega)];exact hE.snoc nd
  ·obtain rfl:k=r.bp.n:=by omega
   rw [adf (by omega)] at hO;refine Wz ?_
   refine CW.loop (fun s:Nat×Option Addr×Nat×List du=>[(2,.pointer (some ⟨b2,0,none⟩)),(3,.pointer (some ⟨b3,0,none⟩)),(33,.slice r.av.A r.av.n r.av.c),(34,.int .i64 (r.av.n:Int)),(35,.int .i64 (s.1:Int))])
    (fun s w'=>s.1<=r.av.n∧Ext w w'∧aS w' b2 41 (dC .zero)∧aS w' b3 41 (dC ⟨⟨A,r.bp.n,c⟩,⟨X,r.dK.n,c4⟩,r.bG,⟨s.2.1,s.1,s.2.2.1⟩,⟨Y,r.Live.n,d4⟩⟩)∧Own w' w.heap.size 3 1 bw X r.dK.n c4 h.dK∧Own w' w.heap.size 147 3 aO Y r.Live.n d4 h.Live ∧
      kW w' w.heap.size ⟨A,r.bp.n,c⟩ zr h.bp∧gd w' w.heap.size ⟨s.2.1,s.1,s.2.2.1⟩ s.2.2.2 (h.av.take s.1)∧uV ⟨X,r.dK.n,c4⟩ zr s.2.2.2) (fun s=>r.av.n-s.1) (0,none,0,[]) ⟨rfl,rfl,rfl,rfl,rfl,trivial⟩ ⟨by omega,hw,au,ap,hX,hY,hO,gd.nil _ _,uV.nil _ _⟩ ?_
   clear aW au ap hX hY hw hO;rintro ⟨k,B,d,lr⟩ w' ⟨hk,hw,au,ap,hX,hY,hO,hP,xB⟩
   simp only at hk ap hP xB ⊢;have hA:=hl.row.base;by_cases gh:k<r.av.n
   ·have Ji:=hl.each.get k (by omega) (by omega);have cQ:h.av[k]'(by omega)∈h.av:=ac0 _
    have q:=hs.bC _ cQ;have q1:=Ji.bC.len;repeat' (first|refine Wz ?_|refine Wo hw ((hl.row.all gh)) ?_)
    have Vy:=hP.row.lt_size;refine SW.alloc rfl fun b7 w1 ai iB bd => ?_
    skip;refine SW.ag bd rfl rfl rfl rfl (LA _) fun w2 bq hg => ?_
    have ar:=ai.own iB hg;have fX:=hw.up iB
    obtain ⟨hw,au,ap,hX,hY,hO,hP⟩:=ur ar hw au ap hX hY hO hP;have bd:=bq;clear bq ai hg ar;refine Wz ?_;refine Wk (dB _ _ _ _ _ (Ji.bC.ext hw) (by omega)) fun v w4 ar hv => ?_
    obtain ⟨W,e4,rfl,hW⟩:=hv;have xB:=xB.snoc (y:=⟨ls[k].fV,ls[k].ak,ls[k].Ty,⟨W,ls[k].ax.n,e4⟩⟩) hX hO hP hW.ba;have hW:=hW.low hw.size;(obtain ⟨hw,au,ap,bd,hX,hY,hO,hP⟩:=DJ ar hw au ap bd hX hY hO hP);refine Wz ?_;refine Wb (i:=3) bd fun w5 bq hg => ?_
    have hG:=bd.gr hg;have hw:=hw.own fX hg;(obtain ⟨au,ap,hX,hY,hO,hW⟩:=iS hG au ap hX hY hO hW);have hP:gd w5 w.heap.size ⟨B,k,d⟩ lr (h.av.take k):=⟨hP.row.grown hg (.inr (fun e=>by have:=Vy _ e;omega)),hP.each.mono fun _ _ h=>h.aN hG rfl⟩;refine Wz ?_;refine SW.dR rfl rfl rfl rfl rfl fun b w6 ar hb hB => ?_
    (obtain ⟨hw,au,ap,hX,hY,hO,hP,hW⟩:=DJ ar hw au ap hX hY hO hP hW);refine SW.append hP.row (aS.vF (enc:=ck) (x:=⟨ls[k].fV,ls[k].ak,ls[k].Ty,⟨W,_,e4⟩⟩) hB) hw.size rfl rfl rfl (by simp only;omega) (by simp only;omega) fun A2 c2 w7 PA hg => ?_
    have hG:=hP.row.gr hg;have hw:=aF hw hg (ac3 _) hP.row.ba;(obtain ⟨au,ap,hX,hY,hO,hW⟩:=iS hG au ap hX hY hO hW);have hE:=hP.each.mono fun _ _ h=>h.aN hG rfl
    refine Wz ?_;refine Wb (i:=3) ap fun w8 dW hg => ?_
    have hG:=ap.gr hg;have hw:=hw.own fW hg;have au:=au.grown hg (by simpa using pf);(obtain ⟨hX,hY,hO,PA,hW⟩:=fI hG hX hY hO PA hW);have hE:=hE.mono fun _ _ h=>h.aN hG rfl
    refine Wz ?_;refine ae.again (k+1,A2,c2,lr++[⟨ls[k].fV,ls[k].ak,ls[k].Ty,⟨W,_,e4⟩⟩]) ⟨rfl,rfl,rfl,rfl,rfl,trivial⟩ (by simp only;omega) ⟨by simp only;omega,hw,au,dW,hX,hY,hO,⟨PA,?_⟩,xB⟩;rw [ac5 (by omega)];exact hE.snoc ⟨Ji.cpu,Ji.kh,Ji.ty,hW⟩
   ·obtain rfl:k=r.av.n:=by omega
    rw [adf (by omega)] at hP;refine Wz ?_;refine SW.ag au rfl rfl rfl rfl (dU _) fun w5 cS hg => ?_
    have hG:=au.gr hg;have hw:=hw.own uM hg;(obtain ⟨hX,hY,hO,hP⟩:=dG hG hX hY hO hP);refine Wz ?_;exact ae.DZ rfl rfl cS rfl ⟨_,rfl,hw,⟨⟨A,r.bp.n,c⟩,⟨X,r.dK.n,c4⟩,r.bG,⟨B,r.av.n,d⟩,⟨Y,r.Live.n,d4⟩⟩,rfl,⟨hr.cpus,hX,hY,⟨zr,hO⟩,⟨lr,hP⟩⟩,zr,lr,hO,hP,xB,NE⟩
theorem lZ (r:ju) (h:Heap) (w:World) (hr:HY w r h) (hs:h.small) :
 bI prog 38 [.agg (dC r).toArray] w fun v w' => ∃ s,v = .agg (dC s).toArray∧jC w' w.heap.size s h :=
 (tW r h w hr hs).mono fun _ _ _ ⟨s,hv,ho⟩=>⟨s,hv,ho.own⟩
theorem tG (A:Option Addr) (n c:Nat) (l:List Slab) (w:World) (hl:Sl w 3 bf A n l) (hn:n*24<=140737488355328) : bI prog 40 [.slice A n c] w (yS w 111 3 bf n l):=by
 refine aE func40 rfl ntmps40 rfl ?_;have hw:=Ext.refl w;refine Wz ?_;refine SW.st (rO rfl rfl) rfl ?_;repeat' (first|refine Wz ?_|(refine CW.cond rfl (fun h => ?_) (fun h => ?_)))
 ·have F4:n=0:=by
   rcases adj n with h0|h0
   ·exact h0
   ·have:=hl.base h0;simp_all
  subst F4;have:l=[]:=adl hl.len
  subst this;exact ae.bj rfl rfl ⟨_,rfl,hw,none,0,rfl,Own.fv _ _ _ _ _ _⟩
 ·refine SW.yL rfl fun b w1 ai hb => ?_
  have hw:=hw.trans ai;refine Wz ?_;refine SW.uH (aet n) (adV l) (Own.fv w1 w.heap.size _ _ bf (some ⟨b,0,none⟩)) (hl.ext hw) hw.size rfl rfl rfl (by omega) (by omega) fun A2 c2 w2 hO hg => ?_
  have hw:=aF hw hg (ac3 _) (by simp [aI]);refine Wz ?_;exact ae.bj rfl rfl ⟨_,rfl,hw,A2,c2,rfl,hO⟩
variable {enc:α -> List Value}
structure aQ where
 Names:List ByteArray
 aA:Int
 bK:Int
 Order:Int
 ab:List Slab
 ao:List Int
structure ah where
 Words:List Int
 Heap:Heap
 aa:List aQ
def encStr (s:ByteArray) : List Value:=[.string s]
instance:im encStr 1:=⟨fun _=>rfl,fun r u hu=>by simp [encStr] at hu;subst hu;rfl⟩
structure dN where
 Names:ga
 aA:Int
 bK:Int
 Order:Int
 ab:ga
 ao:ga
def fK (r:dN) : List Value:=[r.Names.v,.int .i64 r.aA,.int .i64 r.bK,.int .i64 r.Order,r.ab.v,r.ao.v]
instance:im fK 6:=⟨fun _=>rfl,fun r u hu=>by simp [fK,ga.v] at hu;rcases hu with rfl|rfl|rfl|rfl|rfl|rfl<;>rfl⟩
structure db where
 Words:ga
 Heap:ju
 aa:ga
def aP (r:db) : List Value:=[r.Words.v,r.Heap.bp.v,r.Heap.dK.v,.int .i64 r.Heap.bG,r.Heap.av.v,r.Heap.Live.v,r.aa.v]
instance:im aP 7:=⟨fun _=>rfl,fun r u hu=>by simp [aP,ga.v] at hu;rcases hu with rfl|rfl|rfl|rfl|rfl|rfl|rfl<;>rfl⟩
def db.zero:db:=⟨.nil,.zero,.nil⟩
theorem BA (r:dN) : ∀ v∈fK r,v.oneCell'=true:=im.one (enc:=fK) r
theorem aY (r:db) : ∀ v∈aP r,v.oneCell'=true:=im.one (enc:=aP) r
theorem me {t:Nat} {r:db} (h:aS w b t (aP r)) : ∀ j v,(dC r.Heap)[j]?=some v->w.cell? ((((⟨b,0,none⟩ : Addr)).add 1).add j)=some v:=fun j v hv=>by
 rw [add_add];refine h.cell (i:=1+j) ?_
 match j,hv with
 | 0,hv=>exact hv
 | 1,hv=>exact hv
 | 2,hv=>exact hv
 | 3,hv=>exact hv
 | 4,hv=>exact hv
 | j+5,hv=>simp [dC] at hv
theorem Own.LC {n c:Nat} {l:List α} (h:Own w lo e sz enc A n c l) : n<=c:=by
 rcases h.row with ⟨rfl,rfl⟩|⟨_,_,_,_,_,_,h,_⟩
 ·exact ac3 _
 ·exact h
structure Gu (w:World) (r:dN) (c:aQ) : Prop where
 size:r.aA=c.aA
 per:r.bK=c.bK
 order:r.Order=c.Order
 names:Sl w 1 encStr r.Names.A r.Names.n c.Names
 aD:Sl w 3 bf r.ab.A r.ab.n c.ab
 aZ:Sl w 1 bw r.ao.A r.ao.n c.ao
 cap:r.ao.n<=r.ao.c
structure oz (w:World) (lo:Nat) (r:dN) (c:aQ) : Prop where
 size:r.aA=c.aA
 per:r.bK=c.bK
 order:r.Order=c.Order
 names:Own w lo 9 1 encStr r.Names.A r.Names.n r.Names.c c.Names
 aD:Own w lo 111 3 bf r.ab.A r.ab.n r.ab.c c.ab
 aZ:Own w lo 3 1 bw r.ao.A r.ao.n r.ao.c c.ao
section
variable {w w':World} {lo ov t:Nat} {r:dN} {c:aQ}
theorem Gu.ext (h:Gu w r c) (hx:Ext w w') : Gu w' r c:=⟨h.size,h.per,h.order,h.names.ext hx,h.aD.ext hx,h.aZ.ext hx,h.cap⟩
theorem oz.ext (h:oz w lo r c) (hx:Ext w w') : oz w' lo r c:=⟨h.size,h.per,h.order,h.names.ext hx,h.aD.ext hx,h.aZ.ext hx⟩
theorem oz.low (h:oz w lo r c) (hl:ov<=lo) : oz w ov r c:=⟨h.size,h.per,h.order,h.names.low hl,h.aD.low hl,h.aZ.low hl⟩
theorem oz.rd (h:oz w lo r c) : Gu w r c:=⟨h.size,h.per,h.order,h.names.sl,h.aD.sl,h.aZ.sl,h.aZ.LC⟩
theorem oz.aN (h:oz w lo r c) (hG:rF w w' t) (bL:(Nat.beq t 9 || (Nat.beq t 111 || Nat.beq t 3))=false) : oz w' lo r c:=by
 simp only [Bool.or_eq_false_iff] at bL;exact ⟨h.size,h.per,h.order,h.names.aN hG bL.1,h.aD.aN hG bL.2.1,h.aZ.aN hG bL.2.2⟩
end
structure Gv (w:World) (s:ga) (cs:List dN) (l:List aQ) : Prop where
 row:Sl w 6 fK s.A s.n cs
 each:fY (Gu w) cs l
 cap:s.n<=s.c
structure fj (w:World) (lo:Nat) (s:ga) (cs:List dN) (l:List aQ) : Prop where
 row:Own w lo 107 6 fK s.A s.n s.c cs
 each:fY (oz w lo) cs l
section
variable {w w':World} {lo ov t:Nat} {s:ga} {cs:List dN} {l:List aQ}
theorem Gv.ext (h:Gv w s cs l) (hx:Ext w w') : Gv w' s cs l:=⟨h.row.ext hx,h.each.mono fun _ _ h=>h.ext hx,h.cap⟩
theorem fj.ext (h:fj w lo s cs l) (hx:Ext w w') : fj w' lo s cs l:=⟨h.row.ext hx,h.each.mono fun _ _ h=>h.ext hx⟩
theorem fj.low (h:fj w lo s cs l) (hl:ov<=lo) : fj w ov s cs l:=⟨h.row.low hl,h.each.mono fun _ _ h=>h.low hl⟩
theorem fj.rd (h:fj w lo s cs l) : Gv w s cs l:=⟨h.row.sl,h.each.mono fun _ _ h=>h.rd,h.row.LC⟩
theorem fj.aN (h:fj w lo s cs l) (hG:rF w w' t) (bL:(Nat.beq t 107 || (Nat.beq t 9 || (Nat.beq t 111 || Nat.beq t 3)))=false) : fj w' lo s cs l:=by
 rw [aew] at bL;exact ⟨h.row.aN hG bL.1,h.each.mono fun _ _ h=>h.aN hG bL.2⟩
theorem fj.nil (w:World) (lo:Nat) : fj w lo .nil [] []:=⟨Own.fv _ _ _ _ _ _,.nil⟩
theorem Gv.len (h:Gv w s cs l) : cs.length=s.n∧l.length=s.n:=⟨h.row.len,by rw [<- h.each.len,h.row.len]⟩
theorem fj.eG {vs:List Value} (h:fj w lo s cs l) (hB:aS w b 107 vs) (hg:w.grownBy w' (some b)) (eQ:∀ k,aI s.A s.c=some k->k<ov) (hm:ov<=b) : fj w' lo s cs l :=
 ⟨h.row.grown hg (.inr (fun e=>by have:=eQ _ e;omega)),h.each.mono fun _ _ h=>h.aN (hB.gr hg) rfl⟩
end
structure AM (w:World) (r:db) (s:ah) : Prop where
 words:Sl w 1 bw r.Words.A r.Words.n s.Words
 heap:HY w r.Heap s.Heap
 br:∃ cs,Gv w r.aa cs s.aa
structure iT (w:World) (lo:Nat) (r:db) (s:ah) : Prop where
 words:Own w lo 3 1 bw r.Words.A r.Words.n r.Words.c s.Words
 heap:jC w lo r.Heap s.Heap
 br:∃ cs,fj w lo r.aa cs s.aa
section
variable {w w':World} {lo ov t:Nat} {r:db} {s:ah}
theorem AM.ext (h:AM w r s) (hx:Ext w w') : AM w' r s:=by
 obtain ⟨cs,hc⟩:=h.br;exact ⟨h.words.ext hx,h.heap.ext hx,⟨cs,hc.ext hx⟩⟩
theorem iT.ext (h:iT w lo r s) (hx:Ext w w') : iT w' lo r s:=by
 obtain ⟨cs,hc⟩:=h.br;exact ⟨h.words.ext hx,h.heap.ext hx,⟨cs,hc.ext hx⟩⟩
theorem iT.low (h:iT w lo r s) (hl:ov<=lo) : iT w ov r s:=by
 obtain ⟨cs,hc⟩:=h.br;exact ⟨h.words.low hl,h.heap.low hl,⟨cs,hc.low hl⟩⟩
theorem iT.rd (h:iT w lo r s) : AM w r s:=by
 obtain ⟨cs,hc⟩:=h.br;exact ⟨h.words.sl,h.heap.rd,⟨cs,hc.rd⟩⟩
end
structure aQ.small (c:aQ) : Prop where
 names:c.Names.length*16<=140737488355328
 aD:c.ab.length*24<=140737488355328
 aZ:c.ao.length*8<=140737488355328
structure ah.small (s:ah) : Prop where
 words:s.Words.length*8<=140737488355328
 heap:s.Heap.small
 br:s.aa.length*96<=140737488355328
 each:∀ c∈s.aa,c.small
instance:Ia prog 9:=⟨by kernel_rfl⟩
theorem QI:prog.underlying 5=some (.int .u8):=by kernel_rfl
theorem tX (A:Option Addr) (n c:Nat) (l:List UInt8) (w:World) (hl:Sl w 1 C3 A n l) (f:FuncId) (cap:List Value) [Body prog f] (p:UInt8->Bool) (arg:UInt8->Value) (qx:∀ x,arg x=(if 1=1 then (C3 x)[0]?.getD undef else .agg (C3 x).toArray))
 (hf:∀ x∈l,∀ w',Ext w w'->bI prog f ([arg x]++cap) w' fun v _=>v = .bool (p x)) (hn:n<=9223372036854775807) :
 bI prog 138 [.slice A n c,.func (.func f) #[] cap.toArray] w fun v _=>v = .int .i64 (idxOf p l):=by
 refine aE func138 rfl ntmps138 rfl ?_;have hw:=Ext.refl w;have hA:=hl.base;refine Wz ?_;refine CW.loop (fun k:Nat=>[(0,.slice A n c),(1,.func (.func f) #[] cap.toArray),(7,.int .i64 (n:Int)),(8,.int .i64 (k:Int))]) (fun k w'=>k<=n∧Ext w w' ∧ ∀ j (hj:j<l.length),j<k->p l[j]=false) (fun k=>n-k) 0 ⟨rfl,rfl,rfl,rfl,trivial⟩ ⟨by omega,hw,fun j _ h=>by omega⟩ ?_;clear hw;rintro k w' ⟨bW,hw,hI⟩
 by_cases hk:k<n
 ·have hx:=qx (l[k]'(hl.lt hk));have wR:=hf (l[k]'(hl.lt hk)) (ac0 _);rw [hx] at wR;repeat' (first|refine Wz ?_|refine Wn hw (hl.one hk rfl) ?_)
  refine SW.uI rfl rfl rfl (wR _ hw) fun v w1 ai hv => ?_
  subst hv;have hw:=hw.trans ai;cases hp:p (l[k]'(hl.lt hk))
  ·refine Wz ?_;refine ae.again (k+1) ⟨rfl,rfl,rfl,rfl,trivial⟩ (by omega) ⟨by omega,hw,fun j hj h => ?_⟩;by_cases mO:j=k
   ·subst mO;exact hp
   ·exact hI j hj (by omega)
  ·refine Wz ?_;exact ae.bj rfl rfl ⟨_,rfl,hw,by rw [nE (hl.lt hk) hp hI]⟩
 ·refine Wz ?_;exact ae.bj rfl rfl ⟨_,rfl,hw,by rw [(kI (fun j hj=>hI j hj (by have:=hl.len;omega))).1]⟩
theorem ln (A:Option Addr) (n c:Nat) (l:List Slab) (w:World) (hl:Sl w 3 bf A n l) (f:FuncId) (cap:List Value) [Body prog f] (p:Slab->Bool) (arg:Slab->Value) (qx:∀ x,arg x=(if 3=1 then (bf x)[0]?.getD undef else .agg (bf x).toArray))
 (hf:∀ x∈l,∀ w',Ext w w'->bI prog f ([arg x]++cap) w' fun v _=>v = .bool (p x)) (hn:n<=9223372036854775807) :
 bI prog 153 [.slice A n c,.func (.func f) #[] cap.toArray] w fun v _=>v = .int .i64 (idxOf p l):=by
 refine aE func153 rfl ntmps153 rfl ?_;have hw:=Ext.refl w;have hA:=hl.base;refine Wz ?_;refine CW.loop (fun k:Nat=>[(0,.slice A n c),(1,.func (.func f) #[] cap.toArray),(7,.int .i64 (n:Int)),(8,.int .i64 (k:Int))]) (fun k w'=>k<=n∧Ext w w' ∧ ∀ j (hj:j<l.length),j<k->p l[j]=false) (fun k=>n-k) 0 ⟨rfl,rfl,rfl,rfl,trivial⟩ ⟨by omega,hw,fun j _ h=>by omega⟩ ?_;clear hw;rintro k w' ⟨bW,hw,hI⟩
 by_cases hk:k<n
 ·have hx:=qx (l[k]'(hl.lt hk));have wR:=hf (l[k]'(hl.lt hk)) (ac0 _);rw [hx] at wR;repeat' (first|refine Wz ?_|refine Wo hw ((hl.all hk)) ?_)
  refine SW.uI rfl rfl rfl (wR _ hw) fun v w1 ai hv => ?_
  subst hv;have hw:=hw.trans ai;cases hp:p (l[k]'(hl.lt hk))
  ·refine Wz ?_;refine ae.again (k+1) ⟨rfl,rfl,rfl,rfl,trivial⟩ (by omega) ⟨by omega,hw,fun j hj h => ?_⟩;by_cases mO:j=k
   ·subst mO;exact hp
   ·exact hI j hj (by omega)
  ·refine Wz ?_;exact ae.bj rfl rfl ⟨_,rfl,hw,by rw [nE (hl.lt hk) hp hI]⟩
 ·refine Wz ?_;exact ae.bj rfl rfl ⟨_,rfl,hw,by rw [(kI (fun j hj=>hI j hj (by have:=hl.len;omega))).1]⟩
theorem lp (A:Option Addr) (n c:Nat) (l:List dN) (w:World) (hl:Sl w 6 fK A n l) (f:FuncId) (cap:List Value) [Body prog f] (p:dN->Bool) (arg:dN->Value) (qx:∀ x,arg x=(if 6=1 then (fK x)[0]?.getD undef else .agg (fK x).toArray))
 (hf:∀ x∈l,∀ w',Ext w w'->bI prog f ([arg x]++cap) w' fun v _=>v = .bool (p x)) (hn:n<=9223372036854775807) :
 bI prog 49 [.slice A n c,.func (.func f) #[] cap.toArray] w fun v _=>v = .int .i64 (idxOf p l):=by
 refine aE func49 rfl ntmps49 rfl ?_;have hw:=Ext.refl w;have hA:=hl.base;refine Wz ?_;refine CW.loop (fun k:Nat=>[(0,.slice A n c),(1,.func (.func f) #[] cap.toArray),(7,.int .i64 (n:Int)),(8,.int .i64 (k:Int))]) (fun k w'=>k<=n∧Ext w w' ∧ ∀ j (hj:j<l.length),j<k->p l[j]=false) (fun k=>n-k) 0 ⟨rfl,rfl,rfl,rfl,trivial⟩ ⟨by omega,hw,fun j _ h=>by omega⟩ ?_;clear hw;rintro k w' ⟨bW,hw,hI⟩
 by_cases hk:k<n
 ·have hx:=qx (l[k]'(hl.lt hk));have wR:=hf (l[k]'(hl.lt hk)) (ac0 _);rw [hx] at wR;repeat' (first|refine Wz ?_|refine Wo hw ((hl.all hk)) ?_)
  refine SW.uI rfl rfl rfl (wR _ hw) fun v w1 ai hv => ?_
  subst hv;have hw:=hw.trans ai;cases hp:p (l[k]'(hl.lt hk))
  ·refine Wz ?_;refine ae.again (k+1) ⟨rfl,rfl,rfl,rfl,trivial⟩ (by omega) ⟨by omega,hw,fun j hj h => ?_⟩;by_cases mO:j=k
   ·subst mO;exact hp
   ·exact hI j hj (by omega)
  ·refine Wz ?_;exact ae.bj rfl rfl ⟨_,rfl,hw,by rw [nE (hl.lt hk) hp hI]⟩
 ·refine Wz ?_;exact ae.bj rfl rfl ⟨_,rfl,hw,by rw [(kI (fun j hj=>hI j hj (by have:=hl.len;omega))).1]⟩
theorem ry (A:Option Addr) (n c:Nat) (l:List UInt8) (w:World) (hl:Sl w 1 C3 A n l) (f:FuncId) (cap:List Value) [Body prog f] (p:UInt8->Bool) (arg:UInt8->Value) (qx:∀ x,arg x=(if 1=1 then (C3 x)[0]?.getD undef else .agg (C3 x).toArray))
 (hf:∀ x∈l,∀ w',Ext w w'->bI prog f ([arg x]++cap) w' fun v _=>v = .bool (p x)) (hn:n<=9223372036854775807) :
 bI prog 85 [.slice A n c,.func (.func f) #[] cap.toArray] w fun v _=>v = .bool (l.any p):=by
 refine aE func85 rfl ntmps85 rfl ?_;have hw:=Ext.refl w;repeat' (first|refine Wz ?_|(refine Wk (tX _ _ _ _ _ (hl.ext hw) f cap p arg qx (fun x hx w1 h1=>hf x hx w1 (hw.trans h1)) hn) ?_;intro v w1 ai hv;subst hv;have hw:=hw.trans ai;clear ai))
 exact ae.bj rfl rfl ⟨_,rfl,hw,by rw [mx]⟩
theorem mF (A:Option Addr) (n c:Nat) (l:List dN) (w:World) (hl:Sl w 6 fK A n l) (f:FuncId) (cap:List Value) [Body prog f] (p:dN->Bool) (arg:dN->Value) (qx:∀ x,arg x=(if 6=1 then (fK x)[0]?.getD undef else .agg (fK x).toArray))
 (hf:∀ x∈l,∀ w',Ext w w'->bI prog f ([arg x]++cap) w' fun v _=>v = .bool (p x)) (hn:n<=9223372036854775807) :
 bI prog 83 [.slice A n c,.func (.func f) #[] cap.toArray] w fun v _=>v = .bool (l.any p):=by
 refine aE func83 rfl ntmps83 rfl ?_;have hw:=Ext.refl w;repeat' (first|refine Wz ?_|(refine Wk (lp _ _ _ _ _ (hl.ext hw) f cap p arg qx (fun x hx w1 h1=>hf x hx w1 (hw.trans h1)) hn) ?_;intro v w1 ai hv;subst hv;have hw:=hw.trans ai;clear ai))
 exact ae.bj rfl rfl ⟨_,rfl,hw,by rw [mx]⟩
def tj (b:UInt8) : Bool:=(decide ((b.toNat:Int)<97) || decide (122<(b.toNat:Int))) && (decide ((b.toNat:Int)<48) || decide (57<(b.toNat:Int)))
def gn (s:ByteArray) : Bool:=decide (1<=(s.size:Int)∧(s.size:Int)<=8) && !(s.data.toList.any tj)
theorem Ob {s:ByteArray} (h : 1<=s.size∧s.size<=8) (k:s.data.toList.any tj=false) : gn s=true:=by
 unfold gn;rw [k,decide_eq_true (by omega)]
 rfl
theorem Gw {s:ByteArray} (h : ¬ (1<=s.size∧s.size<=8)) : gn s=false:=by
 unfold gn;rw [decide_eq_false (by omega)]
 rfl
theorem Jj {s:ByteArray} (k:s.data.toList.any tj=true) : gn s=false:=by
 unfold gn;rw [k];simp
theorem LD (b:UInt8) (w:World) : bI prog 86 ([.int .u8 b.toNat]++[]) w fun v _=>v = .bool (tj b):=by
 refine aE func86 rfl ntmps86 rfl ?_;have hw:=Ext.refl w;unfold tj;obtain ⟨z,hz⟩ : ∃ z:Int,(b.toNat:Int)=z:=⟨_,rfl⟩;rw [hz];by_cases a1:z<97
 ·by_cases a2:z<48
  ·refine Wz ?_;exact ae.bj rfl rfl ⟨_,rfl,hw,by simp [a1,a2]<;>omega⟩
  ·refine Wz ?_;exact ae.bj rfl rfl ⟨_,rfl,hw,by simp [a1,a2]<;>omega⟩
 ·by_cases a2 : 122<z
  ·refine Wz ?_;exact ae.bj rfl rfl ⟨_,rfl,hw,by simp [a1,a2]<;>omega⟩
  ·refine Wz ?_;exact ae.bj rfl rfl ⟨_,rfl,hw,by simp [a1,a2]<;>omega⟩
theorem Ek (s:ByteArray) (w:World) (hs:s.size<=140737488351232) : bI prog 47 [.string s] w fun v _=>v = .bool (gn s):=by
 refine aE func47 rfl ntmps47 rfl ?_;have hw:=Ext.refl w;by_cases h0:s=⟨#[]⟩
 ·subst h0;repeat' (first|refine Wz ?_|refine SW.fZ rfl rfl rfl (fun h => ?_) (fun h => ?_)|(refine SW.st (mE rfl rfl) rfl ?_))
  all_goals first|(exfalso;simp_all;done)|skip
  exact ae.bj rfl rfl ⟨_,rfl,hw,rfl⟩
 ·by_cases h8:s.size<=8
  ·have h1 : 1<=s.size:=by
    rcases adj s.size with h|h
    ·exact absurd (by cases s;simp [ByteArray.size] at h;subst h;rfl) h0
    ·exact h
   have bL:decide (s=⟨#[]⟩)=false:=decide_eq_false h0
   repeat' (first|refine Wz ?_|(refine SW.st ((mE rfl rfl).eq (congrArg Value.bool bL)) rfl ?_)|refine SW.st (Ib rfl) rfl ?_)
   refine SW.Jh (e:=5) QI rfl rfl fun b c w1 ai hb hS => ?_
   have hw:=hw.trans ai;refine Wk (ry _ _ _ _ _ hS _ [] tj (fun x => .int .u8 x.toNat) (fun x=>rfl) (fun x _ w1 _=>LD x w1) (by omega)) fun v w2 bt hv => ?_
   subst hv;have hw:=hw.trans bt;refine Wz ?_;refine ae.bj rfl rfl ⟨_,rfl,hw,?_⟩;cases k:s.data.toList.any tj
   ·rw [Ob ⟨h1,h8⟩ k];rfl
   ·rw [Jj k];rfl
  ·have bL:decide (s=⟨#[]⟩)=false:=decide_eq_false h0
   rw [Gw (by omega)];repeat' (first|refine Wz ?_|(refine SW.st ((mE rfl rfl).eq (congrArg Value.bool bL)) rfl ?_)|refine SW.st (Ib rfl) rfl ?_)
   exact ae.bj rfl rfl ⟨_,rfl,hw,rfl⟩
def dl (x:Int) : Int×Int×Int:=if 1<=x∧x<=64 then (if 4<=16 / x then (0,16 / x,0) else if 4<=32 / x then (1,32 / x,0) else (2,64 / x,0)) else (0,0,1)
def oL (x:Int) : Value := .tuple #[.int .i64 (dl x).1,.int .i64 (dl x).2.1,.int .i64 (dl x).2.2]
theorem y8 (x:Int) (w:World) : bI prog 53 [.int .i64 x] w fun v _=>v=oL x:=by
 refine aE func53 rfl ntmps53 rfl ?_;have hw:=Ext.refl w;repeat' (first|refine Wz ?_|(refine CW.uA rfl (fun h => ?_) (fun h => ?_))|refine SW.fZ rfl rfl rfl (fun h => ?_) (fun h => ?_))
 ·refine ae.CI rfl rfl rfl rfl ⟨_,rfl,hw,?_⟩;unfold oL dl;rw [if_neg (by omega)]
 ·refine ae.CI rfl rfl rfl rfl ⟨_,rfl,hw,?_⟩;unfold oL dl;rw [if_neg (by omega)]
 ·have hx : 1<=x∧x<=64:=by omega
  refine CW.loop (fun k:Nat=>[(0,.int .i64 x),(5,.int .i64 (k:Int))]) (fun k w'=>k<=2∧Ext w w'∧(1<=k -> ¬ 4<=16 / x)∧(2<=k -> ¬ 4<=32 / x)) (fun k=>2-k) 0 ⟨rfl,rfl,trivial⟩ ⟨by omega,hw,by omega,by omega⟩ ?_;clear hw;rintro k w' ⟨hk,hw,h1,h2⟩
  obtain rfl|rfl|rfl:k=0∨k=1∨k=2:=by omega
  ·refine Wz ?_;refine SW.st (fA (r:=16) rfl rfl (by decide) (by decide) (by decide) (by decide) (by decide)) rfl ?_;repeat' (first|refine Wz ?_|refine SW.fZ rfl rfl rfl (fun h => ?_) (fun h => ?_))
   ·refine ae.CI rfl rfl rfl rfl ⟨_,rfl,hw,?_⟩;unfold oL dl;rw [if_pos (by omega),if_pos (by omega)]
    rfl
   ·exact ae.again 1 ⟨rfl,rfl,trivial⟩ (by omega) ⟨by omega,hw,fun _=>by omega,fun h=>by omega⟩
  ·refine Wz ?_;refine SW.st (fA (r:=32) rfl rfl (by decide) (by decide) (by decide) (by decide) (by decide)) rfl ?_;repeat' (first|refine Wz ?_|refine SW.fZ rfl rfl rfl (fun h => ?_) (fun h => ?_))
   ·refine ae.CI rfl rfl rfl rfl ⟨_,rfl,hw,?_⟩;have:=h1 (by omega)
    unfold oL dl;rw [if_pos (by omega),if_neg (by omega),if_pos (by omega)]
    rfl
   ·exact ae.again 2 ⟨rfl,rfl,trivial⟩ (by omega) ⟨by omega,hw,fun _=>h1 (by omega),fun _=>by omega⟩
  ·refine Wz ?_;refine SW.st (fA (r:=64) rfl rfl (by decide) (by decide) (by decide) (by decide) (by decide)) rfl ?_;have UG:=h1 (by omega);have nc:=h2 (by omega);repeat' (first|refine Wz ?_|refine SW.fZ rfl rfl rfl (fun h => ?_) (fun h => ?_))
   all_goals refine ae.CI rfl rfl rfl rfl ⟨_,rfl,hw,?_⟩
   all_goals unfold oL dl
   all_goals rw [if_pos (by omega),if_neg (by omega),if_neg (by omega)]
   all_goals rfl
variable {most:Int}
def tY (b:Bool) : List Value:=[.bool b]
instance:im tY 1:=⟨fun _=>rfl,fun _ u hu=>by simp [tY] at hu;subst hu;rfl⟩
theorem C4 (A:Option Addr) (n c:Nat) (l:List Int) (x:Int) (w:World) (hl:Sl w 1 bw A n l) (hn:n<=9223372036854775807) :
 bI prog 156 [.slice A n c,.int .i64 x] w fun v _ => ∃ i:Int,v = .int .i64 i∧(0<=i↔x∈l):=by
 refine aE func156 rfl ntmps156 rfl ?_;have hw:=Ext.refl w;have hA:=hl.base;have mv:=hl.len;refine Wz ?_
 refine CW.loop (fun k:Nat=>[(0,.slice A n c),(1,.int .i64 x),(7,.int .i64 (n:Int)),(8,.int .i64 (k:Int))]) (fun k w'=>k<=n∧Ext w w' ∧ ∀ (i:Nat) (h:i<l.length),i<k->l[i]≠x)
  (fun k=>n-k) 0 ⟨rfl,rfl,rfl,rfl,trivial⟩ ⟨by omega,hw,fun i h hi=>by omega⟩ ?_
 clear hw;rintro k w' ⟨hk,hw,hI⟩
 by_cases gh:k<n
 ·repeat' (first|refine Wz ?_|(refine CW.uA rfl (fun h => ?_) (fun h => ?_))|refine Wn hw (hl.one gh rfl) ?_)
  ·refine ae.bj rfl rfl ⟨_,rfl,hw,_,rfl,?_⟩;have hx:x∈l:=by rw [h];exact ac0 _
   simp [hx]
  ·refine ae.again (k+1) ⟨rfl,rfl,rfl,rfl,trivial⟩ (by omega) ⟨by omega,hw,fun i h' hi => ?_⟩;by_cases D0:i=k
   ·subst D0;exact fun e=>h e.symm
   ·exact hI i h' (by omega)
 ·refine Wz ?_;refine ae.bj rfl rfl ⟨_,rfl,hw,_,rfl,?_⟩
  have hx : ¬ x∈l:=fun hm=>by
   obtain ⟨i,hi,e⟩:=ac1 hm;exact hI i hi (by omega) e
  simp [hx]
theorem g7 (A:Option Addr) (n c:Nat) (l:List Int) (x:Int) (w:World) (hl:Sl w 1 bw A n l) (hn:n<=9223372036854775807) :
 bI prog 125 [.slice A n c,.int .i64 x] w fun v _=>v = .bool (decide (x∈l)):=by
 refine aE func125 rfl ntmps125 rfl ?_;have hw:=Ext.refl w;refine Wz ?_;refine Wk (C4 _ _ _ _ _ _ (hl.ext hw) hn) fun v w1 ai hv => ?_
 obtain ⟨i,rfl,hi⟩:=hv;have hw:=hw.trans ai;refine Wz ?_;refine ae.bj rfl rfl ⟨_,rfl,hw,?_⟩;congr 1
 rw [decide_eq_decide];exact hi
inductive fO (l:List Int) (most:Int) : Int->List Int->Option (List Int)->Prop where
 | done (out:List Int) : fO l most (-1) out (some out)
 | bad {x:Int} {out:List Int} (h:x ≠ -1) (hb:most<=out.length ∨ ¬ (0<=x∧x<l.length)∨x∈out) : fO l most x out none
 | step {k:Nat} {out:List Int} {r:Option (List Int)} (h1:out.length<most) (hk:k<l.length) (h3:(k:Int)∉out) (h:fO l most l[k] (out++[(k:Int)]) r) : fO l most k out r
theorem fO.dm {l:List Int} {x:Int} {out:List Int} {r s:Option (List Int)} (h:fO l most x out r) : fO l most x out s->r=s:=by
 induction h with
 | done out=>intro h';generalize hx:(-1:Int)=y at h';cases h' with
   | done=>rfl
   | bad h hb=>exact absurd hx.symm h
   | step h1 hk h3 h=>omega
 | @bad x out h hb=>intro h';cases h' with
   | done=>exact absurd rfl h
   | bad=>rfl
   | @step k _ _ h1 hk h3 h'=>rcases hb with h0|h0|h0<;>first|omega|exact absurd h0 h3
 | @step k out r h1 hk h3 h ih=>intro h';generalize hx:(k:Int)=y at h';cases h' with
   | done=>omega
   | bad h hb=>subst hx;rcases hb with h0|h0|h0<;>first|omega|exact absurd h0 h3
   | @step k' _ _ UG bW h3' h' =>
     have:k=k':=by omega
     subst this;exact ih h'
def vS (n:Nat) (out:List Int) : Nat:=((List.range n).filter fun i:Nat=>decide ((i:Int)∉out)).length
theorem Jk {n:Nat} {out:List Int} (hk:k<n) (h:(k:Int)∉out) : vS n (out++[(k:Int)])<vS n out:=by
 unfold vS
 have e:((List.range n).filter fun i:Nat=>decide ((i:Int)∉out++[(k:Int)]))=((List.range n).filter fun i:Nat=>decide ((i:Int)∉out)).filter fun i:Nat=>decide (i≠k):=by
  rw [List.filter_filter];apply List.filter_congr;intro i _;rw [<- Bool.decide_and,decide_eq_decide];simp only [List.mem_append,List.mem_singleton,not_or];constructor
  ·rintro ⟨h1,h2⟩;exact ⟨fun e=>h2 (by rw [e]),h1⟩
  ·rintro ⟨h1,h2⟩;exact ⟨h2,fun e=>h1 (by omega)⟩
 rw [e];refine List.length_filter_lt_length_iff_exists.2 ⟨k,?_,by simp⟩;simp [hk,h]
end Go.Proofs.YtohigmjjbgpfmaaGreatDoor
