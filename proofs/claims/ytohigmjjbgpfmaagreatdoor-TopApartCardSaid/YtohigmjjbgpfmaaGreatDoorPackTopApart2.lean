/- Part 2 of what topApart_holds leans on. -/
import Derived.Test.YtohigmjjbgpfmaaGreatDoorPackTopApart1
import Derived.Test.YtohigmjjbgpfmaaGreatDoorRows
import Derived.ProofKit
import Derived.LaidMore
import Derived.OpenShut
import Derived.Stop.Joined
import Derived.Lib.ConvBytes
import Derived.Laws.Strings
set_option linter.unusedVariables false
set_option linter.unusedSimpArgs false
set_option linter.defProp false
open Go.Proofs.Tryz
namespace Go.Proofs.YtohigmjjbgpfmaaGreatDoor
variable {α:Type} {a f o:Int} {l:List Block} {i j k m:Nat} {z:ao}
def so (o t:Int) (b:Block) : Bool:=decide (b.Order=o) && decide (b.Ty=t)
theorem LN {t:Int} {b:Block}:so o t b=true↔b.Order=o∧b.Ty=t:=by simp [so]
def Bt (t:Int) : Int:=if t=2 then 0 else 2
def Bu (t:Int) : Int:=if t=1 then 0 else 1
def vc (o:Int) (n:Nat) : Int:=if n<5 then o+n else 4-(((n-5) / 2:Nat) : Int)
def Ow (t:Int) (n:Nat) : Int:=if n<5 then t else if (n-5) % 2=0 then Bt t else Bu t
def lj (l:List Block) (o t:Int) (n:Nat) : Bool:=decide (o<=vc o n∧vc o n<=4) && l.any (so (vc o n) (Ow t n))
theorem yA (h:j<5) : vc o j=o+j:=by unfold vc;rw [if_pos h]
theorem Di:vc o (5+2*j)=4-(j:Int):=by unfold vc;rw [if_neg (by omega)];omega
theorem Dj:vc o (5+2*j+1)=4-(j:Int):=by unfold vc;rw [if_neg (by omega)];omega
theorem GL {t:Int} (h:j<5) : Ow t j=t:=by unfold Ow;rw [if_pos h]
theorem GM {t:Int}:Ow t (5+2*j)=Bt t:=by unfold Ow;rw [if_neg (by omega),if_pos (by omega)]
theorem GN {t:Int}:Ow t (5+2*j+1)=Bu t:=by unfold Ow;rw [if_neg (by omega),if_neg (by omega)]
theorem LO {t:Int} (h:j<5) (ho:o+j<=4) : lj l o t j=l.any (so (o+j) t):=by
 unfold lj;rw [yA h,GL h,decide_eq_true (by omega),ae8]
theorem LP {t:Int} (ho:o<=4-(j:Int)) : lj l o t (5+2*j)=l.any (so (4-(j:Int)) (Bt t)):=by
 unfold lj;rw [Di,GM,decide_eq_true (by omega),ae8]
theorem LQ {t:Int} (ho:o<=4-(j:Int)) : lj l o t (5+2*j+1)=l.any (so (4-(j:Int)) (Bu t)):=by
 unfold lj;rw [Dj,GN,decide_eq_true (by omega),ae8]
theorem Ez {t:Int} {n:Nat} (h : ¬ (o<=vc o n∧vc o n<=4)) : lj l o t n=false:=by
 unfold lj;rw [decide_eq_false h,Bool.false_and]
inductive lC (l:List Block) (o t:Int) : Option (Nat×Bool)->Prop
 | hit {n k:Nat} (hn:n<15) (ht:lj l o t n=true) (hf:∀ m,m<n->lj l o t m=false) (hk:k<l.length) (hp:so (vc o n) (Ow t n) l[k]=true) (hg:∀ (j:Nat) (hj:j<l.length),j<k->so (vc o n) (Ow t n) l[j]=false) : lC l o t (some (k,decide (5<=n)))
 | Ox (hf:∀ m,m<15->lj l o t m=false) : lC l o t none
theorem lC.dq {t:Int} {u v:Option (Nat×Bool)} (a:lC l o t u) (b:lC l o t v) : u=v:=by
 cases a with
 | @hit n k hn ht hf hk hp hg =>
   cases b with
   | @hit n' k' kj rN Gi bW GJ Lk =>
     rcases adO n n' with h|h|h
     ·rw [Gi n h] at ht;cases ht
     ·subst h;rcases adO k k' with h|h|h
      ·rw [Lk k hk h] at hp;cases hp
      ·subst h;rfl
      ·rw [hg k' bW h] at GJ;cases GJ
     ·rw [hf n' h] at rN;cases rN
   | Ox Gi=>rw [Gi n hn] at ht;cases ht
 | Ox hf =>
   cases b with
   | @hit n' k' kj rN Gi bW GJ Lk=>rw [hf n' kj] at rN;cases rN
   | Ox=>rfl
theorem lC.ord {t:Int} {s:Bool} (a:lC l o t (some (k,s))) : ∃ hk:k<l.length,o<=l[k].Order∧l[k].Order<=4:=by
 cases a with
 | hit hn ht hf hk hp hg =>
   refine ⟨hk,?_⟩;unfold lj at ht;rw [adR] at ht;have h1:=of_decide_eq_true ht.1;have h2:=(LN.1 hp).1;omega
def Oy (f to t:Int) (x:Block) : Block:=if f<=x.At∧x.At+pw x.Order<=to then ⟨x.At,x.Order,t⟩ else x
def EA (b:Block) : Int:=if b.Order=4 then b.At+16 else b.At / 8*8+8
def jZ (l:List Block) (b:Block) (t:Int) : List Block:=if b.Order<2 then l else l.map (Oy (b.At / 8*8) (EA b) t)
def vd (z:ao) (b:Block) : Nat:=((b.At-z.aV) / 8).toNat
def kO (z:ao) (b:Block) (t:Int) : List Int:=if b.Order<2 then z.Types else if b.Order=4 then (z.Types.set (vd z b) t).set (vd z b+1) t else z.Types.set (vd z b) t
theorem pq (f to t:Int) (x:Block) : (Oy f to t x).At=x.At∧(Oy f to t x).Order=x.Order:=by
 unfold Oy;split<;>exact ⟨rfl,rfl⟩
theorem GO (l:List Block) (b:Block) (t:Int) : (jZ l b t).length=l.length:=by unfold jZ;split<;>simp
theorem GP {b:Block} {t:Int} (h:sd l) : sd (jZ l b t):=by
 unfold jZ;split
 ·exact h
 ·unfold sd at *;rw [afa];refine h.imp fun {x y} Vx => ?_
  rw [(pq _ _ _ x).1,(pq _ _ _ x).2,(pq _ _ _ y).1];exact Vx
theorem GQ {u:Int} {b:Block} {t:Int} (h:∀ x∈l,ld f u x) (ht:kU t) : ∀ x∈jZ l b t,ld f u x:=by
 unfold jZ;split
 ·exact h
 ·intro x hx;obtain ⟨y,hy,rfl⟩:=adv.1 hx;have hk:=h y hy;unfold ld at *;rw [(pq _ _ _ y).1,(pq _ _ _ y).2];refine ⟨hk.1,?_⟩;unfold Oy;split
  ·exact ht
  ·exact hk.2
def nZ (ty a q:Int) : Block:=⟨a+pw (q-1),q-1,ty⟩
def tS (ty a q:Int) (l:List Block) : List Block:=aN l (bE l (a+pw (q-1))) (nZ ty a q)
def mm (ty a:Int) : Nat->Int->List Block->List Block
 | 0,_,l=>l
 | f+1,q,l=>mm ty a f (q-1) (tS ty a q l)
def xS (z:ao) (t:Int) (st:Bool) (b:Block) : Int:=if st=true∧2<=b.Order then t else b.Ty
def uk (z:ao) (o t:Int) (b:Block) (k:Nat) (st:Bool) : ao :=
 ⟨z.aV,z.To,mm (xS z t st b) b.At (b.Order-o).toNat b.Order ((if st=true then jZ z.aj b t else z.aj).eraseIdx k),if st=true then kO z b t else z.Types⟩
inductive ik (z:ao) (o t:Int) : ao×Int×Int->Prop
 | bad (h:fJ z=false) : ik z o t (.zero,0,8)
 | range (h:fJ z=true) (ho : ¬ (0<=o∧o<=4)) : ik z o t (.zero,0,1)
 | kind (h:fJ z=true) (ho : 0<=o∧o<=4) (ht : ¬ kU t) : ik z o t (.zero,0,2)
 | room (h:fJ z=true) (ho : 0<=o∧o<=4) (ht:kU t) (hp:lC z.aj o t none) : ik z o t (.zero,0,6)
 | ok {k:Nat} {st:Bool} (h:fJ z=true) (ho : 0<=o∧o<=4) (ht:kU t) (hk:k<z.aj.length) (hp:lC z.aj o t (some (k,st))) : ik z o t (uk z o t z.aj[k] k st,z.aj[k].At,0)
theorem ik.dq {t:Int} {u v:ao×Int×Int} (a:ik z o t u) (b:ik z o t v) : u=v:=by
 cases a with
 | bad h=>cases b with
   | bad=>rfl
   | range h'|kind h'|room h'|ok h'=>rw [h] at h';cases h'
 | range h ho=>cases b with
   | bad h'=>rw [h] at h';cases h'
   | range=>rfl
   | kind _ nQ|room _ nQ|ok _ nQ=>exact absurd nQ ho
 | kind h ho ht=>cases b with
   | bad h'=>rw [h] at h';cases h'
   | range _ nQ=>exact absurd ho nQ
   | kind=>rfl
   | room _ _ rN|ok _ _ rN=>exact absurd rN ht
 | room h ho ht hp=>cases b with
   | bad h'=>rw [h] at h';cases h'
   | range _ nQ=>exact absurd ho nQ
   | kind _ _ rN=>exact absurd ht rN
   | room=>rfl
   | ok _ _ _ _ GJ=>cases hp.dq GJ
 | ok h ho ht hk hp=>cases b with
   | bad h'=>rw [h] at h';cases h'
   | range _ nQ=>exact absurd ho nQ
   | kind _ _ rN=>exact absurd ht rN
   | room _ _ _ GJ=>cases hp.dq GJ
   | ok _ _ _ _ GJ=>cases hp.dq GJ;rfl
theorem kB {l:List α} {x y : α}:y∈aN l i x↔y=x∨y∈l:=by
 have e:l=l.take i++l.drop i:=(adh i l).symm
 unfold aN;constructor
 ·intro h;simp only [List.mem_append,List.mem_singleton] at h;rcases h with (h|h)|h
  ·exact .inr (adE h)
  ·exact .inl h
  ·exact .inr (adU h)
 ·intro h;simp only [List.mem_append,List.mem_singleton];rcases h with h|h
  ·exact .inl (.inr h)
  ·rw [e,adm] at h;rcases h with h|h
   ·exact .inl (.inl h)
   ·exact .inr h
theorem Jz {t:Int} {y:Block} (hu:sd l) (hb:∀ b∈l,ld f t b) (hy : 0<=y.Order∧y.Order<=4) (hd:∀ b∈l,b.At+pw b.Order<=y.At∨y.At+pw y.Order<=b.At) : sd (aN l (bE l y.At) y):=by
 have e:l=l.take (bE l y.At)++l.drop (bE l y.At):=(adh _ l).symm
 have h0:=hu;unfold sd at h0;rw [e,adA] at h0;obtain ⟨h1,h2,h3⟩:=h0
 have hA:∀ x∈l.take (bE l y.At),x.At+pw x.Order<=y.At:=fun x hx=>by
  obtain ⟨j,hj,rfl⟩:=ade hx;simp only [List.length_take] at hj;rw [adS];have eX:=pR (l:=l) (a:=y.At) (k:=j) (by omega);have hp:=cQ hy.1 hy.2;rcases hd _ (adb (show j<l.length by omega)) with h|h<;>omega
 have hB:∀ x∈l.drop (bE l y.At),y.At+pw y.Order<=x.At:=fun x hx=>by
  obtain ⟨j,hj,rfl⟩:=ade hx;simp only [List.length_drop] at hj;rw [ad9];have Ly:=Et (l:=l) (a:=y.At) (by omega)
  have hle:(l[bE l y.At]'(by omega)).At<=(l[bE l y.At+j]'(by omega)).At:=by
   rcases adu j with rfl|Oz
   ·exact ae1 _
   ·have:=jK hu (show bE l y.At+j<l.length by omega) (show bE l y.At<bE l y.At+j by omega)
    have:=cQ (hb _ (adb (show bE l y.At<l.length by omega))).1.1 (hb _ (adb (show bE l y.At<l.length by omega))).1.2.1
    omega
  have hm:=adb (show bE l y.At+j<l.length by omega);have:=cQ (hb _ hm).1.1 (hb _ hm).1.2.1
  rcases hd _ hm with h|h<;>omega
 unfold aN sd;rw [adj,adA];refine ⟨h1,?_,fun a ha b iz => ?_⟩
 ·rw [adz,ad8];exact ⟨hB,h2⟩
 ·rw [adz,aee] at iz;rcases iz with rfl|iz
  ·exact hA a ha
  ·exact h3 a ha b iz
theorem EB {t:Int} {q ty:Int} (h:Er f t l a q) (h0 : 0<=f) (ht:t<=256) (QT:t % 16=0) (hq : 1<=q) (zt:kU ty) : Er f t (tS ty a q l) a (q-1)∧(∀ b∈l,b.At≠a+pw (q-1)):=by
 obtain ⟨f1,f2,f3,f4,f5⟩:=h.fit
 have hp:pw q=2*pw (q-1):=by
  have:=qJ (o:=q-1) (by omega) (by omega)
  rwa [aeI] at this
 have hm:a % pw (q-1)=0∧(a+pw (q-1)) % pw (q-1)=0∧1<=pw (q-1)∧a+pw (q-1)<t:=by
  rcases fH f1 f2 with ⟨e1,e2⟩|⟨e1,e2⟩|⟨e1,e2⟩|⟨e1,e2⟩|⟨e1,e2⟩
  all_goals
   rw [e2] at f5 hp
   first
    | omega
    | (have e3:pw (q-1)=1:=by omega
       rw [e3];omega)
    | (have e3:pw (q-1)=2:=by omega
       rw [e3];omega)
    | (have e3:pw (q-1)=4:=by omega
       rw [e3];omega)
    | (have e3:pw (q-1)=8:=by omega
       rw [e3];omega)
 obtain ⟨m1,m2,m3,m4⟩:=hm
 have hd:∀ b∈l,b.At+pw b.Order<=a+pw (q-1)∨a+pw (q-1)+pw (q-1)<=b.At:=fun b hb=>by
  rcases h.NZ b hb with g|g<;>omega
 have bJ:∀ b∈l,b.At≠a+pw (q-1):=fun b hb e=>by
  have:=cQ (h.eM b hb).1.1 (h.eM b hb).1.2.1
  rcases h.NZ b hb with g|g<;>omega
 refine ⟨⟨?_,fun b hb => ?_,⟨by omega,by omega,f3,f4,m1⟩,fun b hb => ?_⟩,bJ⟩
 ·exact Jz (y:=nZ ty a q) h.sd h.eM ⟨by simp only [nZ];omega,by simp only [nZ];omega⟩ hd
 ·rcases kB.1 hb with rfl|hb
  ·exact ⟨⟨by simp only [nZ];omega,by simp only [nZ];omega,by simp only [nZ];omega,m4,m2⟩,zt⟩
  ·exact h.eM b hb
 ·rcases kB.1 hb with rfl|hb
  ·right;simp only [nZ];omega
  ·rcases h.NZ b hb with g|g<;>omega
theorem JA (ty a q:Int) (l:List Block) : (tS ty a q l).length=l.length+1:=by
 have:=Ix l (a+pw (q-1))
 unfold tS aN;simp;omega
theorem BO {t:Int} (hu:sd l) (hb:∀ b∈l,ld f t b) (hk:k<l.length) : Er f t (l.eraseIdx k) l[k].At l[k].Order:=by
 have hs:∀ b∈l.eraseIdx k,b∈l:=fun b h=>adV h
 refine ⟨?_,fun b h=>hb b (hs b h),(hb _ (adb hk)).1,fun b h => ?_⟩
 ·unfold sd at *;exact hu.sublist (ad4 l k)
 ·obtain ⟨j,hj,rfl⟩:=ade h;have hlen:=aes hk;rw [aeS];split
  ·rename_i nk;exact .inl (jK hu hk nk)
  ·rename_i nk;exact .inr (jK hu (by omega) (by omega))
theorem LR {t:Int} (hm : 5+2*j<=m) (ho : 4-(j:Int)<o) : lj l o t m=false :=
 Ez (by unfold vc;rw [if_neg (by omega)];omega)
theorem OA {b:Block} (h2 : 2<=b.Order) (h4:b.Order<=4) (hm:b.At % pw b.Order=0) : b.At / 8*8<=b.At∧b.At+pw b.Order<=EA b:=by
 unfold EA;rcases fH (show 0<=b.Order by omega) h4 with ⟨e1,e2⟩|⟨e1,e2⟩|⟨e1,e2⟩|⟨e1,e2⟩|⟨e1,e2⟩<;>rw [e2] at hm ⊢<;>split<;>omega
def kk (z:ao) (b:Block) (t:Int) (st:Bool) : List Block:=if st=true then jZ z.aj b t else z.aj
theorem ve (hz:bV z) {b:Block} {t:Int} (ht:kU t) (st:Bool) : (kk z b t st).length=z.aj.length∧sd (kk z b t st) ∧ ∀ x∈kk z b t st,ld z.aV z.To x:=by
 have hb:∀ x∈z.aj,ld z.aV z.To x:=fun x hx=>by
  obtain ⟨i,hi,rfl⟩:=ade hx;exact hz.eM i hi
 unfold kk;split
 ·exact ⟨GO _ _ _,GP (pQ hz),GQ hb ht⟩
 ·exact ⟨rfl,pQ hz,hb⟩
theorem wi (hz:bV z) {t:Int} (ht:kU t) (st:Bool) (hk:k<z.aj.length) :
 (kk z z.aj[k] t st)[k]'(by rw [(ve hz ht st).1];exact hk)=⟨z.aj[k].At,z.aj[k].Order,xS z t st z.aj[k]⟩:=by
 obtain ⟨f1,f2,f3,f4,f5⟩:=(hz.eM k hk).1;unfold kk xS;cases st
 ·simp
 ·simp only [if_true,true_and];unfold jZ;by_cases h2:z.aj[k].Order<2
  ·simp only [if_pos h2,if_neg (show ¬ 2<=z.aj[k].Order by omega)]
  ·simp only [if_neg h2,if_pos (show 2<=z.aj[k].Order by omega),aex];unfold Oy;rw [if_pos (OA (by omega) f2 f5)]
open Go.RowKit
variable {y:Operand} {T e t:TypeId} {w w1 w2:World}
section
variable {P:Program} {L:Env} {w:World} {d:Option Nat} {T:TypeId} {pos:String} {af:Array Edge} {g:Option (Nat×Bool)}
theorem qN {len:Nat} [c:y4 P t len e 1] [gV P e] {x:Operand} {vs:List Value} {i:Int} {v:Value} (k:Nat) (hx:cT L x=some (.agg vs.toArray)) (hy:cT L y=some (.int .i64 i)) (hi:i=(k:Int)) (hk:k<len) (hv:vs[k]?=some v) :
 St P ⟨d,.index t x y,T,pos,af,g⟩ L w v :=
 ⟨fun _ a ha w' _=>by
  subst hi;have e1:=ha.eval hx;have e2:=ha.eval hy;generalize a.eval = ρ at *
  simp [execOp,e1,e2,Instr.index,asIntOf,run_underlying c.oz,run_sizeOf c.size,hk,part,tN,hv]⟩
end
theorem LS (o t:Int) (b4 b5:Nat) (x:Block) (w:World) (h4:aS w b4 3 [.int .i64 o]) (h5:aS w b5 3 [.int .i64 t]) :
 bF prog 180 ([.agg (aO x).toArray]++[.pointer (some ⟨b4,0,none⟩),.pointer (some ⟨b5,0,none⟩)]) w fun v _=>v = .bool (so o t x):=by
 refine aC func180 rfl ntmps180 rfl ?_;refine CW.seq (CW.region (SW.box rfl rfl fun b1 w1 hw lp aZ => ?_));obtain ⟨h4,h5⟩:=df hw h4 h5;have Vy:=h4.cell (i:=0) (v := .int .i64 o) rfl;have X1:=h5.cell (i:=0) (v := .int .i64 t) rfl;rw [add_zero] at Vy X1;by_cases h1:x.Order=o
 ·repeat' (first|refine Wz ?_|refine Wl Vy ?_|refine Wl X1 ?_)
  exact ae.bg rfl rfl ⟨_,rfl,hw,by simp [so,h1]⟩
 ·repeat' (first|refine Wz ?_|refine Wl Vy ?_)
  exact ae.bg rfl rfl ⟨_,rfl,hw,by simp [so,h1]⟩
theorem GR (r:ef) (l:List Block) (o t:Int) (w:World) (hl:Sl w 3 aO r.aj.A r.aj.n l) (hn:r.aj.n<=9223372036854775807) :
 bF prog 169 [.agg (dt r).toArray,.int .i64 o,.int .i64 t] w fun v _=>v = .int .i64 (idxOf (so o t) l):=by
 refine aC func169 rfl ntmps169 rfl ?_;refine CW.seq (CW.region (SW.box rfl rfl fun b3 w1 hw cg aq => ?_));refine SW.LD rfl rfl rfl fun b4 w2 bt fP aI => ?_
 (obtain ⟨hw,aq⟩:=df bt hw aq);refine SW.LD rfl rfl rfl fun b5 w3 nT gx aM => ?_
 (obtain ⟨hw,aq,aI⟩:=cn nT hw aq aI);repeat' (first|refine Wz ?_|(refine SW.st (iK (vs:=[.pointer (some ⟨b4,0,none⟩),.pointer (some ⟨b5,0,none⟩)]) rfl) rfl ?_))
 refine Wk (nU _ _ _ _ _ (hl.ext hw) _ [.pointer (some ⟨b4,0,none⟩),.pointer (some ⟨b5,0,none⟩)] (so o t) (fun x => .agg (aO x).toArray) (fun x=>rfl) (fun x hx w1 kW=>LS o t b4 b5 x w1 (aI.ext kW) (aM.ext kW)) hn) fun v w4 kz hv => ?_
 subst hv;have hw:=hw.trans kz;refine Wz ?_;exact ae.bg rfl rfl ⟨_,rfl,hw,rfl⟩
structure pW (T:TypeId) (w w':World) : Prop where
 out:∀ b cs,aS w b T cs->aS w' b T cs
theorem pW.refl (T:TypeId) (w:World) : pW T w w:=⟨fun _ _ h=>h⟩
theorem pW.ext (h:pW T w w1) (hx:Ext w1 w2) : pW T w w2:=⟨fun b cs hb=>(h.out b cs hb).ext hx⟩
theorem pW.aK (h:pW T w w1) (hG:rL w1 w2 t) (bJ:Nat.beq t T=false) : pW T w w2:=⟨fun b cs hb=>(h.out b cs hb).aK hG bJ⟩
def JB (T:List Int) (i:Nat) (t:Int) (c:Nat) : List Int:=if c=0 then T else if c<=8 then T.set i t else (T.set i t).set (i+1) t
theorem JC {T:List Int} {t:Int} {c:Nat} (hc:c<16) : (JB T i t c).set (i+c / 8) t=JB T i t (c+1):=by
 unfold JB;rcases (show c=0∨(1<=c∧c<8)∨c=8∨(8<c∧c<16) by omega) with rfl|h|rfl|h
 ·simp
 ·have e:c / 8=0:=by omega
  rw [if_neg (by omega),if_pos (by omega),if_neg (by omega),if_pos (by omega),e,aeW,aeE]
 ·simp
 ·have e:c / 8=1:=by omega
  rw [if_neg (by omega),if_neg (by omega),if_neg (by omega),if_neg (by omega),e,aeE]
def n5 (f : α -> α) (l:List α) (j:Nat) : List α := (l.take j).map f++l.drop j
theorem wj {f : α -> α} {l:List α}:(n5 f l j).length=l.length:=by simp [n5];omega
theorem BP {f : α -> α} {l:List α} (hj:j<l.length) : (n5 f l j)[j]'(by rw [wj];exact hj)=l[j]:=by
 have e:(n5 f l j)[j]?=l[j]?:=by
  unfold n5;rw [adX (by simp;omega)];have:j-((l.take j).map f).length=0:=by simp;omega
  rw [this,aeJ];simp
 rw [adi (by rw [wj];exact hj),adi hj] at e;exact Option.some.inj e
theorem BQ {f : α -> α} {l:List α} (hj:j<l.length) : (n5 f l j).set j (f l[j])=n5 f l (j+1):=by
 unfold n5;rw [aec _ _ (by simp;omega)];have:j-((l.take j).map f).length=0:=by simp;omega
 rw [this,adk hj,adG,afd hj,List.set_cons_zero];simp
theorem GS {f : α -> α} {l:List α} (hj:j<l.length) (hf:f l[j]=l[j]) : n5 f l (j+1)=n5 f l j:=by
 rw [<- BQ hj,hf];have:=BP (f:=f) hj
 rw [<- this];exact adW (by rw [wj];exact hj)
theorem GU {f : α -> α} {l:List α}:n5 f l 0=l:=by simp [n5]
theorem JD {f : α -> α} {l:List α}:n5 f l l.length=l.map f:=by simp [n5]
theorem LU (hf:f % 16=0) (N1:f<=a) (h2 : 2<=o) (h4:o<=4) (hm:a % pw o=0) {c:Nat} (hc:(c:Int)<pw o) : (a+c-f) / 8=((((a-f) / 8).toNat+c / 8:Nat) : Int):=by
 rcases fH (show 0<=o by omega) h4 with ⟨e1,e2⟩|⟨e1,e2⟩|⟨e1,e2⟩|⟨e1,e2⟩|⟨e1,e2⟩<;>rw [e2] at hm hc<;>omega
theorem LV {b:Block} (h2 : 2<=b.Order) (h4:b.Order<=4) (hm:b.At % pw b.Order=0) : max (b.At+pw b.Order) (b.At / 8*8+8)=EA b:=by
 unfold EA;rcases fH (show 0<=b.Order by omega) h4 with ⟨e1,e2⟩|⟨e1,e2⟩|⟨e1,e2⟩|⟨e1,e2⟩|⟨e1,e2⟩<;>rw [e2] at hm ⊢<;>split<;>omega
structure LW (base w:World) (r:ef) (z:ao) (b:Block) (t:Int) (w':World) : Prop where
 ext:Ext base w'
 jT:pW 117 w w'
 free:Own w' base.heap.size 147 3 aO r.aj.A r.aj.n r.aj.c (jZ z.aj b t)
 types:Own w' base.heap.size 3 1 bw r.Types.A r.Types.n r.Types.c (kO z b t)
set_option maxHeartbeats 2000000 in
theorem BR (r:ef) (z:ao) (k:Nat) (t:Int) (base w:World) (hB:Ext base w) (hX:Own w base.heap.size 147 3 aO r.aj.A r.aj.n r.aj.c z.aj) (hT:Own w base.heap.size 3 1 bw r.Types.A r.Types.n r.Types.c z.Types)
 (eF:r.aV=z.aV) (hz:bV z) (hk:k<z.aj.length) (hn:r.aj.n<=1000000000000000000) :
 iO prog 170 [.agg (dt r).toArray,.int .i64 (k:Int),.int .i64 t] w fun _ w'=>LW base w r z z.aj[k] t w':=by
 refine dl func170 rfl ntmps170 rfl ?_;obtain ⟨f1,f2,f3,f4,f5⟩:=(hz.eM k hk).1;obtain ⟨o1,o2,o3,o4,o5⟩:=hz.ok;have hlen:=hz.len;have On:=hX.len;have S0:=hT.len;have hA:=hX.sl.base;have hAT:=hT.sl.base;have gp:k<r.aj.n:=by omega
 refine CW.seq (CW.region (SW.box rfl rfl fun b3 w1 ai cg aq => ?_));have hw:=hB.trans ai;have hK:pW 117 w w1:=(pW.refl _ w).ext ai
 obtain ⟨hX,hT⟩:=df ai hX hT;have gd:base.heap.size<=b3:=adf hB.size cg
 clear ai cg;obtain ⟨x,hx⟩ : ∃ x,z.aj[k]=x:=⟨_,rfl⟩;rw [hx] at f1 f2 f3 f4 f5 ⊢;have hg:=hX.sl.all gp;simp only [hx] at hg;repeat' (first|refine Wz ?_|refine Wm hg ?_)
 refine SW.alloc rfl fun b6 w1 ai UR ar => ?_
 have Vz:=hw.up UR
 have VA:aJ r.aj.A r.aj.c≠some b6:=fun e=>by have:=hX.lt_size _ e;omega
 obtain ⟨hw,aq,hX,hT,hK⟩:=fD ai hw aq hX hT hK;skip;refine SW.ag ar rfl rfl rfl rfl (iy.one (enc:=aO) x) fun w2 bQ hg => ?_
 have hG:=ar.gr hg;have hw:=hw.own Vz hg;have hX:=hX.grown hg (.inr VA);(obtain ⟨aq,hT,hK⟩:=cn hG aq hT hK);have ar:=bQ;clear bQ hg hG ai UR;by_cases h2:x.Order<2
 ·refine Wz ?_;exact ae.QS rfl ⟨_,rfl,hw,hK,by rw [jZ,if_pos h2];exact hX,by rw [kO,if_pos h2];exact hT⟩
 ·refine Wz ?_;have hp:=cQ f1 f2;have Sk:∀ c:Nat,(c:Int)<pw x.Order->(x.At+c-z.aV) / 8=((vd z x+c / 8:Nat) : Int):=fun c hc=>LU o4 f3 (by omega) f2 f5 hc
  have cE:∀ w',bF prog 133 [.agg (aO x).toArray] w' fun v _=>v = .int .i64 (x.At+pw x.Order):=fun w'=>pP x w' ⟨f1,f2⟩ ⟨by omega,by omega⟩
  refine CW.loop (fun c:Nat=>[(2,.int .i64 t),(3,.pointer (some ⟨b3,0,none⟩)),(6,.pointer (some ⟨b6,0,none⟩)),(7,.int .i64 (x.At+(c:Int)))])
   (fun c w'=>(c:Int)<=pw x.Order∧Ext base w'∧pW 117 w w'∧aS w' b3 117 (dt r)∧aS w' b6 147 (aO x)∧Own w' base.heap.size 147 3 aO r.aj.A r.aj.n r.aj.c z.aj∧Own w' base.heap.size 3 1 bw r.Types.A r.Types.n r.Types.c (JB z.Types (vd z x) t c))
   (fun c=>(pw x.Order).toNat-c) 0 ⟨rfl,rfl,rfl,congrArg (fun z=>some (Value.int .i64 z)) (by omega),trivial⟩ ⟨by omega,hw,hK,aq,ar,hX,hT⟩ ?_
  clear hw hK aq ar hX hT;rintro c w' ⟨hc,hw,hK,aq,ar,hX,hT⟩
  by_cases pL:(c:Int)<pw x.Order
  ·have hgc:=Sk c pL
   have cy:vd z x+c / 8<r.Types.n:=by
    have:x.At+c<z.To:=by
     rcases fH f1 f2 with ⟨e1,e2⟩|⟨e1,e2⟩|⟨e1,e2⟩|⟨e1,e2⟩|⟨e1,e2⟩<;>rw [e2] at f5 pL<;>omega
    omega
   have VB:c<16:=by omega
   repeat' (first|refine Wz ?_|refine SW.st (cf (vd z x+c / 8) rfl rfl (by assumption) (by omega) (by omega)) rfl ?_|(refine Wk (cE _) ?_;intro v w1 ai hv;subst hv;obtain ⟨hw,aq,ar,hX,hT,hK⟩:=gw ai hw aq ar hX hT hK;clear ai))
   refine SW.qF (vd z x+c / 8) hT rfl rfl cy fun w5 Sm hg => ?_
   have hG:=hT.gr hg;have hw:=aD hw hg (adg _) hT.a9;(obtain ⟨aq,ar,hX,hK⟩:=dv hG aq ar hX hK);rw [JC VB] at Sm;refine Wz ?_;exact ae.again (c+1) ⟨rfl,rfl,rfl,congrArg (fun z=>some (Value.int .i64 z)) (by omega),trivial⟩ (by omega) ⟨by omega,hw,hK,aq,ar,hX,Sm⟩
  ·have hce:(c:Int)=pw x.Order:=by omega
   have zt:JB z.Types (vd z x) t c=kO z x t:=by
    unfold JB kO;rcases fH f1 f2 with ⟨e1,e2⟩|⟨e1,e2⟩|⟨e1,e2⟩|⟨e1,e2⟩|⟨e1,e2⟩
    ·omega
    ·omega
    ·rw [if_neg (by omega),if_pos (by omega),if_neg (by omega),if_neg (by omega)]
    ·rw [if_neg (by omega),if_pos (by omega),if_neg (by omega),if_neg (by omega)]
    ·rw [if_neg (by omega),if_neg (by omega),if_neg (by omega),if_pos (by omega)]
   rw [zt] at hT;have D9:=LV (b:=x) (by omega) f2 f5;repeat' (first|refine Wz ?_|(refine Wk (cE _) ?_;intro v w1 ai hv;subst hv;obtain ⟨hw,aq,ar,hX,hT,hK⟩:=gw ai hw aq ar hX hT hK;clear ai)|(refine SW.st ((C8 rfl rfl).eq (congrArg (Value.int .i64) D9)) rfl ?_))
   clear ar cE Sk;obtain ⟨f,hf⟩ : ∃ f,Oy (x.At / 8*8) (EA x) t=f:=⟨_,rfl⟩
   refine CW.loop (fun j:Nat=>[(2,.int .i64 t),(3,.pointer (some ⟨b3,0,none⟩)),(8,.int .i64 (x.At / 8*8)),(9,.int .i64 (EA x)),(47,.slice r.aj.A r.aj.n r.aj.c),(48,.int .i64 (r.aj.n:Int)),(49,.int .i64 (j:Int))])
    (fun j w'=>j<=r.aj.n∧Ext base w'∧pW 117 w w'∧aS w' b3 117 (dt r)∧Own w' base.heap.size 147 3 aO r.aj.A r.aj.n r.aj.c (n5 f z.aj j)∧Own w' base.heap.size 3 1 bw r.Types.A r.Types.n r.Types.c (kO z x t))
    (fun j=>r.aj.n-j) 0 ⟨rfl,rfl,rfl,rfl,rfl,rfl,rfl,trivial⟩ ⟨by omega,hw,hK,aq,by rw [GU];exact hX,hT⟩ ?_
   clear hw hK aq hX hT;rintro j w' ⟨hj,hw,hK,aq,hX,hT⟩
   by_cases pO:j<r.aj.n
   ·have rK:j<z.aj.length:=by omega
    obtain ⟨g1,g2,g3,g4,g5⟩:=(hz.eM j rK).1;obtain ⟨y,hy⟩ : ∃ y,z.aj[j]=y:=⟨_,rfl⟩;have iB:=BP (f:=f) rK;rw [hy] at g1 g2 g3 g4 g5 iB;have fk:=hX.sl.all pO;simp only [iB] at fk;have hpy:=cQ g1 g2;have cY:∀ w',bF prog 133 [.agg (aO y).toArray] w' fun v _=>v = .int .i64 (y.At+pw y.Order):=fun w'=>pP y w' ⟨g1,g2⟩ ⟨by omega,by omega⟩
    repeat' (first|refine Wz ?_|refine Wm fk ?_)
    refine SW.alloc rfl fun OB w1 ai hb g9 => ?_
    have D6:=hw.up hb
    have bJ:aJ r.aj.A r.aj.c≠some OB:=fun e=>by have:=hX.lt_size _ e;omega
    obtain ⟨hw,aq,hX,hT,hK⟩:=fD ai hw aq hX hT hK;refine Wz ?_;refine SW.ag g9 rfl rfl rfl rfl (iy.one (enc:=aO) y) fun w2 oN hg => ?_
    have hG:=g9.gr hg;have hw:=hw.own D6 hg;have hX:=hX.grown hg (.inr bJ);(obtain ⟨aq,hT,hK⟩:=cn hG aq hT hK);have g9:=oN;clear oN hg hG ai hb;by_cases PQ:x.At / 8*8<=y.At∧y.At+pw y.Order<=EA x
    ·have VC:f y=⟨y.At,y.Order,t⟩:=by rw [<- hf];unfold Oy;rw [if_pos PQ]
     repeat' (first|refine Wz ?_|(refine Wk (cY _) ?_;intro v w1 ai hv;subst hv;obtain ⟨hw,aq,g9,hX,hT,hK⟩:=gw ai hw aq g9 hX hT hK;clear ai))
     refine SW.gZ j 2 ⟨y.At,y.Order,t⟩ hX rfl rfl rfl pO (by decide) rfl (by rw [iB];rfl) fun w5 Dg hg => ?_
     have hG:=hX.gr hg;have hw:=aD hw hg (adg _) hX.a9;(obtain ⟨aq,hT,hK⟩:=cn hG aq hT hK);rw [<- VC,<- hy,BQ rK] at Dg;refine Wz ?_;exact ae.again (j+1) ⟨rfl,rfl,rfl,rfl,rfl,rfl,rfl,trivial⟩ (by omega) ⟨by omega,hw,hK,aq,Dg,hT⟩
    ·have VC:f y=y:=by rw [<- hf];unfold Oy;rw [if_neg PQ]
     have VD:=GS (f:=f) rK (by rw [hy];exact VC);by_cases BS:x.At / 8*8<=y.At
     all_goals
      repeat' (first|refine Wz ?_|(refine Wk (cY _) ?_;intro v w1 ai hv;subst hv;obtain ⟨hw,aq,g9,hX,hT,hK⟩:=gw ai hw aq g9 hX hT hK;clear ai))
      exact ae.again (j+1) ⟨rfl,rfl,rfl,rfl,rfl,rfl,rfl,trivial⟩ (by omega) ⟨by omega,hw,hK,aq,by rw [VD];exact hX,hT⟩
   ·obtain rfl:j=r.aj.n:=by omega
    refine Wz ?_;rw [<- On,JD,On,<- hf] at hX;exact ae.pV rfl ⟨_,rfl,hw,hK,by rw [jZ,if_neg h2];exact hX,hT⟩
variable {b lo:Nat} {A:Option Addr} {w':World} {p:α -> Bool}
structure mN (w:World) : Prop where
 row:∀ (k:Nat),k<3 -> ∀ (j:Nat) (v:Value),[Value.int .i64 (Bt (k:Int)),Value.int .i64 (Bu (k:Int))][j]?=some v->w.cell? (((⟨1,0,none⟩ : Addr).add (k*2)).add j)=some v
theorem mN.ext (h:mN w) (hx:Ext w w') : mN w':=⟨fun k hk j v hv=>hx.cell (h.row k hk j v hv)⟩
def qO (lo:Nat) (u:ao×Int×Int) (v:Value) (w:World) : Prop := ∃ s,v = .tuple #[.agg (dt s).toArray,.int .i64 u.2.1,.int .i64 u.2.2]∧iH w lo s u.1
theorem qO.zero (e:Int) (lo:Nat) (w:World) : qO lo (.zero,0,e) (.tuple #[.agg (dt .zero).toArray,.int .i64 0,.int .i64 e]) w:=⟨.zero,rfl,iH.zero _ _⟩
theorem Dk {l:List α} (h:l.any p=true) : ∃ (k:Nat) (hk:k<l.length),p l[k]=true∧(∀ (j:Nat) (hj:j<l.length),j<k->p l[j]=false)∧idxOf p l=(k:Int):=by
 have h1:l.findIdx p<l.length:=List.findIdx_lt_length_of_exists (by simpa using h)
 exact ⟨l.findIdx p,h1,List.findIdx_getElem (w:=h1),fun j hj ja=>by simpa using List.not_of_lt_findIdx ja,by unfold idxOf;rw [if_pos h]⟩
theorem zy {l:List α} (h:l.any p=false) : idxOf p l = -1:=by unfold idxOf;rw [h];rfl
theorem Own.QU {n c:Nat} {x:Block} (h:Own w lo 147 3 aO A n c l) (hB:aS w b 147 (aO x)) (hn : 0<n) (hx:∀ y∈l,y.At≠x.At) : aJ A c≠some b:=by
 rcases h.row with ⟨h0,_⟩|⟨hc,g,jV,rfl,h1,h2,h3,h4,h5,h6⟩
 ·omega
 ·intro e;simp only [aJ,Nat.pos_iff_ne_zero.1 hc,if_false,Option.map_some,Option.some.injEq] at e;subst e;unfold aS at hB;rw [h2] at hB;injection hB with hB
  injection hB with VE _ _
  subst VE;have BS:c=1:=by simp [aO] at h5;omega
  have Jp:n=1:=by omega
  have hl:=h.len;rw [Jp] at hl;obtain ⟨y,rfl⟩:=List.length_eq_one_iff.1 hl;rw [Jp] at h6;simp [aO] at h6;exact hx y (by simp) h6.1.symm
set_option maxHeartbeats 8000000 in
theorem LX (r:ef) (z:ao) (o t:Int) (w:World) (hr:Gx w r z) (hf:(r.aj.n+1)*24<=140737488355328) (ht:r.Types.n*8<=140737488355328) (h1 : -9223372036854775808<=r.aV∧r.aV<=9223372036854775807) (h2 : -9223372036854775808<=r.To∧r.To<=9223372036854775807) (hO:mN w) :
 bF prog 151 [.agg (dt r).toArray,.int .i64 o,.int .i64 t] w fun v w' => ∃ u,ik z o t u∧qO w.heap.size u v w':=by
 refine aC func151 rfl ntmps151 rfl ?_;refine CW.seq (CW.region (SW.box rfl rfl fun b3 w1 hw cg aq => ?_));refine SW.alloc rfl fun b6 w2 bt dw ar => ?_
 have cS:=hw.up dw
 have oL:b3≠b6:=by have:=aq.lt;omega
 (obtain ⟨hw,aq⟩:=df bt hw aq);have eF:=hr.from_;have eT:=hr.pj;have On:=hr.free.len;have S0:=hr.types.len;obtain ⟨q,hq⟩ : ∃ q,fJ z=q:=⟨_,rfl⟩
 have c1:∀ w',Ext w w'->bF prog 80 [.agg (dt r).toArray] w' fun v _=>v = .int .i64 (if q then 0 else 8):=fun w' h=>by
  have:=kV r z w' (hr.ext h) (by omega) (by omega) h1 h2
  rwa [hq] at this
 cases q
 ·simp only [Bool.false_eq_true,if_false] at c1;repeat' (first|refine Wz ?_|(refine Wk (c1 _ hw) ?_;intro v w1 ai hv;subst hv;obtain ⟨hw,aq,ar⟩:=cn ai hw aq ar;clear ai))
  skip;refine SW.ag ar rfl rfl rfl rfl (fK .zero) fun w5 cX hg => ?_
  have hw:=hw.own cS hg;refine Wz ?_;exact ae.fg rfl rfl rfl rfl cX rfl ⟨_,rfl,hw,_,.bad hq,qO.zero 8 _ _⟩
 ·simp only [if_true] at c1;have hz:=fq.1 hq;obtain ⟨o1,o2,o3,o4,o5⟩:=hz.ok;by_cases ho : 0<=o∧o<=4
  ·by_cases zt:kU t
   ·have GA:=zt;unfold kU at GA;repeat' (first|refine Wz ?_|(refine Wk (c1 _ hw) ?_;intro v w1 ai hv;subst hv;obtain ⟨hw,aq,ar⟩:=cn ai hw aq ar;clear ai))
    refine Wk (sZ r z _ (hr.ext hw) (by omega) ht) fun v w4 kz hv => ?_
    obtain ⟨s,rfl,hs,e1,e2⟩:=hv;have hs:=hs.low hw.size;(obtain ⟨hw,aq,ar⟩:=cn kz hw aq ar);clear c1;skip;refine SW.ag aq rfl rfl rfl rfl (fK s) fun w5 ed hg => ?_
    have hG:=aq.gr hg;have hw:=hw.own cg hg;have hX:=hs.free.aK hG rfl;have hT:=hs.types.aK hG rfl;have ar:=ar.grown hg (by simpa using oL.symm);have aq:=ed;have es:s.aj.n=z.aj.length:=by rw [e1,On]
    have sF:=hs.from_;have sT:=hs.pj;clear ed hg hG hs;have cL:∀ p u w',Sl w' 3 aO s.aj.A s.aj.n z.aj->bF prog 169 [.agg (dt s).toArray,.int .i64 p,.int .i64 u] w' fun v _=>v = .int .i64 (idxOf (so p u) z.aj):=fun p u w' h=>GR s z.aj p u w' h (by omega)
    refine Wz ?_
    obtain ⟨K,hK⟩ : ∃ K:Env->World->Prop,K=fun L' w' => ∃ i:Int,iw L' [(1,.int .i64 o),(2,.int .i64 t),(3,.pointer (some ⟨b3,0,none⟩)),(6,.pointer (some ⟨b6,0,none⟩)),(10,.int .i64 i)]∧Ext w w'∧aS w' b3 117 (dt s)∧aS w' b6 117 (dt .zero) ∧
     Own w' w.heap.size 147 3 aO s.aj.A s.aj.n s.aj.c z.aj∧Own w' w.heap.size 3 1 bw s.Types.A s.Types.n s.Types.c z.Types∧((i = -1 ∧ ∀ m,m<5->lj z.aj o t m=false) ∨ ∃ k:Nat,i=(k:Int)∧lC z.aj o t (some (k,false))):=⟨_,rfl⟩
    refine CW.LI K ?_ ?_
    ·refine CW.loop (fun u:Nat×Int=>[(1,.int .i64 o),(2,.int .i64 t),(3,.pointer (some ⟨b3,0,none⟩)),(6,.pointer (some ⟨b6,0,none⟩)),(10,.int .i64 u.2),(11,.int .i64 (o+(u.1:Int)))])
      (fun u w'=>Ext w w'∧aS w' b3 117 (dt s)∧aS w' b6 117 (dt .zero)∧Own w' w.heap.size 147 3 aO s.aj.A s.aj.n s.aj.c z.aj∧Own w' w.heap.size 3 1 bw s.Types.A s.Types.n s.Types.c z.Types ∧
        ((u.2 = -1∧(u.1:Int)<=5-o ∧ ∀ m,m<u.1->lj z.aj o t m=false) ∨ ∃ k:Nat,u.2=(k:Int)∧lC z.aj o t (some (k,false)))) (fun u=>if u.2<0 then 7-u.1 else 0) (0,-1)
      ⟨rfl,rfl,rfl,rfl,rfl,congrArg (fun z=>some (Value.int .i64 z)) (by simp),trivial⟩ ⟨hw,aq,ar,hX,hT,.inl ⟨rfl,by simp only;omega,fun m h=>by simp only at h;omega⟩⟩ ?_
     clear hw aq ar hX hT;rintro ⟨j,i⟩ w' ⟨hw,aq,ar,hX,hT,hI⟩
     simp only at hI ⊢;rcases hI with ⟨rfl,hj,hI⟩|⟨k,rfl,hP⟩
     ·by_cases hp:o+(j:Int)<=4
      ·have QV:j<5:=by omega
       have D9:=LO (l:=z.aj) (o:=o) (t:=t) QV hp;cases gQ:z.aj.any (so (o+(j:Int)) t)
       ·have c2:=cL (o+(j:Int)) t;rw [zy gQ] at c2;repeat' (first|refine Wz ?_|(refine Wk (c2 _ hX.sl) ?_;intro v w1 ai hv;subst hv;obtain ⟨hw,aq,ar,hX,hT⟩:=fD ai hw aq ar hX hT;clear ai))
        refine ae.again (j+1,-1) ⟨rfl,rfl,rfl,rfl,rfl,congrArg (fun z=>some (Value.int .i64 z)) (by simp only;omega),trivial⟩ (by simp only;(repeat' split)<;>omega) ⟨hw,aq,ar,hX,hT,.inl ⟨rfl,by simp only;omega,fun m h => ?_⟩⟩;simp only at h;by_cases e:m=j
        ·subst e;rw [D9,gQ]
        ·exact hI m (by omega)
       ·obtain ⟨k,hk,Ta,BM,rU⟩:=Dk gQ;have c2:=cL (o+(j:Int)) t;rw [rU] at c2;repeat' (first|refine Wz ?_|(refine Wk (c2 _ hX.sl) ?_;intro v w1 ai hv;subst hv;obtain ⟨hw,aq,ar,hX,hT⟩:=fD ai hw aq ar hX hT;clear ai))
        have hP:lC z.aj o t (some (k,false)):=by
         have:=lC.hit (l:=z.aj) (o:=o) (t:=t) (n:=j) (k:=k) (by omega) (by rw [D9,gQ]) hI hk (by rw [yA QV,GL QV];exact Ta) (by rw [yA QV,GL QV];exact BM)
         rwa [decide_eq_false (by omega)] at this
        exact ae.again (j+1,(k:Int)) ⟨rfl,rfl,rfl,rfl,rfl,congrArg (fun z=>some (Value.int .i64 z)) (by simp only;omega),trivial⟩ (by simp only;(repeat' split)<;>omega) ⟨hw,aq,ar,hX,hT,.inr ⟨k,rfl,hP⟩⟩
      ·refine Wz ?_
       have VF:∀ m,m<5->lj z.aj o t m=false:=fun m hm=>by
        by_cases e:m<j
        ·exact hI m e
        ·exact Ez (by rw [yA hm];omega)
       exact ae.mj (K:=K) (by rw [hK];exact ⟨-1,⟨rfl,rfl,rfl,rfl,rfl,trivial⟩,hw,aq,ar,hX,hT,.inl ⟨rfl,VF⟩⟩)
     ·refine Wz ?_;exact ae.mj (K:=K) (by rw [hK];exact ⟨(k:Int),⟨rfl,rfl,rfl,rfl,rfl,trivial⟩,hw,aq,ar,hX,hT,.inr ⟨k,rfl,hP⟩⟩)
    ·clear hw aq ar hX hT;subst hK;rintro L' w' ⟨i0,jA,hw,aq,ar,hX,hT,PR⟩
     refine ae.sub jA ?_;clear jA;obtain ⟨kt,X3⟩ : ∃ kt:Nat,t=(kt:Int):=⟨t.toNat,by omega⟩;have Tb:kt<3:=by omega
     have gm:=hO.row kt Tb;rw [<- X3] at gm;refine Wz ?_
     obtain ⟨K,hK⟩ : ∃ K:Env->World->Prop,K=fun L' w' => ∃ (i:Int) (F:List Block) (T:List Int),iw L' [(1,.int .i64 o),(2,.int .i64 t),(3,.pointer (some ⟨b3,0,none⟩)),(6,.pointer (some ⟨b6,0,none⟩)),(10,.int .i64 i)]∧Ext w w'∧aS w' b3 117 (dt s)∧aS w' b6 117 (dt .zero) ∧
      Own w' w.heap.size 147 3 aO s.aj.A s.aj.n s.aj.c F∧Own w' w.heap.size 3 1 bw s.Types.A s.Types.n s.Types.c T∧((i = -1 ∧ ∀ m,m<15->lj z.aj o t m=false) ∨ ∃ (k:Nat) (st:Bool) (hk:k<z.aj.length),i=(k:Int)∧lC z.aj o t (some (k,st))∧F=kk z z.aj[k] t st∧T=if st=true then kO z z.aj[k] t else z.Types):=⟨_,rfl⟩
     refine CW.LI K ?_ ?_
     ·refine CW.loop (fun u:Nat×Int×List Block×List Int=>[(1,.int .i64 o),(2,.int .i64 t),(3,.pointer (some ⟨b3,0,none⟩)),(6,.pointer (some ⟨b6,0,none⟩)),(10,.int .i64 u.2.1),(12,.int .i64 (4-(u.1:Int)))])
       (fun u w'=>Ext w w'∧aS w' b3 117 (dt s)∧aS w' b6 117 (dt .zero)∧Own w' w.heap.size 147 3 aO s.aj.A s.aj.n s.aj.c u.2.2.1∧Own w' w.heap.size 3 1 bw s.Types.A s.Types.n s.Types.c u.2.2.2 ∧
         ((u.2.1 = -1∧(u.1:Int)<=5-o∧(∀ m,m<5+2*u.1->lj z.aj o t m=false)∧u.2.2.1=z.aj∧u.2.2.2=z.Types) ∨ ∃ (k:Nat) (st:Bool) (hk:k<z.aj.length),u.2.1=(k:Int)∧lC z.aj o t (some (k,st))∧u.2.2.1=kk z z.aj[k] t st∧u.2.2.2=if st=true then kO z z.aj[k] t else z.Types)) (fun u=>if u.2.1<0 then 7-u.1 else 0) (0,i0,z.aj,z.Types)
       ⟨rfl,rfl,rfl,rfl,rfl,rfl,trivial⟩ ⟨hw,aq,ar,hX,hT,?_⟩ ?_
      ·rcases PR with ⟨rfl,PR⟩|⟨k,rfl,hP⟩
       ·exact .inl ⟨rfl,by simp only;omega,fun m h=>PR m (by simp only at h;omega),rfl,rfl⟩
       ·obtain ⟨hk,_⟩:=hP.ord;exact .inr ⟨k,false,hk,rfl,hP,rfl,rfl⟩
      clear hw aq ar hX hT PR;rintro ⟨j,i,F,T⟩ w' ⟨hw,aq,ar,hX,hT,hI⟩
      simp only at hX hT hI ⊢;rcases hI with ⟨rfl,hj,hI,rfl,rfl⟩|⟨k,st,hk,rfl,hP,hF,US⟩
      ·by_cases hp:o<=4-(j:Int)
       ·have VG:=LP (l:=z.aj) (t:=t) hp;have Tc:=LQ (l:=z.aj) (t:=t) hp;repeat' (first|refine Wz ?_|refine Wo hw gm ?_|(refine SW.st (sn kt rfl rfl X3 Tb) rfl ?_))
        refine CW.loop (fun v:Nat=>[(1,.int .i64 o),(2,.int .i64 t),(3,.pointer (some ⟨b3,0,none⟩)),(6,.pointer (some ⟨b6,0,none⟩)),(10,.int .i64 (-1)),(12,.int .i64 (4-(j:Int))),(65,.agg [Value.int .i64 (Bt t),Value.int .i64 (Bu t)].toArray),(66,.int .i64 (v:Int))])
         (fun v w'=>v<=2∧Ext w w'∧aS w' b3 117 (dt s)∧aS w' b6 117 (dt .zero)∧Own w' w.heap.size 147 3 aO s.aj.A s.aj.n s.aj.c z.aj∧Own w' w.heap.size 3 1 bw s.Types.A s.Types.n s.Types.c z.Types ∧ ∀ m,m<5+2*j+v->lj z.aj o t m=false)
         (fun v=>2-v) 0 ⟨rfl,rfl,rfl,rfl,rfl,rfl,rfl,rfl,trivial⟩ ⟨by omega,hw,aq,ar,hX,hT,hI⟩ ?_
        clear hw aq ar hX hT hI;rintro v w' ⟨VH,hw,aq,ar,hX,hT,hI⟩
        rcases (show v=0∨v=1∨v=2 by omega) with rfl|rfl|rfl
        ·cases gQ:z.aj.any (so (4-(j:Int)) (Bt t))
         ·have c2:=cL (4-(j:Int)) (Bt t);rw [zy gQ] at c2;repeat' (first|refine Wz ?_|(refine Wk (c2 _ hX.sl) ?_;intro v w1 ai hv;subst hv;obtain ⟨hw,aq,ar,hX,hT⟩:=fD ai hw aq ar hX hT;clear ai)|(refine SW.st (qN 0 rfl rfl rfl (by decide) rfl) rfl ?_))
          refine ae.again (0+1) ⟨rfl,rfl,rfl,rfl,rfl,rfl,rfl,rfl,trivial⟩ (by omega) ⟨by omega,hw,aq,ar,hX,hT,fun m h => ?_⟩;by_cases e:m=5+2*j+0
          ·subst e;exact VG.trans gQ
          ·exact hI m (by omega)
         ·obtain ⟨k,hk,Ta,BM,rU⟩:=Dk gQ;have c2:=cL (4-(j:Int)) (Bt t);rw [rU] at c2;repeat' (first|refine Wz ?_|(refine Wk (c2 _ hX.sl) ?_;intro v w1 ai hv;subst hv;obtain ⟨hw,aq,ar,hX,hT⟩:=fD ai hw aq ar hX hT;clear ai)|(refine SW.st (qN 0 rfl rfl rfl (by decide) rfl) rfl ?_))
          refine SW.dX rfl rfl (BR s z k t w _ hw hX hT sF hz hk (by omega)) fun v w5 hv => ?_
          obtain ⟨hw,Td,hX,hT⟩:=hv;have aq:=Td.out _ _ aq;have ar:=Td.out _ _ ar
          have hP:lC z.aj o t (some (k,true)):=by
           have:=lC.hit (l:=z.aj) (o:=o) (t:=t) (n:=5+2*j+0) (k:=k) (by omega) (VG.trans gQ) hI hk (by have e1:=Di (o:=o) (j:=j);have e2:=GM (t:=t) (j:=j);(try simp only [Nat.add_zero] at *);rw [e1,e2];exact Ta) (by have e1:=Di (o:=o) (j:=j);have e2:=GM (t:=t) (j:=j);(try simp only [Nat.add_zero] at *);rw [e1,e2];exact BM)
           rwa [decide_eq_true (by omega)] at this
          refine Wz ?_;exact ae.again (j+1,(k:Int),jZ z.aj z.aj[k] t,kO z z.aj[k] t) ⟨rfl,rfl,rfl,rfl,rfl,congrArg (fun z=>some (Value.int .i64 z)) (by simp only;omega),trivial⟩ (by simp only;(repeat' split)<;>omega) ⟨hw,aq,ar,hX,hT,.inr ⟨k,true,hk,rfl,hP,rfl,rfl⟩⟩
        ·cases gQ:z.aj.any (so (4-(j:Int)) (Bu t))
         ·have c2:=cL (4-(j:Int)) (Bu t);rw [zy gQ] at c2;repeat' (first|refine Wz ?_|(refine Wk (c2 _ hX.sl) ?_;intro v w1 ai hv;subst hv;obtain ⟨hw,aq,ar,hX,hT⟩:=fD ai hw aq ar hX hT;clear ai)|(refine SW.st (qN 1 rfl rfl rfl (by decide) rfl) rfl ?_))
          refine ae.again (1+1) ⟨rfl,rfl,rfl,rfl,rfl,rfl,rfl,rfl,trivial⟩ (by omega) ⟨by omega,hw,aq,ar,hX,hT,fun m h => ?_⟩;by_cases e:m=5+2*j+1
          ·subst e;exact Tc.trans gQ
          ·exact hI m (by omega)
         ·obtain ⟨k,hk,Ta,BM,rU⟩:=Dk gQ;have c2:=cL (4-(j:Int)) (Bu t);rw [rU] at c2;repeat' (first|refine Wz ?_|(refine Wk (c2 _ hX.sl) ?_;intro v w1 ai hv;subst hv;obtain ⟨hw,aq,ar,hX,hT⟩:=fD ai hw aq ar hX hT;clear ai)|(refine SW.st (qN 1 rfl rfl rfl (by decide) rfl) rfl ?_))
          refine SW.dX rfl rfl (BR s z k t w _ hw hX hT sF hz hk (by omega)) fun v w5 hv => ?_
          obtain ⟨hw,Td,hX,hT⟩:=hv;have aq:=Td.out _ _ aq;have ar:=Td.out _ _ ar
          have hP:lC z.aj o t (some (k,true)):=by
           have:=lC.hit (l:=z.aj) (o:=o) (t:=t) (n:=5+2*j+1) (k:=k) (by omega) (Tc.trans gQ) hI hk (by have e1:=Dj (o:=o) (j:=j);have e2:=GN (t:=t) (j:=j);(try simp only [Nat.add_zero] at *);rw [e1,e2];exact Ta) (by have e1:=Dj (o:=o) (j:=j);have e2:=GN (t:=t) (j:=j);(try simp only [Nat.add_zero] at *);rw [e1,e2];exact BM)
           rwa [decide_eq_true (by omega)] at this
          refine Wz ?_;exact ae.again (j+1,(k:Int),jZ z.aj z.aj[k] t,kO z z.aj[k] t) ⟨rfl,rfl,rfl,rfl,rfl,congrArg (fun z=>some (Value.int .i64 z)) (by simp only;omega),trivial⟩ (by simp only;(repeat' split)<;>omega) ⟨hw,aq,ar,hX,hT,.inr ⟨k,true,hk,rfl,hP,rfl,rfl⟩⟩
        ·refine Wz ?_;exact ae.again (j+1,-1,z.aj,z.Types) ⟨rfl,rfl,rfl,rfl,rfl,congrArg (fun z=>some (Value.int .i64 z)) (by simp only;omega),trivial⟩ (by simp only;(repeat' split)<;>omega) ⟨hw,aq,ar,hX,hT,.inl ⟨rfl,by simp only;omega,fun m h=>hI m (by simp only at h;omega),rfl,rfl⟩⟩
       ·refine Wz ?_
        have VF:∀ m,m<15->lj z.aj o t m=false:=fun m hm=>by
         by_cases e:m<5+2*j
         ·exact hI m e
         ·exact LR (j:=j) (by omega) (by omega)
        exact ae.mj (K:=K) (by rw [hK];exact ⟨-1,z.aj,z.Types,⟨rfl,rfl,rfl,rfl,rfl,trivial⟩,hw,aq,ar,hX,hT,.inl ⟨rfl,VF⟩⟩)
      ·refine Wz ?_;exact ae.mj (K:=K) (by rw [hK];exact ⟨(k:Int),F,T,⟨rfl,rfl,rfl,rfl,rfl,trivial⟩,hw,aq,ar,hX,hT,.inr ⟨k,st,hk,rfl,hP,hF,US⟩⟩)
     ·clear hw aq ar hX hT PR;subst hK;rintro L' w' ⟨i,F,T,jA,hw,aq,ar,hX,hT,hI⟩
      refine ae.sub jA ?_;clear jA cL;rcases hI with ⟨rfl,hI⟩|⟨k,st,hk,rfl,hP,rfl,US⟩
      ·refine Wz ?_;refine SW.ag ar rfl rfl rfl rfl (fK .zero) fun w5 cX hg => ?_
       have hw:=hw.own cS hg;refine Wz ?_;exact ae.fg rfl rfl rfl rfl cX rfl ⟨_,rfl,hw,_,.room hq ho zt (.Ox hI),qO.zero 6 _ _⟩
      ·obtain ⟨_,VI,X4⟩:=hP.ord;obtain ⟨l1,l2,l3⟩:=ve hz (b:=z.aj[k]) zt st;have Te:k<(kk z z.aj[k] t st).length:=by omega
       have PS:(kk z z.aj[k] t st)[k]=⟨z.aj[k].At,z.aj[k].Order,xS z t st z.aj[k]⟩:=wi hz zt st hk
       obtain ⟨⟨f1,f2,f3,f4,f5⟩,f6⟩:=hz.eM k hk;have lX:ik z o t (uk z o t z.aj[k] k st,z.aj[k].At,0) := .ok hq ho zt hk hP
       have hJ:=BO l2 l3 Te;rw [PS] at hJ;have GV:=kA hz;have Se:kU (xS z t st z.aj[k]):=by unfold xS;split<;>assumption
       obtain ⟨ty,VJ⟩ : ∃ ty,xS z t st z.aj[k]=ty:=⟨_,rfl⟩
       have X5:uk z o t z.aj[k] k st=⟨z.aV,z.To,mm ty z.aj[k].At (z.aj[k].Order-o).toNat z.aj[k].Order ((kk z z.aj[k] t st).eraseIdx k),T⟩:=by
        rw [US,<- VJ];rfl
       rw [X5] at lX;rw [VJ] at PS Se;clear X5 VJ US hP;obtain ⟨F,hF⟩ : ∃ F,kk z z.aj[k] t st=F:=⟨_,rfl⟩;simp only [hF] at hX l1 Te PS hJ lX;clear l2 l3;obtain ⟨x,hx⟩ : ∃ x,z.aj[k]=x:=⟨_,rfl⟩;simp only [hx] at PS hJ lX f1 f2 f3 f4 f5 VI X4;clear f6;have gp:k<s.aj.n:=by omega
       have hA:=hX.sl.base;have fk:=hX.sl.all gp;simp only [PS] at fk;repeat' (first|refine Wz ?_|refine Wm fk ?_)
       refine SW.alloc rfl fun EC w3 nT Tf dP => ?_
       have Tg:=hw.up Tf
       have ID:aJ s.aj.A s.aj.c≠some EC:=fun e=>by have:=hX.lt_size _ e;omega
       (obtain ⟨hw,aq,ar,hX,hT⟩:=fD nT hw aq ar hX hT);clear fk;skip;refine SW.ag dP rfl rfl rfl rfl (iy.one (enc:=aO) ⟨x.At,x.Order,ty⟩) fun w5 oO hg => ?_
       have hG:=dP.gr hg;have hw:=hw.own Tg hg;have hX:=hX.grown hg (.inr ID);(obtain ⟨aq,ar,hT⟩:=cn hG aq ar hT);have dP:aS w5 EC 147 [.int .i64 x.At,.int .i64 x.Order,.int .i64 ty]:=oO;clear oO hg hG Tf;refine Wz ?_;refine SW.dX rfl rfl (m7 s.aj.A s.aj.n s.aj.c w.heap.size F _ hX k gp (by omega) hw.size) fun v w6 hv => ?_
       obtain ⟨rfl,Dg,hg⟩:=hv;have hG:=hX.gr hg;have hw:=aD hw hg (adg _) hX.a9;have dP:=dP.grown hg (fun e=>ID e.symm);(obtain ⟨aq,ar,hT⟩:=cn hG aq ar hT);clear hg hG;have Br:s.aj.n-1=(F.eraseIdx k).length:=by rw [aes Te];omega
       rw [Br] at Dg;rw [Br];refine Wz ?_;refine Wb (i:=2) aq fun w7 ed hg => ?_
       have hG:=aq.gr hg;have hw:=hw.own cg hg;have ar:=ar.grown hg (by simpa using oL.symm);(obtain ⟨dP,Dg,hT⟩:=cn hG dP Dg hT);have aq:aS w7 b3 117 [.int .i64 s.aV,.int .i64 s.To,.slice s.aj.A (F.eraseIdx k).length s.aj.c,.slice s.Types.A s.Types.n s.Types.c]:=ed;clear ed hg hG hX;refine Wz ?_;obtain ⟨Sn,Th⟩ : ∃ Sn,mm ty x.At (x.Order-o).toNat x.Order (F.eraseIdx k)=Sn:=⟨_,rfl⟩;rw [Th] at lX
       refine CW.loop (fun u:Int×List Block×Option Addr×Nat=>[(1,.int .i64 o),(3,.pointer (some ⟨b3,0,none⟩)),(6,.pointer (some ⟨b6,0,none⟩)),(15,.pointer (some ⟨EC,0,none⟩))])
        (fun u w'=>Ext w w'∧aS w' b3 117 [.int .i64 s.aV,.int .i64 s.To,.slice u.2.2.1 u.2.1.length u.2.2.2,.slice s.Types.A s.Types.n s.Types.c]∧aS w' b6 117 (dt .zero)∧aS w' EC 147 [.int .i64 x.At,.int .i64 u.1,.int .i64 ty] ∧
          Own w' w.heap.size 147 3 aO u.2.2.1 u.2.1.length u.2.2.2 u.2.1∧Own w' w.heap.size 3 1 bw s.Types.A s.Types.n s.Types.c T∧Er z.aV z.To u.2.1 x.At u.1∧o<=u.1∧mm ty x.At (u.1-o).toNat u.1 u.2.1=Sn∧(u.2.1.length:Int)+u.1<=300∧aJ u.2.2.1 u.2.2.2≠some EC) (fun u=>(u.1-o).toNat) (x.Order,F.eraseIdx k,s.aj.A,s.aj.c)
        ⟨rfl,rfl,rfl,rfl,trivial⟩ ⟨hw,aq,ar,dP,Dg,hT,hJ,VI,Th,by simp only;omega,ID⟩ ?_
       clear hw aq ar dP Dg hT hJ Br PS ID;rintro ⟨q,l,A,c⟩ w' ⟨hw,aq,ar,dP,hX,hT,hJ,ZF,zg,hlen,bJ⟩
       simp only at aq dP hX hJ ZF zg hlen bJ ⊢;by_cases hqq:o<q
       ·obtain ⟨k1,k2,k3,k4,k5⟩:=hJ.fit;obtain ⟨xo,ZG⟩:=EB hJ o1 o3 o5 (by omega) Se;rw [show (q-o).toNat=(q-1-o).toNat+1 by omega,mm] at zg;have UQ:=cQ (o:=q-1) (by omega) (by omega);have cE:∀ w',bF prog 133 [.agg (aO ⟨x.At,q-1,ty⟩).toArray] w' fun v _=>v = .int .i64 (x.At+pw (q-1)):=fun w'=>pP ⟨x.At,q-1,ty⟩ w' ⟨by simp only;omega,by simp only;omega⟩ ⟨by simp only;omega,by simp only;omega⟩
        have cF:∀ w',Sl w' 3 aO A l.length l->bF prog 135 [.agg (dt ⟨s.aV,s.To,⟨A,l.length,c⟩,s.Types⟩).toArray,.int .i64 (x.At+pw (q-1))] w' fun v _=>v = .tuple #[.int .i64 (bE l (x.At+pw (q-1)) : Int),.bool (bP l (x.At+pw (q-1)))]:=fun w' h =>
         we ⟨s.aV,s.To,⟨A,l.length,c⟩,s.Types⟩ l z.aV z.To (x.At+pw (q-1)) w' h hJ.sd hJ.eM o1 (by omega) (by simp only;omega) ⟨by omega,by omega⟩
        have Bg:=Ix l (x.At+pw (q-1));have X6:=JA ty x.At q l;refine Wz ?_;refine Wb (i:=1) dP fun w5 oO hg => ?_
        have hG:=dP.gr hg;have hw:=hw.own Tg hg;have hX:=hX.grown hg (.inr bJ);(obtain ⟨aq,ar,hT⟩:=cn hG aq ar hT);have dP:aS w5 EC 147 [.int .i64 x.At,.int .i64 (q-1),.int .i64 ty]:=oO;clear oO hg hG;refine Wz ?_
        focus
         refine CW.any 8 mixed (dk (by kernel_rfl)) rfl fun w1 ai aG => ?_
         obtain ⟨hw,aq,ar,dP,hX,hT⟩:=gw ai hw aq ar dP hX hT;clear ai;refine Wa ?_;refine SA.two 1 7 rfl rfl (by kernel_rfl) rfl rfl ?_ ?_
         focus
          refine Wk (cE _) fun v w4 ak hv => ?_
          subst hv;(obtain ⟨hw,aq,ar,dP,hX,hT⟩:=gw ak hw aq ar dP hX hT);try have cW:=cW.ext ak
          refine SW.nil (ae.sa ak ?_);refine Wa ?_;refine SA.one 7 rfl (by kernel_rfl) rfl ?_;refine SW.alloc rfl fun GW w4 ak QW cW => ?_
          have Ti:=hw.up QW
          have Tj:aJ A c≠some GW:=fun e=>by have:=hX.lt_size _ e;omega
          have Tk:EC≠GW:=by have:=dP.lt;omega
          (obtain ⟨hw,aq,ar,dP,hX,hT⟩:=gw ak hw aq ar dP hX hT);refine SW.nil (ae.sa ak ?_)
         rotate_left
         focus
          refine SW.alloc rfl fun GW w4 ak QW cW => ?_
          have Ti:=hw.up QW
          have Tj:aJ A c≠some GW:=fun e=>by have:=hX.lt_size _ e;omega
          have Tk:EC≠GW:=by have:=dP.lt;omega
          (obtain ⟨hw,aq,ar,dP,hX,hT⟩:=gw ak hw aq ar dP hX hT);refine SW.nil (ae.sa ak ?_);refine SA.one 1 rfl (by kernel_rfl) rfl ?_;refine Wk (cE _) fun v w4 ak hv => ?_
          subst hv;(obtain ⟨hw,aq,ar,dP,hX,hT⟩:=gw ak hw aq ar dP hX hT);try have cW:=cW.ext ak
          refine SW.nil (ae.sa ak ?_);refine Wa ?_
         rotate_left
         all_goals
          refine SA.done (by kernel_rfl) ?_;skip;refine SW.ag cW rfl rfl rfl rfl (iy.one (enc:=aO) ⟨x.At+pw (q-1),q-1,ty⟩) fun w5 ED hg => ?_
          have hG:=cW.gr hg;have hw:=hw.own Ti hg;have hX:=hX.grown hg (.inr Tj);have dP:=dP.grown hg (by simpa using Tk);(obtain ⟨aq,ar,hT⟩:=cn hG aq ar hT);have cW:=ED;clear ED hg hG cE;repeat' (first|refine Wz ?_|(refine Wk (cF _ hX.sl) ?_;intro v w1 ai hv;subst hv;obtain ⟨hw,aq,ar,dP,cW,hX,hT⟩:=uK ai hw aq ar dP cW hX hT;clear ai))
          refine SW.dI rfl rfl rfl rfl rfl fun b w6 ak hb hB => ?_
          have wk:aJ A c≠some b:=fun e=>by have:=hX.lt_size _ e;omega
          (obtain ⟨hw,aq,ar,dP,hX,hT⟩:=gw ak hw aq ar dP hX hT);skip;refine SW.dX rfl rfl (kN A l.length c w.heap.size l _ hX (bE l (x.At+pw (q-1))) Bg (nZ ty x.At q) b hB wk (by omega) hw.size) fun v w7 hv => ?_
          obtain ⟨A2,c2,rfl,bj,hg⟩:=hv;have hG:=hX.gr hg;have hw:=aD hw hg (adg _) hX.a9;have dP:=dP.grown hg (fun e=>bJ e.symm);(obtain ⟨aq,ar,hT⟩:=cn hG aq ar hT);clear hg hG hX
          have OC:aJ A2 c2≠some EC:=bj.QU (x:=⟨x.At,q-1,ty⟩) dP (by omega) fun y hy e=>by
           have g1:=(xo.eM y hy).1;have g2:=cQ g1.1 g1.2.1;simp only at e;rcases xo.NZ y hy with g|g<;>omega
          rw [<- X6] at bj;rw [<- X6];refine Wz ?_;refine Wb (i:=2) aq fun w8 ed hg => ?_
          have hG:=aq.gr hg;have hw:=hw.own cg hg;have ar:=ar.grown hg (by simpa using oL.symm);(obtain ⟨dP,bj,hT⟩:=cn hG dP bj hT);refine Wz ?_;exact ae.again (q-1,tS ty x.At q l,A2,c2) ⟨rfl,rfl,rfl,rfl,trivial⟩ (by simp only;omega) ⟨hw,ed,ar,dP,bj,hT,xo,by simp only;omega,zg,by simp only;omega,OC⟩
       ·obtain rfl:o=q:=by omega
        have PT:l=Sn:=by
         rw [<- zg,show (o-o).toNat=0 by omega];rfl
        rw [PT] at hX;rw [PT] at aq;refine Wz ?_;refine CW.gn 3 5 (fun w2=>aS w2 EC 147 [.int .i64 x.At,.int .i64 o,.int .i64 ty]) mixed (by kernel_rfl) fun w1 ai aG => ?_
        obtain ⟨hw,aq,ar,dP,hX,hT⟩:=gw ai hw aq ar dP hX hT;clear ai;refine Wf ?_;refine SF.cr 1 [] aG rfl (by kernel_rfl) (by kernel_rfl) (by kernel_rfl) (aA rfl) (fun w2 hS=>aA rfl) rfl ?_;refine SF.cr 2 [] aG rfl (by kernel_rfl) (by kernel_rfl) (by kernel_rfl) (aU rfl (dP.cell (i:=0) (v := .int .i64 x.At) rfl)) (fun w2 hS=>aU rfl (hS.cell (i:=0) (v := .int .i64 x.At) rfl)) rfl ?_;refine SF.turn rfl (by kernel_rfl) rfl ?_;refine SW.ag ar rfl rfl rfl rfl (fK ⟨s.aV,s.To,⟨A,Sn.length,c⟩,s.Types⟩) fun w5 cX hg => ?_
        have hG:=ar.gr hg;have hS:=dP.aK hG rfl;have hw:=hw.own cS hg;(obtain ⟨hX,hT⟩:=df hG hX hT);refine SW.nil (ae.sg hS ?_);refine SG.one 4 rfl (by kernel_rfl) rfl ?_;repeat (refine SW.pure rfl rfl ?_)
        refine SW.nil (ae.sg hS ?_);refine SG.last rfl (by kernel_rfl) (by kernel_rfl) ?_;refine Wz ?_;exact ae.fg rfl rfl rfl rfl cX rfl ⟨_,rfl,hw,_,lX,⟨s.aV,s.To,⟨A,Sn.length,c⟩,s.Types⟩,rfl,⟨sF,sT,hX,hT⟩⟩
   ·have GA:=zt;unfold kU at GA;rcases (show t<0∨(0<=t∧2<t) by omega) with g|g
    all_goals
     repeat' (first|refine Wz ?_|(refine Wk (c1 _ hw) ?_;intro v w1 ai hv;subst hv;obtain ⟨hw,aq,ar⟩:=cn ai hw aq ar;clear ai))
     refine SW.ag ar rfl rfl rfl rfl (fK .zero) fun w5 cX hg => ?_
     have hw:=hw.own cS hg;refine Wz ?_;exact ae.fg rfl rfl rfl rfl cX rfl ⟨_,rfl,hw,_,.kind hq ho zt,qO.zero 2 _ _⟩
  ·rcases (show o<0∨(0<=o∧4<o) by omega) with g|g
   all_goals
    repeat' (first|refine Wz ?_|(refine Wk (c1 _ hw) ?_;intro v w1 ai hv;subst hv;obtain ⟨hw,aq,ar⟩:=cn ai hw aq ar;clear ai))
    refine SW.ag ar rfl rfl rfl rfl (fK .zero) fun w5 cX hg => ?_
    have hw:=hw.own cS hg;refine Wz ?_;exact ae.fg rfl rfl rfl rfl cX rfl ⟨_,rfl,hw,_,.range hq ho,qO.zero 1 _ _⟩
variable {held:Bool} {cs:List Value} {fuel:Nat} {spare:Nat->Bool} {W:World}
theorem Dl : prog.globalNamed "paddock/buddy.others" = some 1 := by kernel_rfl
theorem EE:(prog.globals[1]?).map (·.type)=some 240:=by kernel_rfl
set_option maxRecDepth 100000 in
theorem Dm {p:List MemPlace} {enc:TypeId×Value->Unit} {base:Nat} (h:DataW.trod enc prog W base spare held fuel 240 cs=some (Rows.laid_paddock_buddy_others,p)) :
 cs=[.int .i64 2,.int .i64 1,.int .i64 2,.int .i64 0,.int .i64 0,.int .i64 1]:=by
 have c2:prog.cellsOf 239=2:=by kernel_rfl
 have c6:prog.cellsOf 240=6:=by kernel_rfl
 have c1:prog.cellsOf 3=1:=by kernel_rfl
 obtain ⟨xs,m,rfl,hx,hlen,hn,EF⟩:=DataW.trod_array Tryz.underlying240 h;rw [c6] at hlen;rw [c2] at EF;simp only [Prod.mk.injEq] at hx
 have pair:∀ (a b:Value) (u v:Int) (x:DataW Unit×List MemPlace),DataW.trod enc prog W base spare held m 239 [a,b]=some x->x.1 = .agg [.lit (.int .i64 u),.lit (.int .i64 v)]->a = .int .i64 u∧b = .int .i64 v:=by
  intro a b u v x hx e;obtain ⟨ys,k,rfl,rfl,_,hk,he⟩:=DataW.trod_array Tryz.underlying239 hx;rw [c1] at he
  match ys,hk with
  | [y0,y1],_ =>
    have h0:=he 0 (by decide);have h1:=he 1 (by decide);obtain ⟨z0,e0,f0,_⟩:=DataW.trod_int Tryz.underlying3 (show DataW.trod enc prog W base spare held k 3 [a]=some y0 from h0);obtain ⟨z1,e1,f1,_⟩:=DataW.trod_int Tryz.underlying3 (show DataW.trod enc prog W base spare held k 3 [b]=some y1 from h1);rw [f0,f1] at e;simp at e e0 e1;rw [e0,e1,e.1,e.2];exact ⟨rfl,rfl⟩
 match cs,hlen,xs,hn with
 | [a,b,c,d,e,f],_,[x0,x1,x2],_ =>
   have h0:=EF 0 (by decide);have h1:=EF 1 (by decide);have h2:=EF 2 (by decide);have kW:=hx.1;simp only [Rows.laid_paddock_buddy_others,List.map_cons,List.map_nil,DataW.agg.injEq,List.cons.injEq,and_true] at kW;obtain ⟨rfl,rfl⟩:=pair a b 2 1 x0 h0 kW.1.symm;obtain ⟨rfl,rfl⟩:=pair c d 2 0 x1 h1 kW.2.1.symm;obtain ⟨rfl,rfl⟩:=pair e f 0 1 x2 h2 kW.2.2.symm
   rfl
variable {d:Nat} {dst src ty:TypeId}
def eJ (a b:ByteArray) : Bool:=Op.bytesLess a.toList b.toList
theorem BU:∀ x y:List UInt8,Op.bytesLess x y=(!(Op.bytesLess y x || decide (x=y)))
 | [],[]=>by simp [Op.bytesLess]
 | [],_::_=>by simp [Op.bytesLess]
 | _::_,[]=>by simp [Op.bytesLess]
 | a::x,b::y=>by
   have ih:=BU x y;simp only [Op.bytesLess,List.cons.injEq];rcases adO a.toNat b.toNat with h|h|h
   ·have h1:a<b:=h
    have h2 : ¬ b<a:=fun e=>by have:b.toNat<a.toNat:=e;omega
    have h3 : ¬ a=b:=fun e=>by subst e;omega
    have h4 : ¬ b=a:=fun e=>h3 e.symm
    simp [h1,h2,h3,h4]
   ·have h3:a=b:=UInt8.toNat_inj.1 h
    subst h3;have h1 : ¬ a<a:=fun e=>by have:a.toNat<a.toNat:=e;omega
    simp [h1,ih]
   ·have h1:b<a:=h
    have h2 : ¬ a<b:=fun e=>by have:a.toNat<b.toNat:=e;omega
    have h3 : ¬ a=b:=fun e=>by subst e;omega
    have h4 : ¬ b=a:=fun e=>h3 e.symm
    simp [h1,h2,h3]
theorem bytes_trans:∀ x y z:List UInt8,Op.bytesLess x y=true->Op.bytesLess y z=true->Op.bytesLess x z=true
 | _,[],_,h,_=>by simp [Op.bytesLess] at h
 | _,_::_,[],_,h=>by simp [Op.bytesLess] at h
 | [],_::_,_::_,_,_=>by simp [Op.bytesLess]
 | a::x,b::y,c::z,h,k=>by
   simp only [Op.bytesLess,Bool.or_eq_true,decide_eq_true_eq,Bool.and_eq_true,beq_iff_eq] at h k ⊢;rcases h with h|⟨rfl,h⟩<;>rcases k with k|⟨rfl,k⟩
   ·have h':a.toNat<b.toNat:=h
    have k':b.toNat<c.toNat:=k
    exact .inl (show a.toNat<c.toNat by omega)
   ·exact .inl h
   ·exact .inl k
   ·exact .inr ⟨rfl,bytes_trans x y z h k⟩
theorem Dn (a b:ByteArray) : (a.toList == b.toList)=decide (a=b):=by
 by_cases h:a=b
 ·subst h;simp
 ·have : ¬ a.toList=b.toList:=fun e=>h (by
   have e1:=congrArg (fun l:List UInt8=>ByteArray.mk l.toArray) e;simp only [ByteArray.toList_eq] at e1;cases a;cases b;simpa using e1)
  simp [h,this]
theorem oP {a b c:ByteArray} (h:eJ a b=true) (k:eJ b c=true) : eJ a c=true:=bytes_trans _ _ _ h k
theorem JE (a b:ByteArray) : eJ a b = !(eJ b a || decide (a=b)):=by
 unfold eJ;rw [BU];have:decide (a.toList=b.toList)=decide (a=b):=by rw [<- Dn];exact (Bool.beq_eq_decide_eq _ _).symm
 rw [this]
class IE (P:Program) (t:TypeId) : Prop where
 oz:P.underlying t=some .string
def Dp (b:UInt8) : List Value:=[.int .u8 b.toNat]
section
variable {P:Program} {L:Env} {w:World} {d:Option Nat} {T:TypeId} {pos:String} {af:Array Edge} {g:Option (Nat×Bool)}
theorem mO {x:Operand} {a b:ByteArray} (hx:cT L x=some (.string a)) (hy:cT L y=some (.string b)) : St P ⟨d,.binOp .eql t x y ty,T,pos,af,g⟩ L w (.bool (decide (a=b))) :=
 ⟨fun _ A hA w' _=>by
  have e1:=hA.eval hx;have e2:=hA.eval hy;generalize A.eval = ρ at *
  have h1:(binOp .eql t (.string a) (.string b)).run P w' = .ok (.bool (decide (a=b))) w':=by
   have:binOp .eql t (.string a) (.string b)=Op.stringOp .eql a b:=by simp [binOp]
   rw [this,<- Dn];simp [Op.stringOp,pure]
  simp [execOp,e1,e2,eqGuard,h1]⟩
theorem EG {x:Operand} {a b:ByteArray} (hx:cT L x=some (.string a)) (hy:cT L y=some (.string b)) : St P ⟨d,.binOp .geq t x y ty,T,pos,af,g⟩ L w (.bool (!eJ a b)) :=
 ⟨fun _ A hA w' _=>by
  have e1:=hA.eval hx;have e2:=hA.eval hy;generalize A.eval = ρ at *
  have h1:(binOp .geq t (.string a) (.string b)).run P w' = .ok (.bool (!eJ a b)) w':=by
   have:binOp .geq t (.string a) (.string b)=Op.stringOp .geq a b:=by simp [binOp]
   rw [this];simp [Op.stringOp,pure,eJ]
  simp [execOp,e1,e2,eqGuard,h1]⟩
theorem LY {x:Operand} {a b:ByteArray} (hx:cT L x=some (.string a)) (hy:cT L y=some (.string b)) : St P ⟨d,.binOp .lss t x y ty,T,pos,af,g⟩ L w (.bool (eJ a b)) :=
 ⟨fun _ A hA w' _=>by
  have e1:=hA.eval hx;have e2:=hA.eval hy;generalize A.eval = ρ at *
  have h1:(binOp .lss t (.string a) (.string b)).run P w' = .ok (.bool (eJ a b)) w':=by
   have:binOp .lss t (.string a) (.string b)=Op.stringOp .lss a b:=by simp [binOp]
   rw [this];simp [Op.stringOp,pure,eJ]
  simp [execOp,e1,e2,eqGuard,h1]⟩
theorem wm {x:Operand} {a b:ByteArray} (hx:cT L x=some (.string a)) (hy:cT L y=some (.string b)) : St P ⟨d,.binOp .neq t x y ty,T,pos,af,g⟩ L w (.bool (decide (a≠b))) :=
 ⟨fun _ A hA w' _=>by
  have e1:=hA.eval hx;have e2:=hA.eval hy;generalize A.eval = ρ at *
  have h1:(binOp .neq t (.string a) (.string b)).run P w' = .ok (.bool (decide (a≠b))) w':=by
   have:binOp .neq t (.string a) (.string b)=Op.stringOp .neq a b:=by simp [binOp]
   rw [this];have e:decide (a≠b) = !(a.toList == b.toList):=by rw [Dn];simp
   rw [e];simp [Op.stringOp,pure]
  simp [execOp,e1,e2,eqGuard,h1]⟩
theorem IF [c:IE P t] {x:Operand} {s:ByteArray} (hx:cT L x=some (.string s)) :
 St P ⟨d,.call ⟨.builtin .len,#[x],#[t]⟩,T,pos,af,g⟩ L w (.int .i64 (s.size:Int)) :=
 ⟨fun _ a ha w' _=>by simp [execOp,resolve,invoke,builtin,ha.eval hx,Builtin.len_,run_underlying c.oz,goInt]⟩
end
section
variable {P:Program} {n:Nat} {ops:Array Oper} {Q:Exit->Act->World->Prop} {rest:List Oper} {L:Env} {w:World} {T:TypeId} {pos:String} {af:Array Edge}
theorem SW.JF [S:IE P src] [D:bz P dst e 1] (he:P.underlying e=some (.int .u8)) {x:Operand} {s:ByteArray} (hx:cT L x=some (.string s)) (hn:Nat.blt d n=true)
 (h:∀ b c w',Ext w w'->w.heap.size<=b->Sl w' 1 Dp (some ⟨b,0,none⟩) s.size s.data.toList->SW P n ops (.gM Q) rest ((d,.slice (some ⟨b,0,none⟩) s.size c)::L) w') :
 SW P n ops (.gM Q) (⟨some d,.convert src dst x,T,pos,af,none⟩::rest) L w :=
 ⟨fun a ha=>by
  simp only [swp,wpList,Region.wanted,if_true];refine .inl ?_;unfold Oper.wp;have hr:=Lib.run_convert_string_bytes (P:=P) w src dst e s S.oz D.oz he
  have:(execOp a.eval ⟨some d,.convert src dst x,T,pos,af,none⟩).run P w = .ok (.value (.slice (some ⟨w.heap.size,0,none⟩) s.size (grownCap w s.size 0 e))) (Lib.bytesWorld w e s):=by
   simp [execOp,ha.eval hx,hr]
  rw [this,Oper.upon_value];have hE:Ext w (Lib.bytesWorld w e s):=⟨rfl,rfl,rfl,by rw [Lib.bytesWorld_size];omega,fun j hj=>Lib.bytesWorld_at_old w e s j hj⟩
  refine (h _ _ _ hE (adg _) ⟨?_,fun _=>rfl,fun i hi j u hu => ?_⟩).out _ (ha.put hn _)
  ·exact ael
  ·have po:i<s.size:=by rw [ael] at hi;exact hi
   have:=Lib.bytesWorld_cell w e s i po
   match j,hu with
   | 0,hu =>
     simp only [Dp,List.getElem?_cons_zero,Option.some.injEq] at hu;rw [add_zero]
     have e2:(((some (⟨w.heap.size,0,none⟩ : Addr)).getD default).add (i*1))=⟨w.heap.size,i,none⟩:=by
      simp only [Option.getD_some,Nat.mul_one];unfold Addr.add;split<;>simp_all
     rw [e2,this,<- hu];have e3:s.data.toList.getD i 0=s.data.toList[i]:=by simp [List.getD,po]
     rw [e3]
   | j+1,hu=>simp [Dp] at hu⟩
end
variable {L:List aT} {zs:List ef} {li lv:gb}
theorem dY (r:jy) : ∀ v∈dG r,v.oneCell'=true:=iy.one (enc:=dG) r
theorem LZ (r:dx) : ∀ v∈cm r,v.oneCell'=true:=iy.one (enc:=cm) r
def GX (ls:List dx) : Prop := ∀ (i j:Nat) (hi:i<ls.length) (hj:j<ls.length),i≠j -> ∀ g,aJ ls[i].ax.A ls[i].ax.c=some g->aJ ls[j].ax.A ls[j].ax.c≠some g
structure vf (m:gb) (zs:List ef) (ls:List dx) : Prop where
 eE:∀ (i:Nat) (hi:i<ls.length) (g:Nat),aJ ls[i].ax.A ls[i].ax.c=some g->aJ m.A m.c≠some g
 types:∀ (i:Nat) (hi:i<ls.length) (g:Nat),aJ ls[i].ax.A ls[i].ax.c=some g -> ∀ u∈zs,aJ u.Types.A u.Types.c≠some g
 sep:GX ls
theorem vf.nil (m:gb) (zs:List ef) : vf m zs []:=⟨fun i hi=>by simp at hi,fun i hi=>by simp at hi,fun i j hi=>by simp at hi⟩
theorem vf.snoc {m:gb} {ls:List dx} {s:gb} {x:List Int} {zl:List ao} {y:dx} (h:vf m zs ls) (hm:Own w lo 3 1 bw m.A m.n m.c x) (hz:lf w lo s zs zl) (hl:gl w lo li ls L) (hy:∀ g,aJ y.ax.A y.ax.c=some g->w.heap.size<=g) : vf m zs (ls++[y]):=by
 have eX:∀ (i:Nat) (hi:i<ls.length) (g:Nat),aJ ls[i].ax.A ls[i].ax.c=some g->g<w.heap.size:=fun i hi g e=>(hl.each.get i hi (by rw [<- hl.each.len];exact hi)).bC.lt_size g e
 have key:∀ (i:Nat) (hi:i<(ls++[y]).length),(∃ h:i<ls.length,(ls++[y])[i]=ls[i])∨(i=ls.length∧(ls++[y])[i]=y):=fun i hi=>by
  by_cases e:i<ls.length
  ·exact .inl ⟨e,aeh e⟩
  ·have:i=ls.length:=by simp at hi;omega
   subst this;exact .inr ⟨rfl,by simp⟩
 refine ⟨fun i hi g e => ?_,fun i hi g e u hu => ?_,fun i j hi hj pk g e e2 => ?_⟩
 ·rcases key i hi with ⟨h1,h2⟩|⟨h1,h2⟩
  ·rw [h2] at e;exact h.eE i h1 g e
  ·rw [h2] at e;intro e3;have:=hm.lt_size g e3;have:=hy g e;omega
 ·rcases key i hi with ⟨h1,h2⟩|⟨h1,h2⟩
  ·rw [h2] at e;exact h.types i h1 g e u hu
  ·rw [h2] at e;intro e3;obtain ⟨j,hj,rfl⟩:=ade hu;have:=(hz.each.get j hj (by rw [<- hz.each.len];exact hj)).types.lt_size g e3
   have:=hy g e
   omega
 ·rcases key i hi with ⟨h1,h2⟩|⟨h1,h2⟩
  ·rw [h2] at e;rcases key j hj with ⟨h3,h4⟩|⟨h3,h4⟩
   ·rw [h4] at e2;exact h.sep i j h1 h3 pk g e e2
   ·rw [h4] at e2;have:=eX i h1 g e;have:=hy g e2;omega
  ·rw [h2] at e;rcases key j hj with ⟨h3,h4⟩|⟨h3,h4⟩
   ·rw [h4] at e2;have:=eX j h3 g e2;have:=hy g e;omega
   ·omega
def xT (lv:gb) (zs:List ef) : Prop := ∀ u∈zs,∀ g,aJ u.aj.A u.aj.c=some g->aJ lv.A lv.c≠some g
theorem xT.nil (lv:gb) : xT lv []:=fun u hu=>by simp at hu
theorem xT.snoc {x:List Block} {u:ef} (h:xT lv zs) (hl:Own w lo 147 3 aO lv.A lv.n lv.c x) (hu:∀ g,aJ u.aj.A u.aj.c=some g->w.heap.size<=g) : xT lv (zs++[u]):=fun y hy g e e2=>by
 rcases adm.1 hy with hy|hy
 ·exact h y hy g e e2
 ·simp at hy;subst hy;have:=hu g e
  have:=hl.lt_size g e2
  omega
structure L0 (w:World) (lo:Nat) (r:jy) (h:Heap) : Prop where
 own:jH w lo r h
 all:∃ zs ls,lf w lo r.bp zs h.bp∧gl w lo r.av ls h.av∧vf r.dO zs ls∧xT r.Live zs
set_option maxHeartbeats 4000000 in
theorem ul (r:jy) (h:Heap) (w:World) (hr:Iz w r h) (hs:h.small) :
 bF prog 38 [.agg (dG r).toArray] w fun v w' => ∃ s,v = .agg (dG s).toArray∧L0 w' w.heap.size s h:=by
 refine aC func38 rfl ntmps38 rfl ?_;refine CW.seq (CW.region (SW.box rfl rfl fun b1 w1 hw lp aZ => ?_));refine SW.alloc rfl fun b2 w2 bt fA au => ?_
 have u5:=hw.up fA
 have OC:b2≠b1:=by have:=aZ.lt;omega
 (obtain ⟨hw,aZ⟩:=df bt hw aZ);obtain ⟨zs,hz⟩:=hr.ct;obtain ⟨ls,hl⟩:=hr.lists;have Tl:=hr.eE.len;have So:=hr.live.len;have s1:=hs.eE;have s2:=hs.live;have s3:=hs.ct;have s4:=hs.lists;obtain ⟨z1,z2⟩:=hz.len;obtain ⟨l1,l2⟩:=hl.len;refine Wz ?_
 obtain ⟨K,hK⟩ : ∃ K:Env->World->Prop,K=fun L' w' => ∃ X c1 Y d1 b3,iw L' [(1,.pointer (some ⟨b1,0,none⟩)),(2,.pointer (some ⟨b2,0,none⟩)),(3,.pointer (some ⟨b3,0,none⟩))]∧Ext w w'∧aS w' b1 41 (dG r)∧aS w' b2 41 (dG .zero) ∧
  aS w' b3 41 (dG ⟨.nil,⟨X,r.dO.n,c1⟩,r.bG,.nil,⟨Y,r.Live.n,d1⟩⟩)∧Own w' w.heap.size 3 1 bw X r.dO.n c1 h.dO∧Own w' w.heap.size 147 3 aO Y r.Live.n d1 h.Live∧w.heap.size<=b3∧b1≠b3∧b2≠b3:=⟨_,rfl⟩
 refine CW.cut K ?_ ?_
 ·focus
   refine CW.any 10 mixed (dk (by kernel_rfl)) rfl fun w1 ai aG => ?_
   obtain ⟨hw,aZ,au⟩:=cn ai hw aZ au;clear ai;refine Wa ?_;refine SA.two 2 9 rfl rfl (by kernel_rfl) rfl rfl ?_ ?_
   focus
    refine Wk (dF _ _ _ _ _ (hr.eE.ext hw) (by omega)) fun v w4 ak hv => ?_
    obtain ⟨X,c4,rfl,hX⟩:=hv;have hX:=hX.low hw.size;obtain ⟨hw,aZ,au⟩:=cn ak hw aZ au;try have aq:=aq.ext ak
    refine SW.nil (ae.sa ak ?_);refine SA.two 7 9 rfl rfl (by kernel_rfl) rfl rfl ?_ ?_
    focus
     refine Wk (lx _ _ _ _ _ (hr.live.ext hw) (by omega)) fun v w4 ak hv => ?_
     obtain ⟨Y,d4,rfl,hY⟩:=hv;have hY:=hY.low hw.size;obtain ⟨hX,hw,aZ,au⟩:=dv ak hX hw aZ au;try have aq:=aq.ext ak
     refine SW.nil (ae.sa ak ?_);refine Wa ?_;refine SA.one 9 rfl (by kernel_rfl) rfl ?_;refine SW.alloc rfl fun b3 w4 ak cg aq => ?_
     have gd:=hw.up cg
     have rO:b1≠b3:=by have:=aZ.lt;omega
     have pr:b2≠b3:=by have:=au.lt;omega
     obtain ⟨hw,aZ,au⟩:=cn ak hw aZ au;try have hX:=hX.ext ak
     try have hY:=hY.ext ak
     refine SW.nil (ae.sa ak ?_)
    rotate_left
    focus
     refine SW.alloc rfl fun b3 w4 ak cg aq => ?_
     have gd:=hw.up cg
     have rO:b1≠b3:=by have:=aZ.lt;omega
     have pr:b2≠b3:=by have:=au.lt;omega
     obtain ⟨hw,aZ,au⟩:=cn ak hw aZ au;try have hX:=hX.ext ak
     try have hY:=hY.ext ak
     refine SW.nil (ae.sa ak ?_);refine SA.one 7 rfl (by kernel_rfl) rfl ?_;refine Wk (lx _ _ _ _ _ (hr.live.ext hw) (by omega)) fun v w4 ak hv => ?_
     obtain ⟨Y,d4,rfl,hY⟩:=hv;have hY:=hY.low hw.size;obtain ⟨hX,hw,aZ,au⟩:=dv ak hX hw aZ au;try have aq:=aq.ext ak
     refine SW.nil (ae.sa ak ?_);refine Wa ?_
    rotate_left
   rotate_left 2
   focus
    refine SW.alloc rfl fun b3 w4 ak cg aq => ?_
    have gd:=hw.up cg
    have rO:b1≠b3:=by have:=aZ.lt;omega
    have pr:b2≠b3:=by have:=au.lt;omega
    obtain ⟨hw,aZ,au⟩:=cn ak hw aZ au;try have hX:=hX.ext ak
    try have hY:=hY.ext ak
    refine SW.nil (ae.sa ak ?_);refine SA.one 2 rfl (by kernel_rfl) rfl ?_;refine Wk (dF _ _ _ _ _ (hr.eE.ext hw) (by omega)) fun v w4 ak hv => ?_
    obtain ⟨X,c4,rfl,hX⟩:=hv;have hX:=hX.low hw.size;obtain ⟨hw,aZ,au⟩:=cn ak hw aZ au;try have aq:=aq.ext ak
    refine SW.nil (ae.sa ak ?_);refine SA.one 7 rfl (by kernel_rfl) rfl ?_;refine Wk (lx _ _ _ _ _ (hr.live.ext hw) (by omega)) fun v w4 ak hv => ?_
    obtain ⟨Y,d4,rfl,hY⟩:=hv;have hY:=hY.low hw.size;obtain ⟨hX,hw,aZ,au⟩:=dv ak hX hw aZ au;try have aq:=aq.ext ak
    refine SW.nil (ae.sa ak ?_);refine Wa ?_
   rotate_left
   all_goals
    refine SA.done (by kernel_rfl) ?_;skip;refine SW.ag aq rfl rfl rfl rfl (dY ⟨.nil,⟨X,r.dO.n,c4⟩,r.bG,.nil,⟨Y,r.Live.n,d4⟩⟩) fun w5 cX hg => ?_
    have hG:=aq.gr hg;have hw:=hw.own gd hg;(obtain ⟨hX,hY⟩:=df hG hX hY);have aZ:=aZ.grown hg (by simpa using rO);have au:=au.grown hg (by simpa using pr);refine Wz ?_;exact ae.cut (K:=K) (by rw [hK];exact ⟨X,c4,Y,d4,b3,⟨rfl,rfl,rfl,trivial⟩,hw,aZ,au,cX,hX,hY,gd,rO,pr⟩)
 ·clear aZ au hw;subst hK;rintro L' w' ⟨X,c4,Y,d4,b3,jA,hw,aZ,au,aq,hX,hY,gd,rO,pr⟩
  refine ae.sub jA ?_;refine Wz ?_
  refine CW.loop (fun s:Nat×Option Addr×Nat×List ef=>[(1,.pointer (some ⟨b1,0,none⟩)),(2,.pointer (some ⟨b2,0,none⟩)),(3,.pointer (some ⟨b3,0,none⟩)),(18,.slice r.bp.A r.bp.n r.bp.c),(19,.int .i64 (r.bp.n:Int)),(20,.int .i64 (s.1:Int))])
   (fun s w'=>s.1<=r.bp.n∧Ext w w'∧aS w' b1 41 (dG r)∧aS w' b2 41 (dG .zero)∧aS w' b3 41 (dG ⟨⟨s.2.1,s.1,s.2.2.1⟩,⟨X,r.dO.n,c4⟩,r.bG,.nil,⟨Y,r.Live.n,d4⟩⟩)∧Own w' w.heap.size 3 1 bw X r.dO.n c4 h.dO∧Own w' w.heap.size 147 3 aO Y r.Live.n d4 h.Live ∧
     lf w' w.heap.size ⟨s.2.1,s.1,s.2.2.1⟩ s.2.2.2 (h.bp.take s.1)∧xT ⟨Y,r.Live.n,d4⟩ s.2.2.2) (fun s=>r.bp.n-s.1) (0,none,0,[]) ⟨rfl,rfl,rfl,rfl,rfl,rfl,trivial⟩ ⟨by omega,hw,aZ,au,aq,hX,hY,lf.nil _ _,xT.nil _⟩ ?_
  clear aZ au aq hX hY hw jA;rintro ⟨k,A,c,zr⟩ w' ⟨hk,hw,aZ,au,aq,hX,hY,hO,N2⟩
  simp only at hk aq hO N2 ⊢;have hA:=hz.row.base;by_cases gp:k<r.bp.n
  ·have VK:=hz.each.get k (by omega) (by omega);have cy:h.bp[k]'(by omega)∈h.bp:=adb _
   have q:=hs.free _ cy;have q1:=VK.free.len;have q2:=VK.types.len;repeat' (first|refine Wz ?_|refine Wo hw ((hz.row.all gp)) ?_)
   refine SW.alloc rfl fun b5 w1 ai gx aM => ?_
   skip;refine SW.ag aM rfl rfl rfl rfl (fK _) fun w2 eV hg => ?_
   have ak:=ai.own gx hg;have jI:=hw.up gx
   obtain ⟨hw,aZ,au,aq,hX,hY,hO⟩:=uK ak hw aZ au aq hX hY hO;have aM:=eV;clear eV ai hg ak;refine Wz ?_;refine CW.any 5 mixed (dk (by kernel_rfl)) rfl fun w1 ai aG => ?_
   obtain ⟨hw,aZ,au,aq,aM,hX,hY,hO⟩:=xQ ai hw aZ au aq aM hX hY hO;clear ai;refine Wa ?_;refine SA.one 3 rfl (by kernel_rfl) rfl ?_;refine Wk (sZ _ _ _ (VK.ext hw) (by omega) (by omega)) fun v w4 ak hv => ?_
   obtain ⟨s,rfl,nt,e1,e2⟩:=hv;have VL:=N2.snoc (u:=s) hY nt.free.a9;have nt:=nt.low hw.size;(obtain ⟨hw,aZ,au,aq,aM,hX,hY,hO⟩:=xQ ak hw aZ au aq aM hX hY hO);refine SW.nil (ae.sa ak ?_);refine SA.one 4 rfl (by kernel_rfl) rfl ?_;refine SW.dI rfl rfl rfl rfl rfl fun b w4 ak hb hB => ?_
   (obtain ⟨hw,aZ,au,aq,aM,hX,hY,hO,nt⟩:=LG ak hw aZ au aq aM hX hY hO nt);refine SW.nil (ae.sa ak ?_);refine SA.done (by kernel_rfl) ?_;refine SW.append hO.row (aS.ue (enc:=dt) hB) hw.size rfl rfl rfl (by simp only;omega) (by simp only;omega) fun A2 c2 w5 lD hg => ?_
   have hG:=hO.row.gr hg;have hw:=aD hw hg (adg _) hO.row.a9;(obtain ⟨aZ,au,aq,hX,hY,nt⟩:=gw hG aZ au aq hX hY nt);have hE:=hO.each.mono fun _ _ h=>h.aK hG rfl
   refine Wz ?_;refine Wb (i:=0) aq fun w6 ed hg => ?_
   have hG:=aq.gr hg;have hw:=hw.own gd hg;have aZ:=aZ.grown hg (by simpa using rO);have au:=au.grown hg (by simpa using pr);(obtain ⟨hX,hY,nt,lD⟩:=dv hG hX hY nt lD);have hE:=hE.mono fun _ _ h=>h.aK hG rfl
   refine Wz ?_;refine ae.again (k+1,A2,c2,zr++[s]) ⟨rfl,rfl,rfl,rfl,rfl,rfl,trivial⟩ (by simp only;omega) ⟨by simp only;omega,hw,aZ,au,ed,hX,hY,⟨lD,?_⟩,VL⟩;rw [adk (by omega)];exact hE.snoc nt
  ·obtain rfl:k=r.bp.n:=by omega
   rw [adr (by omega)] at hO;refine Wz ?_
   refine CW.loop (fun s:Nat×Option Addr×Nat×List dx=>[(2,.pointer (some ⟨b2,0,none⟩)),(3,.pointer (some ⟨b3,0,none⟩)),(33,.slice r.av.A r.av.n r.av.c),(34,.int .i64 (r.av.n:Int)),(35,.int .i64 (s.1:Int))])
    (fun s w'=>s.1<=r.av.n∧Ext w w'∧aS w' b2 41 (dG .zero)∧aS w' b3 41 (dG ⟨⟨A,r.bp.n,c⟩,⟨X,r.dO.n,c4⟩,r.bG,⟨s.2.1,s.1,s.2.2.1⟩,⟨Y,r.Live.n,d4⟩⟩)∧Own w' w.heap.size 3 1 bw X r.dO.n c4 h.dO∧Own w' w.heap.size 147 3 aO Y r.Live.n d4 h.Live ∧
      lf w' w.heap.size ⟨A,r.bp.n,c⟩ zr h.bp∧gl w' w.heap.size ⟨s.2.1,s.1,s.2.2.1⟩ s.2.2.2 (h.av.take s.1)∧vf ⟨X,r.dO.n,c4⟩ zr s.2.2.2) (fun s=>r.av.n-s.1) (0,none,0,[]) ⟨rfl,rfl,rfl,rfl,rfl,trivial⟩ ⟨by omega,hw,au,aq,hX,hY,hO,gl.nil _ _,vf.nil _ _⟩ ?_
   clear aZ au aq hX hY hw hO;rintro ⟨k,B,d,lr⟩ w' ⟨hk,hw,au,aq,hX,hY,hO,hP,xU⟩
   simp only at hk aq hP xU ⊢;have hA:=hl.row.base;by_cases gp:k<r.av.n
   ·have JG:=hl.each.get k (by omega) (by omega);have cy:h.av[k]'(by omega)∈h.av:=adb _
    have q:=hs.bC _ cy;have q1:=JG.bC.len;repeat' (first|refine Wz ?_|refine Wo hw ((hl.row.all gp)) ?_)
    have VM:=hP.row.lt_size;refine SW.alloc rfl fun b7 w1 ai iI bf => ?_
    skip;refine SW.ag bf rfl rfl rfl rfl (LZ _) fun w2 bq hg => ?_
    have ak:=ai.own iI hg;have gf:=hw.up iI
    obtain ⟨hw,au,aq,hX,hY,hO,hP⟩:=uK ak hw au aq hX hY hO hP;have bf:=bq;clear bq ai hg ak;refine Wz ?_;refine Wk (dF _ _ _ _ _ (JG.bC.ext hw) (by omega)) fun v w4 ak hv => ?_
    obtain ⟨W,e4,rfl,hW⟩:=hv;have xU:=xU.snoc (y:=⟨ls[k].ga,ls[k].ao,ls[k].Ty,⟨W,ls[k].ax.n,e4⟩⟩) hX hO hP hW.a9;have hW:=hW.low hw.size;(obtain ⟨hw,au,aq,bf,hX,hY,hO,hP⟩:=xQ ak hw au aq bf hX hY hO hP);refine Wz ?_;refine Wb (i:=3) bf fun w5 bq hg => ?_
    have hG:=bf.gr hg;have hw:=hw.own gf hg;(obtain ⟨au,aq,hX,hY,hO,hW⟩:=gw hG au aq hX hY hO hW);have hP:gl w5 w.heap.size ⟨B,k,d⟩ lr (h.av.take k):=⟨hP.row.grown hg (.inr (fun e=>by have:=VM _ e;omega)),hP.each.mono fun _ _ h=>h.aK hG rfl⟩;refine Wz ?_;refine SW.dI rfl rfl rfl rfl rfl fun b w6 ak hb hB => ?_
    (obtain ⟨hw,au,aq,hX,hY,hO,hP,hW⟩:=xQ ak hw au aq hX hY hO hP hW);refine SW.append hP.row (aS.ue (enc:=cm) (x:=⟨ls[k].ga,ls[k].ao,ls[k].Ty,⟨W,_,e4⟩⟩) hB) hw.size rfl rfl rfl (by simp only;omega) (by simp only;omega) fun A2 c2 w7 PU hg => ?_
    have hG:=hP.row.gr hg;have hw:=aD hw hg (adg _) hP.row.a9;(obtain ⟨au,aq,hX,hY,hO,hW⟩:=gw hG au aq hX hY hO hW);have hE:=hP.each.mono fun _ _ h=>h.aK hG rfl
    refine Wz ?_;refine Wb (i:=3) aq fun w8 ed hg => ?_
    have hG:=aq.gr hg;have hw:=hw.own gd hg;have au:=au.grown hg (by simpa using pr);(obtain ⟨hX,hY,hO,PU,hW⟩:=fD hG hX hY hO PU hW);have hE:=hE.mono fun _ _ h=>h.aK hG rfl
    refine Wz ?_;refine ae.again (k+1,A2,c2,lr++[⟨ls[k].ga,ls[k].ao,ls[k].Ty,⟨W,_,e4⟩⟩]) ⟨rfl,rfl,rfl,rfl,rfl,trivial⟩ (by simp only;omega) ⟨by simp only;omega,hw,au,ed,hX,hY,hO,⟨PU,?_⟩,xU⟩;rw [adk (by omega)];exact hE.snoc ⟨JG.cpu,JG.kr,JG.ty,hW⟩
   ·obtain rfl:k=r.av.n:=by omega
    rw [adr (by omega)] at hP;refine Wz ?_;refine SW.ag au rfl rfl rfl rfl (dY _) fun w5 cX hg => ?_
    have hG:=au.gr hg;have hw:=hw.own u5 hg;(obtain ⟨hX,hY,hO,hP⟩:=dv hG hX hY hO hP);refine Wz ?_;exact ae.En rfl rfl cX rfl ⟨_,rfl,hw,⟨⟨A,r.bp.n,c⟩,⟨X,r.dO.n,c4⟩,r.bG,⟨B,r.av.n,d⟩,⟨Y,r.Live.n,d4⟩⟩,rfl,⟨hr.cpus,hX,hY,⟨zr,hO⟩,⟨lr,hP⟩⟩,zr,lr,hO,hP,xU,N2⟩
theorem mn (r:jy) (h:Heap) (w:World) (hr:Iz w r h) (hs:h.small) :
 bF prog 38 [.agg (dG r).toArray] w fun v w' => ∃ s,v = .agg (dG s).toArray∧jH w' w.heap.size s h :=
 (ul r h w hr hs).mono fun _ _ _ ⟨s,hv,ho⟩=>⟨s,hv,ho.own⟩
theorem tT (A:Option Addr) (n c:Nat) (l:List Slab) (w:World) (hl:Sl w 3 bh A n l) (hn:n*24<=140737488355328) : bF prog 40 [.slice A n c] w (zj w 111 3 bh n l):=by
 refine aC func40 rfl ntmps40 rfl ?_;have hw:=Ext.refl w;refine Wz ?_;refine SW.st (r7 rfl rfl) rfl ?_;repeat' (first|refine Wz ?_|(refine CW.cond rfl (fun h => ?_) (fun h => ?_)))
 ·have Gv:n=0:=by
   rcases adu n with h0|h0
   ·exact h0
   ·have:=hl.base h0;simp_all
  subst Gv;have:l=[]:=adw hl.len
  subst this;exact ae.bg rfl rfl ⟨_,rfl,hw,none,0,rfl,Own.fF _ _ _ _ _ _⟩
 ·refine SW.za rfl fun b w1 ai hb => ?_
  have hw:=hw.trans ai;refine Wz ?_;refine SW.uW (aeD n) (ad5 l) (Own.fF w1 w.heap.size _ _ bh (some ⟨b,0,none⟩)) (hl.ext hw) hw.size rfl rfl rfl (by omega) (by omega) fun A2 c2 w2 hO hg => ?_
  have hw:=aD hw hg (adg _) (by simp [aJ]);refine Wz ?_;exact ae.bg rfl rfl ⟨_,rfl,hw,A2,c2,rfl,hO⟩
variable {sz:Nat} {enc:α -> List Value}
structure aQ where
 Names:List ByteArray
 az:Int
 bL:Int
 Order:Int
 ab:List Slab
 ap:List Int
structure ah where
 Words:List Int
 Heap:Heap
 aa:List aQ
def encStr (s:ByteArray) : List Value:=[.string s]
instance:iy encStr 1:=⟨fun _=>rfl,fun r u hu=>by simp [encStr] at hu;subst hu;rfl⟩
structure dS where
 Names:gb
 az:Int
 bL:Int
 Order:Int
 ab:gb
 ap:gb
def fQ (r:dS) : List Value:=[r.Names.v,.int .i64 r.az,.int .i64 r.bL,.int .i64 r.Order,r.ab.v,r.ap.v]
instance:iy fQ 6:=⟨fun _=>rfl,fun r u hu=>by simp [fQ,gb.v] at hu;rcases hu with rfl|rfl|rfl|rfl|rfl|rfl<;>rfl⟩
structure da where
 Words:gb
 Heap:jy
 aa:gb
def aP (r:da) : List Value:=[r.Words.v,r.Heap.bp.v,r.Heap.dO.v,.int .i64 r.Heap.bG,r.Heap.av.v,r.Heap.Live.v,r.aa.v]
instance:iy aP 7:=⟨fun _=>rfl,fun r u hu=>by simp [aP,gb.v] at hu;rcases hu with rfl|rfl|rfl|rfl|rfl|rfl|rfl<;>rfl⟩
def da.zero:da:=⟨.nil,.zero,.nil⟩
theorem BV (r:dS) : ∀ v∈fQ r,v.oneCell'=true:=iy.one (enc:=fQ) r
theorem aY (r:da) : ∀ v∈aP r,v.oneCell'=true:=iy.one (enc:=aP) r
theorem mo {t:Nat} {r:da} (h:aS w b t (aP r)) : ∀ j v,(dG r.Heap)[j]?=some v->w.cell? ((((⟨b,0,none⟩ : Addr)).add 1).add j)=some v:=fun j v hv=>by
 rw [add_add];refine h.cell (i:=1+j) ?_
 match j,hv with
 | 0,hv=>exact hv
 | 1,hv=>exact hv
 | 2,hv=>exact hv
 | 3,hv=>exact hv
 | 4,hv=>exact hv
 | j+5,hv=>simp [dG] at hv
theorem Own.L4 {n c:Nat} {l:List α} (h:Own w lo e sz enc A n c l) : n<=c:=by
 rcases h.row with ⟨rfl,rfl⟩|⟨_,_,_,_,_,_,h,_⟩
 ·exact adg _
 ·exact h
structure GY (w:World) (r:dS) (c:aQ) : Prop where
 size:r.az=c.az
 per:r.bL=c.bL
 order:r.Order=c.Order
 names:Sl w 1 encStr r.Names.A r.Names.n c.Names
 aE:Sl w 3 bh r.ab.A r.ab.n c.ab
 ba:Sl w 1 bw r.ap.A r.ap.n c.ap
 cap:r.ap.n<=r.ap.c
structure oE (w:World) (lo:Nat) (r:dS) (c:aQ) : Prop where
 size:r.az=c.az
 per:r.bL=c.bL
 order:r.Order=c.Order
 names:Own w lo 9 1 encStr r.Names.A r.Names.n r.Names.c c.Names
 aE:Own w lo 111 3 bh r.ab.A r.ab.n r.ab.c c.ab
 ba:Own w lo 3 1 bw r.ap.A r.ap.n r.ap.c c.ap
section
variable {w w':World} {lo oA t:Nat} {r:dS} {c:aQ}
theorem GY.ext (h:GY w r c) (hx:Ext w w') : GY w' r c:=⟨h.size,h.per,h.order,h.names.ext hx,h.aE.ext hx,h.ba.ext hx,h.cap⟩
theorem oE.ext (h:oE w lo r c) (hx:Ext w w') : oE w' lo r c:=⟨h.size,h.per,h.order,h.names.ext hx,h.aE.ext hx,h.ba.ext hx⟩
theorem oE.low (h:oE w lo r c) (hl:oA<=lo) : oE w oA r c:=⟨h.size,h.per,h.order,h.names.low hl,h.aE.low hl,h.ba.low hl⟩
theorem oE.rd (h:oE w lo r c) : GY w r c:=⟨h.size,h.per,h.order,h.names.sl,h.aE.sl,h.ba.sl,h.ba.L4⟩
theorem oE.aK (h:oE w lo r c) (hG:rL w w' t) (bJ:(Nat.beq t 9 || (Nat.beq t 111 || Nat.beq t 3))=false) : oE w' lo r c:=by
 simp only [Bool.or_eq_false_iff] at bJ;exact ⟨h.size,h.per,h.order,h.names.aK hG bJ.1,h.aE.aK hG bJ.2.1,h.ba.aK hG bJ.2.2⟩
end
structure GZ (w:World) (s:gb) (cs:List dS) (l:List aQ) : Prop where
 row:Sl w 6 fQ s.A s.n cs
 each:gg (GY w) cs l
 cap:s.n<=s.c
structure fw (w:World) (lo:Nat) (s:gb) (cs:List dS) (l:List aQ) : Prop where
 row:Own w lo 107 6 fQ s.A s.n s.c cs
 each:gg (oE w lo) cs l
section
variable {w w':World} {lo oA t:Nat} {s:gb} {cs:List dS} {l:List aQ}
theorem GZ.ext (h:GZ w s cs l) (hx:Ext w w') : GZ w' s cs l:=⟨h.row.ext hx,h.each.mono fun _ _ h=>h.ext hx,h.cap⟩
theorem fw.ext (h:fw w lo s cs l) (hx:Ext w w') : fw w' lo s cs l:=⟨h.row.ext hx,h.each.mono fun _ _ h=>h.ext hx⟩
theorem fw.low (h:fw w lo s cs l) (hl:oA<=lo) : fw w oA s cs l:=⟨h.row.low hl,h.each.mono fun _ _ h=>h.low hl⟩
theorem fw.rd (h:fw w lo s cs l) : GZ w s cs l:=⟨h.row.sl,h.each.mono fun _ _ h=>h.rd,h.row.L4⟩
theorem fw.aK (h:fw w lo s cs l) (hG:rL w w' t) (bJ:(Nat.beq t 107 || (Nat.beq t 9 || (Nat.beq t 111 || Nat.beq t 3)))=false) : fw w' lo s cs l:=by
 rw [aeG] at bJ;exact ⟨h.row.aK hG bJ.1,h.each.mono fun _ _ h=>h.aK hG bJ.2⟩
theorem fw.nil (w:World) (lo:Nat) : fw w lo .nil [] []:=⟨Own.fF _ _ _ _ _ _,.nil⟩
theorem GZ.len (h:GZ w s cs l) : cs.length=s.n∧l.length=s.n:=⟨h.row.len,by rw [<- h.each.len,h.row.len]⟩
theorem fw.eM {vs:List Value} (h:fw w lo s cs l) (hB:aS w b 107 vs) (hg:w.grownBy w' (some b)) (eX:∀ k,aJ s.A s.c=some k->k<oA) (hm:oA<=b) : fw w' lo s cs l :=
 ⟨h.row.grown hg (.inr (fun e=>by have:=eX _ e;omega)),h.each.mono fun _ _ h=>h.aK (hB.gr hg) rfl⟩
end
structure Bh (w:World) (r:da) (s:ah) : Prop where
 words:Sl w 1 bw r.Words.A r.Words.n s.Words
 heap:Iz w r.Heap s.Heap
 br:∃ cs,GZ w r.aa cs s.aa
structure iY (w:World) (lo:Nat) (r:da) (s:ah) : Prop where
 words:Own w lo 3 1 bw r.Words.A r.Words.n r.Words.c s.Words
 heap:jH w lo r.Heap s.Heap
 br:∃ cs,fw w lo r.aa cs s.aa
section
variable {w w':World} {lo oA t:Nat} {r:da} {s:ah}
theorem Bh.ext (h:Bh w r s) (hx:Ext w w') : Bh w' r s:=by
 obtain ⟨cs,hc⟩:=h.br;exact ⟨h.words.ext hx,h.heap.ext hx,⟨cs,hc.ext hx⟩⟩
theorem iY.ext (h:iY w lo r s) (hx:Ext w w') : iY w' lo r s:=by
 obtain ⟨cs,hc⟩:=h.br;exact ⟨h.words.ext hx,h.heap.ext hx,⟨cs,hc.ext hx⟩⟩
theorem iY.low (h:iY w lo r s) (hl:oA<=lo) : iY w oA r s:=by
 obtain ⟨cs,hc⟩:=h.br;exact ⟨h.words.low hl,h.heap.low hl,⟨cs,hc.low hl⟩⟩
theorem iY.rd (h:iY w lo r s) : Bh w r s:=by
 obtain ⟨cs,hc⟩:=h.br;exact ⟨h.words.sl,h.heap.rd,⟨cs,hc.rd⟩⟩
end
structure aQ.small (c:aQ) : Prop where
 names:c.Names.length*16<=140737488355328
 aE:c.ab.length*24<=140737488355328
 ba:c.ap.length*8<=140737488355328
structure ah.small (s:ah) : Prop where
 words:s.Words.length*8<=140737488355328
 heap:s.Heap.small
 br:s.aa.length*96<=140737488355328
 each:∀ c∈s.aa,c.small
instance:IE prog 9:=⟨by kernel_rfl⟩
theorem QX:prog.underlying 5=some (.int .u8):=by kernel_rfl
theorem um (A:Option Addr) (n c:Nat) (l:List UInt8) (w:World) (hl:Sl w 1 Dp A n l) (f:FuncId) (cap:List Value) [Body prog f] (p:UInt8->Bool) (arg:UInt8->Value) (qL:∀ x,arg x=(if 1=1 then (Dp x)[0]?.getD undef else .agg (Dp x).toArray))
 (hf:∀ x∈l,∀ w',Ext w w'->bF prog f ([arg x]++cap) w' fun v _=>v = .bool (p x)) (hn:n<=9223372036854775807) :
 bF prog 138 [.slice A n c,.func (.func f) #[] cap.toArray] w fun v _=>v = .int .i64 (idxOf p l):=by
 refine aC func138 rfl ntmps138 rfl ?_;have hw:=Ext.refl w;have hA:=hl.base;refine Wz ?_;refine CW.loop (fun k:Nat=>[(0,.slice A n c),(1,.func (.func f) #[] cap.toArray),(7,.int .i64 (n:Int)),(8,.int .i64 (k:Int))]) (fun k w'=>k<=n∧Ext w w' ∧ ∀ j (hj:j<l.length),j<k->p l[j]=false) (fun k=>n-k) 0 ⟨rfl,rfl,rfl,rfl,trivial⟩ ⟨by omega,hw,fun j _ h=>by omega⟩ ?_;clear hw;rintro k w' ⟨bW,hw,hI⟩
 by_cases hk:k<n
 ·have hx:=qL (l[k]'(hl.lt hk));have vV:=hf (l[k]'(hl.lt hk)) (adb _);rw [hx] at vV;repeat' (first|refine Wz ?_|refine Wn hw (hl.one hk rfl) ?_)
  refine SW.tP rfl rfl rfl (vV _ hw) fun v w1 ai hv => ?_
  subst hv;have hw:=hw.trans ai;cases hp:p (l[k]'(hl.lt hk))
  ·refine Wz ?_;refine ae.again (k+1) ⟨rfl,rfl,rfl,rfl,trivial⟩ (by omega) ⟨by omega,hw,fun j hj h => ?_⟩;by_cases nk:j=k
   ·subst nk;exact hp
   ·exact hI j hj (by omega)
  ·refine Wz ?_;exact ae.bg rfl rfl ⟨_,rfl,hw,by rw [mi (hl.lt hk) hp hI]⟩
 ·refine Wz ?_;exact ae.bg rfl rfl ⟨_,rfl,hw,by rw [(jW (fun j hj=>hI j hj (by have:=hl.len;omega))).1]⟩
theorem lE (A:Option Addr) (n c:Nat) (l:List Slab) (w:World) (hl:Sl w 3 bh A n l) (f:FuncId) (cap:List Value) [Body prog f] (p:Slab->Bool) (arg:Slab->Value) (qL:∀ x,arg x=(if 3=1 then (bh x)[0]?.getD undef else .agg (bh x).toArray))
 (hf:∀ x∈l,∀ w',Ext w w'->bF prog f ([arg x]++cap) w' fun v _=>v = .bool (p x)) (hn:n<=9223372036854775807) :
 bF prog 153 [.slice A n c,.func (.func f) #[] cap.toArray] w fun v _=>v = .int .i64 (idxOf p l):=by
 refine aC func153 rfl ntmps153 rfl ?_;have hw:=Ext.refl w;have hA:=hl.base;refine Wz ?_;refine CW.loop (fun k:Nat=>[(0,.slice A n c),(1,.func (.func f) #[] cap.toArray),(7,.int .i64 (n:Int)),(8,.int .i64 (k:Int))]) (fun k w'=>k<=n∧Ext w w' ∧ ∀ j (hj:j<l.length),j<k->p l[j]=false) (fun k=>n-k) 0 ⟨rfl,rfl,rfl,rfl,trivial⟩ ⟨by omega,hw,fun j _ h=>by omega⟩ ?_;clear hw;rintro k w' ⟨bW,hw,hI⟩
 by_cases hk:k<n
 ·have hx:=qL (l[k]'(hl.lt hk));have vV:=hf (l[k]'(hl.lt hk)) (adb _);rw [hx] at vV;repeat' (first|refine Wz ?_|refine Wo hw ((hl.all hk)) ?_)
  refine SW.tP rfl rfl rfl (vV _ hw) fun v w1 ai hv => ?_
  subst hv;have hw:=hw.trans ai;cases hp:p (l[k]'(hl.lt hk))
  ·refine Wz ?_;refine ae.again (k+1) ⟨rfl,rfl,rfl,rfl,trivial⟩ (by omega) ⟨by omega,hw,fun j hj h => ?_⟩;by_cases nk:j=k
   ·subst nk;exact hp
   ·exact hI j hj (by omega)
  ·refine Wz ?_;exact ae.bg rfl rfl ⟨_,rfl,hw,by rw [mi (hl.lt hk) hp hI]⟩
 ·refine Wz ?_;exact ae.bg rfl rfl ⟨_,rfl,hw,by rw [(jW (fun j hj=>hI j hj (by have:=hl.len;omega))).1]⟩
theorem lF (A:Option Addr) (n c:Nat) (l:List dS) (w:World) (hl:Sl w 6 fQ A n l) (f:FuncId) (cap:List Value) [Body prog f] (p:dS->Bool) (arg:dS->Value) (qL:∀ x,arg x=(if 6=1 then (fQ x)[0]?.getD undef else .agg (fQ x).toArray))
 (hf:∀ x∈l,∀ w',Ext w w'->bF prog f ([arg x]++cap) w' fun v _=>v = .bool (p x)) (hn:n<=9223372036854775807) :
 bF prog 49 [.slice A n c,.func (.func f) #[] cap.toArray] w fun v _=>v = .int .i64 (idxOf p l):=by
 refine aC func49 rfl ntmps49 rfl ?_;have hw:=Ext.refl w;have hA:=hl.base;refine Wz ?_;refine CW.loop (fun k:Nat=>[(0,.slice A n c),(1,.func (.func f) #[] cap.toArray),(7,.int .i64 (n:Int)),(8,.int .i64 (k:Int))]) (fun k w'=>k<=n∧Ext w w' ∧ ∀ j (hj:j<l.length),j<k->p l[j]=false) (fun k=>n-k) 0 ⟨rfl,rfl,rfl,rfl,trivial⟩ ⟨by omega,hw,fun j _ h=>by omega⟩ ?_;clear hw;rintro k w' ⟨bW,hw,hI⟩
 by_cases hk:k<n
 ·have hx:=qL (l[k]'(hl.lt hk));have vV:=hf (l[k]'(hl.lt hk)) (adb _);rw [hx] at vV;repeat' (first|refine Wz ?_|refine Wo hw ((hl.all hk)) ?_)
  refine SW.tP rfl rfl rfl (vV _ hw) fun v w1 ai hv => ?_
  subst hv;have hw:=hw.trans ai;cases hp:p (l[k]'(hl.lt hk))
  ·refine Wz ?_;refine ae.again (k+1) ⟨rfl,rfl,rfl,rfl,trivial⟩ (by omega) ⟨by omega,hw,fun j hj h => ?_⟩;by_cases nk:j=k
   ·subst nk;exact hp
   ·exact hI j hj (by omega)
  ·refine Wz ?_;exact ae.bg rfl rfl ⟨_,rfl,hw,by rw [mi (hl.lt hk) hp hI]⟩
 ·refine Wz ?_;exact ae.bg rfl rfl ⟨_,rfl,hw,by rw [(jW (fun j hj=>hI j hj (by have:=hl.len;omega))).1]⟩
theorem rP (A:Option Addr) (n c:Nat) (l:List UInt8) (w:World) (hl:Sl w 1 Dp A n l) (f:FuncId) (cap:List Value) [Body prog f] (p:UInt8->Bool) (arg:UInt8->Value) (qL:∀ x,arg x=(if 1=1 then (Dp x)[0]?.getD undef else .agg (Dp x).toArray))
 (hf:∀ x∈l,∀ w',Ext w w'->bF prog f ([arg x]++cap) w' fun v _=>v = .bool (p x)) (hn:n<=9223372036854775807) :
 bF prog 85 [.slice A n c,.func (.func f) #[] cap.toArray] w fun v _=>v = .bool (l.any p):=by
 refine aC func85 rfl ntmps85 rfl ?_;have hw:=Ext.refl w;repeat' (first|refine Wz ?_|(refine Wk (um _ _ _ _ _ (hl.ext hw) f cap p arg qL (fun x hx w1 h1=>hf x hx w1 (hw.trans h1)) hn) ?_;intro v w1 ai hv;subst hv;have hw:=hw.trans ai;clear ai))
 exact ae.bg rfl rfl ⟨_,rfl,hw,by rw [ly]⟩
theorem mP (A:Option Addr) (n c:Nat) (l:List dS) (w:World) (hl:Sl w 6 fQ A n l) (f:FuncId) (cap:List Value) [Body prog f] (p:dS->Bool) (arg:dS->Value) (qL:∀ x,arg x=(if 6=1 then (fQ x)[0]?.getD undef else .agg (fQ x).toArray))
 (hf:∀ x∈l,∀ w',Ext w w'->bF prog f ([arg x]++cap) w' fun v _=>v = .bool (p x)) (hn:n<=9223372036854775807) :
 bF prog 83 [.slice A n c,.func (.func f) #[] cap.toArray] w fun v _=>v = .bool (l.any p):=by
 refine aC func83 rfl ntmps83 rfl ?_;have hw:=Ext.refl w;repeat' (first|refine Wz ?_|(refine Wk (lF _ _ _ _ _ (hl.ext hw) f cap p arg qL (fun x hx w1 h1=>hf x hx w1 (hw.trans h1)) hn) ?_;intro v w1 ai hv;subst hv;have hw:=hw.trans ai;clear ai))
 exact ae.bg rfl rfl ⟨_,rfl,hw,by rw [ly]⟩
def tD (b:UInt8) : Bool:=(decide ((b.toNat:Int)<97) || decide (122<(b.toNat:Int))) && (decide ((b.toNat:Int)<48) || decide (57<(b.toNat:Int)))
def gz (s:ByteArray) : Bool:=decide (1<=(s.size:Int)∧(s.size:Int)<=8) && !(s.data.toList.any tD)
theorem OD {s:ByteArray} (h : 1<=s.size∧s.size<=8) (k:s.data.toList.any tD=false) : gz s=true:=by
 unfold gz;rw [k,decide_eq_true (by omega)]
 rfl
theorem G0 {s:ByteArray} (h : ¬ (1<=s.size∧s.size<=8)) : gz s=false:=by
 unfold gz;rw [decide_eq_false (by omega)]
 rfl
theorem JH {s:ByteArray} (k:s.data.toList.any tD=true) : gz s=false:=by
 unfold gz;rw [k];simp
theorem L5 (b:UInt8) (w:World) : bF prog 86 ([.int .u8 b.toNat]++[]) w fun v _=>v = .bool (tD b):=by
 refine aC func86 rfl ntmps86 rfl ?_;have hw:=Ext.refl w;unfold tD;obtain ⟨z,hz⟩ : ∃ z:Int,(b.toNat:Int)=z:=⟨_,rfl⟩;rw [hz];by_cases a1:z<97
 ·by_cases a2:z<48
  ·refine Wz ?_;exact ae.bg rfl rfl ⟨_,rfl,hw,by simp [a1,a2]<;>omega⟩
  ·refine Wz ?_;exact ae.bg rfl rfl ⟨_,rfl,hw,by simp [a1,a2]<;>omega⟩
 ·by_cases a2 : 122<z
  ·refine Wz ?_;exact ae.bg rfl rfl ⟨_,rfl,hw,by simp [a1,a2]<;>omega⟩
  ·refine Wz ?_;exact ae.bg rfl rfl ⟨_,rfl,hw,by simp [a1,a2]<;>omega⟩
theorem EH (s:ByteArray) (w:World) (hs:s.size<=140737488351232) : bF prog 47 [.string s] w fun v _=>v = .bool (gz s):=by
 refine aC func47 rfl ntmps47 rfl ?_;have hw:=Ext.refl w;by_cases h0:s=⟨#[]⟩
 ·subst h0;repeat' (first|refine Wz ?_|refine SW.gi rfl rfl rfl (fun h => ?_) (fun h => ?_)|(refine SW.st (mO rfl rfl) rfl ?_))
  all_goals first|(exfalso;simp_all;done)|skip
  exact ae.bg rfl rfl ⟨_,rfl,hw,rfl⟩
 ·by_cases h8:s.size<=8
  ·have h1 : 1<=s.size:=by
    rcases adu s.size with h|h
    ·exact absurd (by cases s;simp [ByteArray.size] at h;subst h;rfl) h0
    ·exact h
   have bJ:decide (s=⟨#[]⟩)=false:=decide_eq_false h0
   repeat' (first|refine Wz ?_|(refine SW.st ((mO rfl rfl).eq (congrArg Value.bool bJ)) rfl ?_)|refine SW.st (IF rfl) rfl ?_)
   refine SW.JF (e:=5) QX rfl rfl fun b c w1 ai hb hS => ?_
   have hw:=hw.trans ai;refine Wk (rP _ _ _ _ _ hS _ [] tD (fun x => .int .u8 x.toNat) (fun x=>rfl) (fun x _ w1 _=>L5 x w1) (by omega)) fun v w2 bt hv => ?_
   subst hv;have hw:=hw.trans bt;refine Wz ?_;refine ae.bg rfl rfl ⟨_,rfl,hw,?_⟩;cases k:s.data.toList.any tD
   ·rw [OD ⟨h1,h8⟩ k];rfl
   ·rw [JH k];rfl
  ·have bJ:decide (s=⟨#[]⟩)=false:=decide_eq_false h0
   rw [G0 (by omega)];repeat' (first|refine Wz ?_|(refine SW.st ((mO rfl rfl).eq (congrArg Value.bool bJ)) rfl ?_)|refine SW.st (IF rfl) rfl ?_)
   exact ae.bg rfl rfl ⟨_,rfl,hw,rfl⟩
def dp (x:Int) : Int×Int×Int:=if 1<=x∧x<=64 then (if 4<=16 / x then (0,16 / x,0) else if 4<=32 / x then (1,32 / x,0) else (2,64 / x,0)) else (0,0,1)
def oQ (x:Int) : Value := .tuple #[.int .i64 (dp x).1,.int .i64 (dp x).2.1,.int .i64 (dp x).2.2]
theorem zA (x:Int) (w:World) : bF prog 53 [.int .i64 x] w fun v _=>v=oQ x:=by
 refine aC func53 rfl ntmps53 rfl ?_;have hw:=Ext.refl w;repeat' (first|refine Wz ?_|(refine CW.uP rfl (fun h => ?_) (fun h => ?_))|refine SW.gi rfl rfl rfl (fun h => ?_) (fun h => ?_))
 ·refine ae.C5 rfl rfl rfl rfl ⟨_,rfl,hw,?_⟩;unfold oQ dp;rw [if_neg (by omega)]
 ·refine ae.C5 rfl rfl rfl rfl ⟨_,rfl,hw,?_⟩;unfold oQ dp;rw [if_neg (by omega)]
 ·have hx : 1<=x∧x<=64:=by omega
  refine CW.loop (fun k:Nat=>[(0,.int .i64 x),(5,.int .i64 (k:Int))]) (fun k w'=>k<=2∧Ext w w'∧(1<=k -> ¬ 4<=16 / x)∧(2<=k -> ¬ 4<=32 / x)) (fun k=>2-k) 0 ⟨rfl,rfl,trivial⟩ ⟨by omega,hw,by omega,by omega⟩ ?_;clear hw;rintro k w' ⟨hk,hw,h1,h2⟩
  obtain rfl|rfl|rfl:k=0∨k=1∨k=2:=by omega
  ·refine Wz ?_;refine SW.st (fG (r:=16) rfl rfl (by decide) (by decide) (by decide) (by decide) (by decide)) rfl ?_;repeat' (first|refine Wz ?_|refine SW.gi rfl rfl rfl (fun h => ?_) (fun h => ?_))
   ·refine ae.C5 rfl rfl rfl rfl ⟨_,rfl,hw,?_⟩;unfold oQ dp;rw [if_pos (by omega),if_pos (by omega)]
    rfl
   ·exact ae.again 1 ⟨rfl,rfl,trivial⟩ (by omega) ⟨by omega,hw,fun _=>by omega,fun h=>by omega⟩
  ·refine Wz ?_;refine SW.st (fG (r:=32) rfl rfl (by decide) (by decide) (by decide) (by decide) (by decide)) rfl ?_;repeat' (first|refine Wz ?_|refine SW.gi rfl rfl rfl (fun h => ?_) (fun h => ?_))
   ·refine ae.C5 rfl rfl rfl rfl ⟨_,rfl,hw,?_⟩;have:=h1 (by omega)
    unfold oQ dp;rw [if_pos (by omega),if_neg (by omega),if_pos (by omega)]
    rfl
   ·exact ae.again 2 ⟨rfl,rfl,trivial⟩ (by omega) ⟨by omega,hw,fun _=>h1 (by omega),fun _=>by omega⟩
  ·refine Wz ?_;refine SW.st (fG (r:=64) rfl rfl (by decide) (by decide) (by decide) (by decide) (by decide)) rfl ?_;have UT:=h1 (by omega);have ns:=h2 (by omega);repeat' (first|refine Wz ?_|refine SW.gi rfl rfl rfl (fun h => ?_) (fun h => ?_))
   all_goals refine ae.C5 rfl rfl rfl rfl ⟨_,rfl,hw,?_⟩
   all_goals unfold oQ dp
   all_goals rw [if_pos (by omega),if_neg (by omega),if_neg (by omega)]
   all_goals rfl
variable {most:Int}
def uo (b:Bool) : List Value:=[.bool b]
instance:iy uo 1:=⟨fun _=>rfl,fun _ u hu=>by simp [uo] at hu;subst hu;rfl⟩
theorem Dq (A:Option Addr) (n c:Nat) (l:List Int) (x:Int) (w:World) (hl:Sl w 1 bw A n l) (hn:n<=9223372036854775807) :
 bF prog 156 [.slice A n c,.int .i64 x] w fun v _ => ∃ i:Int,v = .int .i64 i∧(0<=i↔x∈l):=by
 refine aC func156 rfl ntmps156 rfl ?_;have hw:=Ext.refl w;have hA:=hl.base;have mH:=hl.len;refine Wz ?_
 refine CW.loop (fun k:Nat=>[(0,.slice A n c),(1,.int .i64 x),(7,.int .i64 (n:Int)),(8,.int .i64 (k:Int))]) (fun k w'=>k<=n∧Ext w w' ∧ ∀ (i:Nat) (h:i<l.length),i<k->l[i]≠x)
  (fun k=>n-k) 0 ⟨rfl,rfl,rfl,rfl,trivial⟩ ⟨by omega,hw,fun i h hi=>by omega⟩ ?_
 clear hw;rintro k w' ⟨hk,hw,hI⟩
 by_cases gp:k<n
 ·repeat' (first|refine Wz ?_|(refine CW.uP rfl (fun h => ?_) (fun h => ?_))|refine Wn hw (hl.one gp rfl) ?_)
  ·refine ae.bg rfl rfl ⟨_,rfl,hw,_,rfl,?_⟩;have hx:x∈l:=by rw [h];exact adb _
   simp [hx]
  ·refine ae.again (k+1) ⟨rfl,rfl,rfl,rfl,trivial⟩ (by omega) ⟨by omega,hw,fun i h' hi => ?_⟩;by_cases Eo:i=k
   ·subst Eo;exact fun e=>h e.symm
   ·exact hI i h' (by omega)
 ·refine Wz ?_;refine ae.bg rfl rfl ⟨_,rfl,hw,_,rfl,?_⟩
  have hx : ¬ x∈l:=fun hm=>by
   obtain ⟨i,hi,e⟩:=ade hm;exact hI i hi (by omega) e
  simp [hx]
theorem ic (A:Option Addr) (n c:Nat) (l:List Int) (x:Int) (w:World) (hl:Sl w 1 bw A n l) (hn:n<=9223372036854775807) :
 bF prog 125 [.slice A n c,.int .i64 x] w fun v _=>v = .bool (decide (x∈l)):=by
 refine aC func125 rfl ntmps125 rfl ?_;have hw:=Ext.refl w;refine Wz ?_;refine Wk (Dq _ _ _ _ _ _ (hl.ext hw) hn) fun v w1 ai hv => ?_
 obtain ⟨i,rfl,hi⟩:=hv;have hw:=hw.trans ai;refine Wz ?_;refine ae.bg rfl rfl ⟨_,rfl,hw,?_⟩;congr 1
 rw [decide_eq_decide];exact hi
inductive fU (l:List Int) (most:Int) : Int->List Int->Option (List Int)->Prop where
 | done (out:List Int) : fU l most (-1) out (some out)
 | bad {x:Int} {out:List Int} (h:x ≠ -1) (hb:most<=out.length ∨ ¬ (0<=x∧x<l.length)∨x∈out) : fU l most x out none
 | step {k:Nat} {out:List Int} {r:Option (List Int)} (h1:out.length<most) (hk:k<l.length) (h3:(k:Int)∉out) (h:fU l most l[k] (out++[(k:Int)]) r) : fU l most k out r
theorem fU.dq {l:List Int} {x:Int} {out:List Int} {r s:Option (List Int)} (h:fU l most x out r) : fU l most x out s->r=s:=by
 induction h with
 | done out=>intro h';generalize hx:(-1:Int)=y at h';cases h' with
   | done=>rfl
   | bad h hb=>exact absurd hx.symm h
   | step h1 hk h3 h=>omega
 | @bad x out h hb=>intro h';cases h' with
   | done=>exact absurd rfl h
   | bad=>rfl
   | @step k _ _ h1 hk h3 h'=>rcases hb with h0|h0|h0<;>first|omega|exact absurd h0 h3
 | @step k out r h1 hk h3 h ih=>intro h';generalize hx:(k:Int)=y at h';cases h' with
   | done=>omega
   | bad h hb=>subst hx;rcases hb with h0|h0|h0<;>first|omega|exact absurd h0 h3
   | @step k' _ _ UT bW h3' h' =>
     have:k=k':=by omega
     subst this;exact ih h'
def wo (n:Nat) (out:List Int) : Nat:=((List.range n).filter fun i:Nat=>decide ((i:Int)∉out)).length
theorem JI {n:Nat} {out:List Int} (hk:k<n) (h:(k:Int)∉out) : wo n (out++[(k:Int)])<wo n out:=by
 unfold wo
 have e:((List.range n).filter fun i:Nat=>decide ((i:Int)∉out++[(k:Int)]))=((List.range n).filter fun i:Nat=>decide ((i:Int)∉out)).filter fun i:Nat=>decide (i≠k):=by
  rw [List.filter_filter];apply List.filter_congr;intro i _;rw [<- Bool.decide_and,decide_eq_decide];simp only [List.mem_append,List.mem_singleton,not_or];constructor
  ·rintro ⟨h1,h2⟩;exact ⟨fun e=>h2 (by rw [e]),h1⟩
  ·rintro ⟨h1,h2⟩;exact ⟨h2,fun e=>h1 (by omega)⟩
 rw [e];refine List.length_filter_lt_length_iff_exists.2 ⟨k,?_,by simp⟩;simp [hk,h]
def OE (lo:Nat) (r:Option (List Int)) (v:Value) (w:World) : Prop:=match r with
 | none=>v = .tuple #[.slice none 0 0,.int .i64 8]
 | some out => ∃ A c,v = .tuple #[.slice A out.length c,.int .i64 0]∧Own w lo 3 1 bw A out.length c out∧out.length<=17592186044416
theorem G1 (n:Nat) : wo n []<=n:=adf (aeR _ _) (by simp)
theorem G3 (A:Option Addr) (n c:Nat) (l:List Int) (x most:Int) (w:World) (hl:Sl w 1 bw A n l) (hn:n*8<=140737488355328) :
 bF prog 154 [.slice A n c,.int .i64 x,.int .i64 most] w fun v w' => ∃ r,fU l most x [] r∧OE w.heap.size r v w':=by
 refine aC func154 rfl ntmps154 rfl ?_;have hw:=Ext.refl w;have kj:n<=2305843009213693952:=by omega
 have hA:=hl.base;have mH:=hl.len;refine Wz ?_
 refine CW.loop (fun s:List Int×Int×Option Addr×Nat=>[(0,.slice A n c),(1,.int .i64 s.2.1),(2,.int .i64 most),(8,.slice s.2.2.1 s.1.length s.2.2.2)])
  (fun s w'=>s.1.length+wo n s.1<=n∧(∀ r,fU l most s.2.1 s.1 r->fU l most x [] r)∧Ext w w'∧Own w' w.heap.size 3 1 bw s.2.2.1 s.1.length s.2.2.2 s.1) (fun s=>wo n s.1) ([],x,none,0) ⟨rfl,rfl,rfl,rfl,trivial⟩
  ⟨by simpa using G1 n,fun _ h=>h,hw,Own.fF _ _ _ _ _ _⟩ ?_
 clear hw;rintro ⟨out,y,A1,c1⟩ w' ⟨hk,hF,hw,hO⟩
 simp only at hk hF hO ⊢;by_cases hy:y = -1
 ·refine Wz ?_;refine ae.dm rfl rfl rfl ⟨_,rfl,hw,some out,hF _ (by subst hy;exact .done _),A1,c1,rfl,hO,by omega⟩
 ·by_cases hm:most<=out.length
  ·refine Wz ?_;exact ae.dm rfl rfl rfl ⟨_,rfl,hw,none,hF _ (.bad hy (.inl hm)),rfl⟩
  ·by_cases hx : 0<=y∧y<n
   ·obtain ⟨k,rfl⟩:=adn hx.1;have gp:k<n:=by omega
    by_cases m8:(k:Int)∈out
    ·repeat' (first|refine Wz ?_|(refine Wk (qH _ _ _ _ _ _ kj) ?_;intro v w1 ai hv;subst hv;obtain ⟨hw,hO⟩:=df ai hw hO;clear ai))
     refine Wk (ic _ _ _ _ _ _ hO.sl (by omega)) fun v w1 ai hv => ?_
     rw [decide_eq_true m8] at hv;subst hv;have hw:=hw.trans ai;refine Wz ?_;exact ae.dm rfl rfl rfl ⟨_,rfl,hw,none,hF _ (.bad hy (.inr (.inr m8))),rfl⟩
    ·have hu:=JI gp m8;repeat' (first|refine Wz ?_|(refine Wk (qH _ _ _ _ _ _ kj) ?_;intro v w1 ai hv;subst hv;obtain ⟨hw,hO⟩:=df ai hw hO;clear ai))
     refine Wk (ic _ _ _ _ _ _ hO.sl (by omega)) fun v w1 ai hv => ?_
     rw [decide_eq_false m8] at hv;subst hv;obtain ⟨hw,hO⟩:=df ai hw hO;refine Wz ?_;refine SW.dI rfl rfl rfl rfl rfl fun b w1 ai hb hB => ?_
     obtain ⟨hw,hO⟩:=df ai hw hO;refine SW.append hO (aS.ue (enc:=bw) hB) hw.size rfl rfl rfl (by omega) (by omega) fun A2 c2 w2 lD hg => ?_
     have hw:=aD hw hg (adg _) hO.a9;repeat' (first|refine Wz ?_|refine Wn hw (hl.one gp rfl) ?_)
     refine ae.again (out++[(k:Int)],l[k]'(hl.lt gp),A2,c2) ⟨rfl,rfl,rfl,by simp;rfl,trivial⟩ hu ⟨by simp only [List.length_append,List.length_singleton];omega,fun r h=>hF r (.step (by omega) (hl.lt gp) m8 h),hw,by simpa using lD⟩
   ·repeat' (first|refine Wz ?_|(refine Wk (qH _ _ _ _ _ _ kj) ?_;intro v w1 ai hv;subst hv;obtain ⟨hw,hO⟩:=df ai hw hO;clear ai))
    exact ae.dm rfl rfl rfl ⟨_,rfl,hw,none,hF _ (.bad hy (.inr (.inl (by omega)))),rfl⟩
variable {a0 o0:Int} {l0:List Block}
def EI (l:List Block) : Prop:=l.Pairwise m6
theorem qP {y:Int} (h0 : 0<=o) (h4:o<4) (hm:y % pw o=0) : beside (beside y o) o=y∧(beside y o=y+pw o∨beside y o=y-pw o):=by
 unfold beside;have hp:=fH h0 (show o<=4 by omega);generalize pw o=q at *
 rcases hp with ⟨e,rfl⟩|⟨e,rfl⟩|⟨e,rfl⟩|⟨e,rfl⟩|⟨e,rfl⟩<;>(refine ⟨?_,?_⟩<;>split<;>(try split)<;>omega)
theorem EJ (h:bV z) : EI z.aj:=by
 have hu:=pQ h;unfold EI;rw [adl];intro i j hi hj pk;by_cases e:j=i+1
 ·subst e;exact h.next i hj
 ·refine ⟨jK hu hj pk,fun hh => ?_⟩;obtain ⟨h1,h2,h3⟩:=hh;have g1:=jK hu (show i+1<z.aj.length by omega) (aeP i);have g2:=jK hu hj (show i+1<j by omega);have b1:=(h.eM (i+1) (by omega)).1;have b2:=(h.eM j hj).1;have p1:=cQ b1.1 b1.2.1;have p2:=(qP b2.1 h1 b2.2.2.2.2).2;have p3:=cQ b2.1 b2.2.1;rw [h2] at g1;omega
theorem JJ (h0 : 0<=o) (h4:o<4) (hm:a % pw o=0) (t1 t2 t3:Int) (i:Nat) : qB ⟨min a (beside a o),o+1,t1⟩ i=(qB ⟨a,o,t2⟩ i || qB ⟨beside a o,o,t3⟩ i):=by
 have h1:=(qP h0 h4 hm).2;have h2:=qJ h0 (show o<=4 by omega);have h3:=cQ h0 (show o<=4 by omega);rw [aeX];simp only [qB,Bool.and_eq_true,Bool.or_eq_true,decide_eq_true_eq];rw [h2];omega
theorem EK (h:l.any (Be a o)=true) (i:Nat) : eu l i=(eu (mB l a o) i || qB ⟨a,o,0⟩ i):=by
 rw [aeX];simp only [Bool.or_eq_true,eu,List.any_eq_true,mB,List.mem_filter];constructor
 ·rintro ⟨x,hx,hi⟩
  by_cases e:Be a o x=true
  ·obtain ⟨e1,e2⟩:=j7.1 e;right;rw [<- hi,<- e1,<- e2];rfl
  ·left;exact ⟨x,⟨hx,by simp [e]⟩,hi⟩
 ·rintro (⟨x,⟨hx,_⟩,hi⟩|hi)
  ·exact ⟨x,hx,hi⟩
  ·obtain ⟨b,hb,hh⟩:=adq.1 h;obtain ⟨e1,e2⟩:=j7.1 hh;exact ⟨b,hb,by rw [<- hi,<- e1,<- e2];rfl⟩
structure Joined (f t:Int) (l:List Block) (a o:Int) (l':List Block) (a' o':Int) : Prop where
 ok:Er f t l' a' o'
 nx:EI l'
 IG:∀ i,(eu l' i || qB ⟨a',o',0⟩ i)=(eu l i || qB ⟨a,o,0⟩ i)
 fin:o'<4->l'.any (Be (beside a' o') o')=false
theorem vg {t:Int} (h0 : 0<=f) : ∀ (k:Nat) {l:List Block} {a o:Int},4-o<k->Er f t l a o->EI l->Joined f t l a o (jc k l a o).1 (jc k l a o).2.1 (jc k l a o).2.2
 | 0,l,a,o,hk,h,hn=>by have:=h.fit.2.1;omega
 | k+1,l,a,o,hk,h,hn=>by
   simp only [jc];split
   ·rename_i ho;split
    ·rename_i gQ;have ih:=vg h0 k (by omega) (h.step h0 ho gQ) (hn.sublist List.filter_sublist);refine ⟨ih.ok,ih.nx,fun i => ?_,ih.fin⟩;rw [ih.IG i,JJ h.fit.1 ho h.fit.2.2.2.2 0 0 0,EK gQ i];rw [Bool.or_assoc,Bool.or_comm (qB _ i) (qB _ i)]
    ·rename_i gQ;exact ⟨h,hn,fun _=>rfl,fun _=>by simpa using gQ⟩
   ·rename_i ho;exact ⟨h,hn,fun _=>rfl,fun h=>absurd h ho⟩
theorem OF {t:Int} (h:Joined f t l0 a0 o0 l a o) (u:Int) : EI (aN l (bE l a) ⟨a,o,u⟩):=by
 have hk:=h.ok;have hp:=cQ hk.fit.1 hk.fit.2.1
 have VN:∀ x∈l.take (bE l a),m6 x ⟨a,o,u⟩:=fun x hx=>by
  obtain ⟨j,hj,rfl⟩:=ade hx;simp only [List.length_take] at hj;rw [adS];have h1:=pR (l:=l) (a:=a) (k:=j) (by omega);have h2:=hk.NZ _ (adb (show j<l.length by omega));refine ⟨by simp only;omega,fun hh => ?_⟩;obtain ⟨g1,g2,g3⟩:=hh;have:=h.fin g1
  rw [ady] at this;exact this _ (adb (show j<l.length by omega)) (j7.2 ⟨g3,g2⟩)
 have Tm:∀ y∈l.drop (bE l a),m6 ⟨a,o,u⟩ y:=fun y hy=>by
  obtain ⟨j,hj,rfl⟩:=ade hy;simp only [List.length_drop] at hj;rw [ad9];have eX:bE l a<l.length:=by omega
  have h1:=Et eX;have hm:=adb (show bE l a+j<l.length by omega);have h2:=hk.NZ _ hm;have hb:=(hk.eM _ hm).1;have hpj:=cQ hb.1 hb.2.1
  have h3:(l[bE l a]).At<=(l[bE l a+j]'(by omega)).At:=by
   rcases adu j with e|e
   ·subst e;simp
   ·have:=jK hk.sd (show bE l a+j<l.length by omega) (show bE l a<bE l a+j by omega)
    have Dr:=(hk.eM _ (adb eX)).1;have:=cQ Dr.1 Dr.2.1
    omega
  refine ⟨by simp only;omega,fun hh => ?_⟩;obtain ⟨g1,g2,g3⟩:=hh;simp only at g2 g3;have e:=(qP hb.1 g1 hb.2.2.2.2).1;rw [<- g3,<- g2] at e;have:=h.fin (by omega)
  rw [ady] at this;exact this _ hm (j7.2 ⟨e.symm,g2.symm⟩)
 have fk:(l.take (bE l a)++l.drop (bE l a)).Pairwise m6:=by rw [adh];exact h.nx
 rw [adA] at fk;unfold EI aN;rw [adj,adA];refine ⟨fk.1,?_,fun x hx y hy => ?_⟩
 ·rw [adz,ad8];exact ⟨Tm,fk.2.1⟩
 ·rw [adz,aee] at hy;rcases hy with rfl|hy
  ·exact VN x hx
  ·exact fk.2.2 x hx y hy
theorem JK (l:List Block) (i:Nat) (b:Block) (k:Nat) : eu (aN l i b) k=(eu l k || qB b k):=by
 have:eu l k=(eu (l.take i) k || eu (l.drop i) k):=by
  unfold eu;rw [<- List.any_append,adh]
 rw [this];simp only [eu,aN,List.any_append,List.any_cons,List.any_nil,Bool.or_false];cases (l.take i).any fun b=>qB b k<;>cases qB b k<;>simp
theorem wq {b x:Block} (h:x∈aN l i b) : x=b∨x∈l:=by
 unfold aN at h;rw [adm,adm] at h;rcases h with (h|h)|h
 ·exact .inr (adE h)
 ·exact .inl (by simpa using h)
 ·exact .inr (adU h)
structure Kept (z z':ao) (a o:Int) : Prop where
 may:bV z'
 from_:z'.aV=z.aV
 pj:z'.To=z.To
 types:z'.Types=z.Types
 IG:∀ i,eu z'.aj i=(eu z.aj i || qB ⟨a,o,0⟩ i)
theorem zB (hz:bV z) (hf:kh z.aV z.To a o) (ho:ki z.aj a o=false) : (fT z a o).1=0∧Kept z (fT z a o).2 a o:=by
 have h0 : 0<=z.aV:=hz.ok.1
 have hJ:=zv (f:=0) (t:=0) hz hf ho;have hj:=vg h0 5 (by have:=hf.1;omega) hJ (EJ hz);obtain ⟨⟨l,a',o'⟩,hq⟩ : ∃ u,jc 5 z.aj a o=u:=⟨_,rfl⟩;rw [hq] at hj;simp only at hj;obtain ⟨t,ht⟩ : ∃ t,z.Types.getD ((a'-z.aV) / 8).toNat 0=t:=⟨_,rfl⟩;rw [yx (yq hz) hf ho hq ht]
 have VO:kU t:=by
  subst ht;rw [adZ];cases e:z.Types[((a'-z.aV) / 8).toNat]? with
  | none=>exact ⟨by decide,by decide⟩
  | some v =>
    obtain ⟨h,rfl⟩:=adC.1 e;exact hz.types _ (adb h)
 have hn:=OF hj t;refine ⟨rfl,⟨hz.ok,hz.len,hz.types,fun i hi => ?_,fun i hi => ?_⟩,rfl,rfl,rfl,fun i => ?_⟩
 ·rcases wq (adb hi) with e|e
  ·simp only at e ⊢;rw [e];exact ⟨hj.ok.fit,VO⟩
  ·exact hj.ok.eM _ e
 ·unfold EI at hn;rw [adl] at hn;exact hn i (i+1) (by simp only at hi;omega) hi (aeP i)
 ·rw [JK,<- hj.IG i];rfl
variable {bs:List Block} {z0 z1:ao}
noncomputable def gB (s:ao×ao) (b:Block) : ao×ao:=if b.At<s.1.To then ((fT s.1 b.At b.Order).2,s.2) else (s.1,(fT s.2 b.At b.Order).2)
noncomputable def bX (s:ao×ao) (l:List Block) : ao×ao:=l.foldl gB s
theorem nw (s:ao×ao) (l:List Block) (k:Nat) (h:k<l.length) : bX s (l.take (k+1))=gB (bX s (l.take k)) l[k]:=by
 unfold bX;rw [adk h,ae9];rfl
theorem n6 (s:ao×ao) (l m:List Block) : bX s (l++m)=bX (bX s l) m:=ae9
structure qQ (s:ao×ao) (bs:List Block) : Prop where
 lW:bV s.1
 lG:bV s.2
 pX:s.1.aV=0
 Ea:s.1.To=s.2.aV
 JL:s.2.To=256
 IG:∀ i,(eu s.1.aj i || eu s.2.aj i)=eu bs i
theorem jf (l m:List Block) (i:Nat) : eu (l++m) i=(eu l i || eu m i):=by simp [eu]
theorem ll (h:bV z) : ∀ b∈z.aj,0<=b.At∧1<=pw b.Order:=fun b hb=>by
 obtain ⟨i,hi,rfl⟩:=ade hb;have h1:=(h.eM i hi).1;have h2:=h.ok.1;have:=cQ h1.1 h1.2.1
 obtain ⟨_,_,h3,_,_⟩:=h1;omega
structure pY (bs:List Block) (b:Block) : Prop where
 ord : 0<=b.Order∧b.Order<=4
 at_ : 0<=b.At∧b.At<256
 al:b.At % pw b.Order=0
 fits:xm bs b
 Ds:∀ x∈bs,0<=x.At∧1<=pw x.Order
theorem qQ.free {s:ao×ao} (h:qQ s bs) {b:Block} (hb:pY bs b) : ki s.1.aj b.At b.Order=false∧ki s.2.aj b.At b.Order=false:=by
 have hp:=cQ hb.ord.1 hb.ord.2;have hm:=(s9 hb.Ds hp.1).2 hb.fits;obtain ⟨m1,m2,m3,m4⟩:=hm
 have key:∀ l:List Block,(∀ x∈l,0<=x.At∧1<=pw x.Order)->(∀ i,eu l i=true->eu bs i=true)->ki l b.At b.Order=false:=fun l hl hc =>
  ((s9 hl hp.1).1 ⟨m1,m2,m3,fun i h1 h2=>by
   cases e:eu l i with
   | false=>rfl
   | true=>have:=hc i e;rw [m4 i h1 h2] at this;cases this⟩).2.2
 exact ⟨key _ (ll h.lW) fun i hi=>by rw [<- h.IG i,hi];rfl,key _ (ll h.lG) fun i hi=>by rw [<- h.IG i,hi];simp⟩
theorem qQ.low {s:ao×ao} (h:qQ s bs) {b:Block} (hb:pY bs b) (hl:b.At<s.1.To) : kh s.1.aV s.1.To b.At b.Order:=⟨hb.ord.1,hb.ord.2,by rw [h.pX];exact hb.at_.1,hl,hb.al⟩
theorem qQ.wu {s:ao×ao} (h:qQ s bs) {b:Block} (hb:pY bs b) (hl : ¬ b.At<s.1.To) : kh s.2.aV s.2.To b.At b.Order:=⟨hb.ord.1,hb.ord.2,by rw [<- h.Ea];omega,by rw [h.JL];exact hb.at_.2,hb.al⟩
theorem zC (b:Block) (i:Nat) : eu [b] i=qB b i:=by simp [eu]
theorem qQ.back {s:ao×ao} (h:qQ s bs) {b:Block} (hb:pY bs b) : qQ (gB s b) (bs++[b])∧(gB s b).1.To=s.1.To:=by
 obtain ⟨o0,o1⟩:=h.free hb;unfold gB;by_cases hl:b.At<s.1.To
 ·rw [if_pos hl];obtain ⟨_,k⟩:=zB h.lW (h.low hb hl) o0;refine ⟨⟨k.may,h.lG,by rw [<- h.pX];exact k.from_,by rw [<- h.Ea];exact k.pj,h.JL,fun i => ?_⟩,k.pj⟩;rw [jf,zC,<- h.IG i];simp only;rw [k.IG i];have:qB ⟨b.At,b.Order,0⟩ i=qB b i:=rfl
  rw [this];cases eu s.1.aj i<;>cases eu s.2.aj i<;>cases qB b i<;>rfl
 ·rw [if_neg hl];obtain ⟨_,k⟩:=zB h.lG (h.wu hb hl) o1;refine ⟨⟨h.lW,k.may,h.pX,by simp only;rw [k.from_];exact h.Ea,by simp only;rw [k.pj];exact h.JL,fun i => ?_⟩,rfl⟩;rw [jf,zC,<- h.IG i];simp only;rw [k.IG i];have:qB ⟨b.At,b.Order,0⟩ i=qB b i:=rfl
  rw [this,Bool.or_assoc]
theorem oR:∀ {l s t:List Block},bA (some s) l=some t->t=s++l
 | [],s,t,h=>by simp [bA] at h;simp [h]
 | b::l,s,t,h=>by
   have e:bA (some s) (b::l)=bA (lV (some s) b) l:=rfl
   rw [e] at h;cases e2:lV (some s) b with
   | none=>rw [e2,jd] at h;cases h
   | some u =>
     rw [e2] at h;obtain ⟨cs,lT,_,rfl⟩:=pU e2;cases lT
     rw [oR h];simp
theorem qR {m:List Block} {b:Block} (h:(bA (some []) (l++b::m)).isSome=true) : xm l b:=by
 have h1:(bA (some []) (l++[b])).isSome=true:=jY (m:=m) (by simpa using h)
 rw [dy] at h1;cases e:bA (some []) l with
 | none=>rw [e,jd] at h1;cases h1
 | some t =>
   have:=oR e
   rw [ad5] at this;subst this;rw [e] at h1;cases e2:bA (some t) [b] with
   | none=>rw [e2] at h1;cases h1
   | some u =>
     have:lV (some t) b=some u:=e2
     obtain ⟨cs,lT,hf,_⟩:=pU this;cases lT
     exact hf
theorem EL (h:(bA (some []) l).isSome=true) (hb:∀ b∈l,1<=pw b.Order) : ∀ x∈l,0<=x.At∧1<=pw x.Order:=by
 have hg:=lh (l:=l) BN hb;obtain ⟨t,ht⟩:=adH.1 h;have e:=oR ht;rw [ad5] at e;subst e;exact hg _ ht
structure n7 (h:Heap) (z0 z1:ao) : Prop where
 ct:h.bp=[z0,z1]
 lW:bV z0
 lG:bV z1
 pX:z0.aV=0
 Ea:z0.To=z1.aV
 JL:z1.To=256
 all:(bA (some []) (z0.aj++z1.aj++bc h.av)).isSome=true
theorem EM {h:Heap} (hm:bK h) : ∃ z0 z1,n7 h z0 z1:=by
 obtain ⟨z0,z1,h1,h2,h3,h4,h5,h6,_,h8⟩:=hm.ct;exact ⟨z0,z1,h1,h2,h3,h4,h5,h6,jY h8⟩
theorem zD {l:List aT}:∀ b∈bc l,b.Order=0:=fun b hb=>by
 unfold bc at hb;obtain ⟨x,_,hx⟩:=adx.1 hb;obtain ⟨p,_,rfl⟩:=adv.1 hx
 rfl
theorem n7.start {h:Heap} (d:n7 h z0 z1) : qQ (z0,z1) (z0.aj++z1.aj):=⟨d.lW,d.lG,d.pX,d.Ea,d.JL,fun i=>by rw [jf]⟩
theorem n7.pw {h:Heap} (d:n7 h z0 z1) : ∀ b∈z0.aj++z1.aj++bc h.av,1<=pw b.Order:=fun b hb=>by
 rcases adm.1 hb with hb|hb
 ·rcases adm.1 hb with hb|hb
  ·exact (ll d.lW b hb).2
  ·exact (ll d.lG b hb).2
 ·rw [zD b hb,jm];omega
theorem n7.next {h:Heap} (d:n7 h z0 z1) (hk:k<(bc h.av).length) : pY (z0.aj++z1.aj++(bc h.av).take k) (bc h.av)[k]:=by
 have fk:=d.all;have e:z0.aj++z1.aj++bc h.av=(z0.aj++z1.aj++(bc h.av).take k)++(bc h.av)[k]::(bc h.av).drop (k+1):=by simp
 rw [e] at fk;have hf:=qR fk;have ho:=zD _ (adb hk)
 have hg:=EL (jY fk) (fun b hb=>d.pw b (by
  rcases adm.1 hb with hb|hb
  ·exact adN _ hb
  ·exact aeF _ (adE hb)))
 have hp:=jm;refine ⟨by rw [ho];decide,⟨hf.1,?_⟩,by rw [ho,hp];omega,hf,hg⟩;have:=hf.2.1
 rw [ho,hp] at this;omega
theorem n7.inv {h:Heap} (d:n7 h z0 z1) : ∀ k,k<=(bc h.av).length->qQ (bX (z0,z1) ((bc h.av).take k)) (z0.aj++z1.aj++(bc h.av).take k)
 | 0,_=>by simpa [bX] using d.start
 | k+1,hk=>by
   have ih:=(d.inv k (by omega)).back (d.next (show k<_ by omega));rw [nw _ _ _ (by omega),adk (by omega),<- adj];exact ih.1
def ku (l:List aT) (i:Nat) : Nat:=(bc (l.take i)).length
theorem zE {l:List aT} (hi:i<l.length) : ku l (i+1)=ku l i+l[i].ax.length:=by
 unfold ku;rw [sk _ _ hi];simp
theorem G4 (l:List aT) (i:Nat) : bc l=bc (l.take i)++bc (l.drop i):=by
 unfold bc;rw [<- adt,adh]
theorem yB {l:List aT} (hi:i<l.length) (hj:j<l[i].ax.length) : ∃ h:ku l i+j<(bc l).length,(bc l)[ku l i+j]=cu (l[i].ax[j]):=by
 have e:=G4 l i;have e2:l.drop i=l[i]::l.drop (i+1):=by simp
 have e3:bc (l.drop i)=l[i].ax.map cu++bc (l.drop (i+1)):=by rw [e2];rfl
 have eX:ku l i+j<(bc l).length:=by rw [e,e3];simp [ku];omega
 refine ⟨eX,?_⟩
 have:(bc l)[ku l i+j]?=some (cu (l[i].ax[j])):=by
  rw [e,adX (by unfold ku;omega)];have:ku l i+j-(bc (l.take i)).length=j:=by unfold ku;omega
  rw [this,e3,adQ (by simpa using hj)];simp [hj]
 rw [adi eX] at this;exact Option.some.inj this
theorem Dt (l:List aT) : ku l l.length=(bc l).length:=by simp [ku]
noncomputable def oS (h:Heap) (z0 z1:ao) : Heap:=⟨[(bX (z0,z1) (bc h.av)).1,(bX (z0,z1) (bc h.av)).2],h.dO,h.bG,[],h.Live⟩
def jg (a b:aT) : Prop:=a.ga=b.ga∧a.ao=b.ao∧a.Ty=b.Ty
instance (a b:aT) : Decidable (jg a b):=inferInstanceAs (Decidable (_∧_))
def EN (L:List aT) : Prop:=L.Pairwise dg
theorem xp {a b c:aT} (h1:dg a b) (h2:dg b c) : dg a c:=by unfold dg at *;omega
theorem BW (a b:aT) : dg a b∨jg a b∨dg b a:=by unfold dg jg;omega
theorem JM {a b:aT} (h:dg a b) : ¬ jg a b ∧ ¬ jg b a ∧ ¬ dg b a:=by unfold dg jg at *;omega
theorem Du {c t:Int} (h:nu c t L) : EN L:=by
 have key:∀ (d i:Nat) (hj:i+d+1<L.length),dg (L[i]'(by omega)) L[i+d+1]:=by
  intro d;induction d with
  | zero=>intro i hj;exact h.next i hj
  | succ d ih=>intro i hj;exact xp (ih i (by omega)) (h.next (i+d+1) (by omega))
 unfold EN;rw [adl];intro i j hi hj pk;have:=key (j-i-1) i (by omega)
 have e:i+(j-i-1)+1=j:=by omega
 simp only [e] at this;exact this
theorem EN.get (h:EN L) (hj:j<L.length) (pk:i<j) : dg (L[i]'(Nat.lt_trans pk hj)) L[j]:=by
 unfold EN at h;rw [adl] at h;exact h i j (by omega) hj pk
def bu (L:List aT) (x:aT) : Nat:=L.findIdx fun l => !decide (dg l x)
theorem ny (L:List aT) (x:aT) : bu L x<=L.length:=List.findIdx_le_length
theorem zF {x:aT} (hk:k<bu L x) : dg (L[k]'(ad7 hk (ny L x))) x:=by
 have:=List.not_of_lt_findIdx hk
 simpa using this
theorem OG {x:aT} (h:bu L x<L.length) : ¬ dg (L[bu L x]) x:=by
 have:=List.findIdx_getElem (w:=h)
 exact of_decide_eq_false (by rw [afb] at this;exact this)
theorem wv {x:aT} (hi:i<=L.length) (h1:∀ (k:Nat) (h:k<L.length),k<i->dg L[k] x) (h2:∀ h:i<L.length,¬ dg L[i] x) : bu L x=i:=by
 unfold bu;by_cases h:i<L.length
 ·exact (List.findIdx_eq h).2 ⟨by simpa using h2 h,fun j hj=>by simpa using h1 j (by omega) hj⟩
 ·have e:i=L.length:=by omega
  subst e;rw [List.findIdx_eq_length];intro y hy;obtain ⟨k,hk,rfl⟩:=ade hy;simpa using h1 k hk hk
def dB (L:List aT) (x:aT) : Bool:=if h:bu L x<L.length then decide (jg L[bu L x] x) else false
theorem j8 {x:aT} (h:dB L x=true) : ∃ hk:bu L x<L.length,jg L[bu L x] x:=by
 unfold dB at h;split at h
 ·rename_i hk;exact ⟨hk,of_decide_eq_true h⟩
 ·cases h
theorem OH {x:aT} (h:dB L x=false) (hk:bu L x<L.length) : dg x L[bu L x]:=by
 unfold dB at h;rw [dif_pos hk] at h;have h1:=of_decide_eq_false h;have h2:=OG hk;rcases BW L[bu L x] x with e|e|e
 ·exact absurd e h2
 ·exact absurd e h1
 ·exact e
theorem kC {x y:aT} (h:jg x y) : bu L x=bu L y∧dB L x=dB L y:=by
 have e:(fun l => !decide (dg l x))=(fun l:aT => !decide (dg l y)):=by
  funext l
  have:dg l x↔dg l y:=by unfold dg jg at *;omega
  simp [this]
 have e1:bu L x=bu L y:=by unfold bu;rw [e]
 refine ⟨e1,?_⟩;unfold dB;simp only [e1];split
 ·have:jg L[bu L y] x↔jg L[bu L y] y:=by unfold jg at *;omega
  simp [this]
 ·rfl
def iZ (L:List aT) (x:aT) : List aT:=if dB L x then L.set (bu L x) x else aN L (bu L x) x
theorem sq {x:aT} (h:dB L x=true) : iZ L x=L.set (bu L x) x:=by rw [iZ,if_pos h]
theorem sr {x:aT} (h:dB L x=false) : iZ L x=aN L (bu L x) x:=by rw [iZ,if_neg (by simp [h])]
def dh (L:List aT) (x:aT) : List Int:=if dB L x then (L.getD (bu L x) x).ax else []
theorem iQ {x:aT} (h:dB L x=true) (hk:bu L x<L.length) : dh L x=L[bu L x].ax:=by
 rw [dh,if_pos h,adZ,adi hk];rfl
theorem nM {x:aT} (h:dB L x=false) : dh L x=[]:=by rw [dh,if_neg (by simp [h])]
theorem di (l:List α) (h:i<=l.length) (x : α) : (aN l i x).length=l.length+1:=by simp [aN];omega
theorem vh {l:List α} (h:i<=l.length) {x : α} (hk:k<i) : (aN l i x)[k]?=l[k]?:=by
 unfold aN;rw [adj,adQ (by simp;omega),aeK hk]
theorem lH {l:List α} (h:i<=l.length) {x : α}:(aN l i x)[i]?=some x:=by
 unfold aN;rw [adj,adX (by simp;omega)];have:i-(l.take i).length=0:=by simp;omega
 rw [this];rfl
theorem zG {l:List α} (h:i<=l.length) {x : α} (hk:i<=k) : (aN l i x)[k+1]?=l[k]?:=by
 unfold aN;rw [adj,adX (by simp;omega)];have:k+1-(l.take i).length=(k-i)+1:=by simp;omega
 rw [this,adz,List.getElem?_cons_succ,aeJ];congr 1
 omega
theorem wx {l:List α} (h:i<=l.length) (x y : α) : (aN l i x).set i y=aN l i y:=by
 unfold aN;rw [adj,adj,aec _ _ (by simp;omega)];have:i-(l.take i).length=0:=by simp;omega
 rw [this];rfl
theorem zH {x:aT}:(iZ L x)[bu L x]?=some x:=by
 cases h:dB L x
 ·rw [sr h];exact lH (ny L x)
 ·obtain ⟨hk,_⟩:=j8 h;rw [sq h,aef hk]
theorem EO {x:aT}:bu (iZ L x) x=bu L x∧dB (iZ L x) x=true:=by
 have hg:=zH (L:=L) (x:=x);obtain ⟨hk,hx⟩:=adC.1 hg
 have e:bu (iZ L x) x=bu L x:=by
  refine wv (by omega) (fun j hj nk => ?_) (fun _ => ?_)
  ·have h0:=zF (L:=L) (x:=x) nk
   have e1:(iZ L x)[j]?=L[j]?:=by
    cases h:dB L x
    ·rw [sr h];exact vh (ny L x) nk
    ·rw [sq h,aei (by omega)]
   rw [adi hj,adi (ad7 nk (ny L x))] at e1;injection e1 with e1
   rw [e1];exact h0
  ·rw [hx];unfold dg;omega
 refine ⟨e,?_⟩;unfold dB;simp only [e,dif_pos hk,hx];exact decide_eq_true ⟨rfl,rfl,rfl⟩
theorem EP {x y:aT} (h:jg x y) : (iZ L x).set (bu L x) y=iZ L y:=by
 obtain ⟨e1,e2⟩:=kC (L:=L) h;cases hh:dB L x
 ·rw [sr hh,sr (by rw [<- e2];exact hh),wx (ny L x),e1]
 ·rw [sq hh,sq (by rw [<- e2];exact hh),aeE,e1]
variable {N:Nat} {r0 r1:ef}
def Marks (w:World) (b N:Nat) : Option (List Block)->Prop
 | some bs=>aS w b 191 (iP (eu bs) N false)
 | none => ∃ p,aS w b 191 (iP p N true)
theorem Marks.ext {s:Option (List Block)} (h:Marks w b N s) (hx:Ext w w') : Marks w' b N s:=by
 cases s with
 | none=>obtain ⟨p,h⟩:=h;exact ⟨p,aS.ext h hx⟩
 | some bs=>exact aS.ext h hx
theorem Marks.bad {s:Option (List Block)} (h:Marks w b N s) (hN:N=256) : w.cell? ((⟨b,0,none⟩ : Addr).add 256)=some (.bool s.isNone):=by
 subst hN;cases s with
 | none=>obtain ⟨p,h⟩:=h;exact aS.cell h (zx _ _ _)
 | some bs=>exact aS.cell h (zx _ _ _)
theorem Marks.gr {s:Option (List Block)} (h:Marks w b N s) (hg:w.grownBy w' (some b)) : rL w w' 191:=by
 cases s with
 | none=>obtain ⟨p,h⟩:=h;exact aS.gr h hg
 | some bs=>exact aS.gr h hg
theorem wy (b:Nat) (s:Option (List Block)) (x:Block) (N:Nat) (hN:N=256) (w:World) (hM:Marks w b N s) (hs:si s) (hp : 1<=pw x.Order∧pw x.Order<=16) :
 iO prog 107 [.pointer (some ⟨b,0,none⟩),.int .i64 x.At,.int .i64 (pw x.Order)] w fun v w'=>Marks w' b N (lV s x)∧w.grownBy w' (some b):=by
 cases s with
 | none =>
   obtain ⟨p,hB⟩:=hM;refine ⟨Calls.mono (Ey b p true N hN x.At (pw x.Order) w hB ⟨by omega,hp.2⟩).out ?_⟩;rintro e w' ⟨v,he,p',Jy,v7,hg,h⟩
   refine ⟨v,he,?_,hg⟩;have:Jy=true:=by rcases h with ⟨_,h,_⟩|⟨_,h⟩<;>exact h
   subst this;exact ⟨p',v7⟩
 | some bs =>
   refine ⟨Calls.mono (Ey b (eu bs) false N hN x.At (pw x.Order) w hM ⟨by omega,hp.2⟩).out ?_⟩;rintro e w' ⟨v,he,p',Jy,v7,hg,h⟩
   refine ⟨v,he,?_,hg⟩;have LL:=s9 (hs bs rfl) (b:=x) hp.1;rcases h with ⟨h1,rfl,rfl⟩|⟨h1,rfl⟩
   ·have:lV (some bs) x=some (bs++[x]):=by simp [lV,LL.1 h1]
    rw [this];show aS w' b _ _
    rw [<- qM (fun i _=>LM bs x i)];exact v7
   ·have:lV (some bs) x=none:=by
     simp only [lV];rw [if_neg (fun hf=>h1 (LL.2 hf))]
    rw [this];exact ⟨p',v7⟩
theorem wz (r s:dx) (a b:aT) (w:World) (ha:r.ga=a.ga∧r.ao=a.ao∧r.Ty=a.Ty) (hb:s.ga=b.ga∧s.ao=b.ao∧s.Ty=b.Ty) :
 bF prog 144 [.agg (cm r).toArray,.agg (cm s).toArray] w fun v _=>v = .bool (decide (dg a b)):=by
 refine aC func144 rfl ntmps144 rfl ?_;refine CW.seq (CW.region (SW.box rfl rfl fun b2 w1 hw fA au => ?_));refine SW.box rfl rfl fun b3 w2 bt cg aq => ?_
 (obtain ⟨hw,au⟩:=df bt hw au);obtain ⟨a1,a2,a3⟩:=ha;obtain ⟨b1,ZH,ZI⟩:=hb;have key:dg a b↔(r.ga<s.ga∨(r.ga=s.ga∧(r.ao<s.ao∨(r.ao=s.ao∧r.Ty<s.Ty)))):=by unfold dg;rw [a1,a2,a3,b1,ZH,ZI]
 by_cases h1:r.ga<s.ga
 ·rw [decide_eq_true (key.2 (by omega))];refine Wz ?_;all_goals first|(exfalso;omega)|exact ae.bg rfl rfl ⟨_,rfl,hw,by simp [h1]⟩
 ·by_cases h2:r.ga=s.ga
  ·by_cases h3:r.ao<s.ao
   ·rw [decide_eq_true (key.2 (by omega))];refine Wz ?_;all_goals first|(exfalso;omega)|exact ae.bg rfl rfl ⟨_,rfl,hw,by simp [h3]⟩
   ·by_cases h4:r.ao=s.ao
    ·by_cases h5:r.Ty<s.Ty
     ·rw [decide_eq_true (key.2 (by omega))];refine Wz ?_;all_goals first|(exfalso;omega)|exact ae.bg rfl rfl ⟨_,rfl,hw,by simp [h5]⟩
     ·rw [decide_eq_false (fun h=>by have:=key.1 h;omega)];refine Wz ?_;all_goals first|(exfalso;omega)|exact ae.bg rfl rfl ⟨_,rfl,hw,by simp [h5]⟩
    ·rw [decide_eq_false (fun h=>by have:=key.1 h;omega)];refine Wz ?_;all_goals first|(exfalso;omega)|exact ae.bg rfl rfl ⟨_,rfl,hw,by simp [h3]⟩
  ·rw [decide_eq_false (fun h=>by have:=key.1 h;omega)];refine Wz ?_;all_goals first|(exfalso;omega)|exact ae.bg rfl rfl ⟨_,rfl,hw,by simp [h1]⟩
structure Bv (w:World) (r:jy) (h:Heap) (r0 r1:ef) (z0 z1:ao) : Prop where
 rd:Iz w r h
 eq:h.bp=[z0,z1]
 n:r.bp.n=2
 row:Sl w 4 dt r.bp.A r.bp.n [r0,r1]
 z0:Gx w r0 z0
 z1:Gx w r1 z1
theorem Bv.ext {r:jy} {h:Heap} (a:Bv w r h r0 r1 z0 z1) (hx:Ext w w') : Bv w' r h r0 r1 z0 z1 :=
 ⟨a.rd.ext hx,a.eq,a.n,a.row.ext hx,a.z0.ext hx,a.z1.ext hx⟩
theorem Bv.c0 {r:jy} {h:Heap} (a:Bv w r h r0 r1 z0 z1) (j:Nat) (u:Value) (hu:(dt r0)[j]?=some u) : w.cell? (((r.bp.A.getD default).add (0*4)).add j)=some u:=a.row.cell 0 (by simp) j u hu
theorem Bv.c1 {r:jy} {h:Heap} (a:Bv w r h r0 r1 z0 z1) (j:Nat) (u:Value) (hu:(dt r1)[j]?=some u) : w.cell? (((r.bp.A.getD default).add (1*4)).add j)=some u:=a.row.cell 1 (by simp) j u hu
theorem zI {l:List α} (h:l.length=2) : ∃ a b,l=[a,b]:=by
 match l,h with
 | [a,b],_=>exact ⟨a,b,rfl⟩
theorem Iz.two {r:jy} {h:Heap} (a:Iz w r h) (hl:h.bp.length=2) : ∃ r0 r1 z0 z1,Bv w r h r0 r1 z0 z1:=by
 obtain ⟨zs,hz⟩:=a.ct;obtain ⟨z0,z1,e1⟩:=zI hl;have l0:=hz.each.len;obtain ⟨r0,r1,e2⟩:=zI (show zs.length=2 by omega);subst e2;have l1:=hz.row.len;have h0:=hz.each.get 0 (by simp) (by omega);have h1:=hz.each.get 1 (by simp) (by omega);simp only [e1] at h0 h1;exact ⟨r0,r1,z0,z1,a,e1,by simpa using l1.symm,hz.row,h0,h1⟩
theorem JN (r:jy) (h:Heap) (r0 r1:ef) (z0 z1:ao) (x:Int) (w:World) (hr:Bv w r h r0 r1 z0 z1) :
 bF prog 96 [.agg (dG r).toArray,.int .i64 x] w fun v _=>v = .int .i64 (if x<z0.To then 0 else 1):=by
 refine aC func96 rfl ntmps96 rfl ?_;refine CW.seq (CW.region (SW.box rfl rfl fun b2 w1 hw fA au => ?_));have hn:=hr.n;have hA:=hr.row.base;have e1:=hr.z0.pj;by_cases hx:x<z0.To
 ·rw [if_pos hx];repeat' (first|refine Wz ?_|refine SW.st (cf (0) rfl rfl (by assumption) (by omega) (by omega)) rfl ?_|refine Wn hw (hr.c0 1 _ rfl) ?_)
  exact ae.bg rfl rfl ⟨_,rfl,hw,rfl⟩
 ·rw [if_neg hx];repeat' (first|refine Wz ?_|refine SW.st (cf (0) rfl rfl (by assumption) (by omega) (by omega)) rfl ?_|refine Wn hw (hr.c0 1 _ rfl) ?_)
  exact ae.bg rfl rfl ⟨_,rfl,hw,rfl⟩
variable {cpus:Int}
structure GB (w w':World) (b:Nat) : Prop where
 g:w.grownBy w' (some b)
theorem GB.refl (w:World) (b:Nat) : GB w w b:=⟨World.grownBy.refl _ _⟩
theorem GB.ext (h:GB w w1 b) (hx:Ext w1 w2) : GB w w2 b:=⟨bU h.g (hx.gr (some b)) (.inl rfl)⟩
theorem GB.step (h:GB w w1 b) (hg:w1.grownBy w2 (some b)) : GB w w2 b:=⟨bU h.g hg (.inl rfl)⟩
theorem JO (b:Nat) (s:Option (List Block)) (p:Int) (N:Nat) (hN:N=256) (w:World) (hM:Marks w b N s) (hs:si s) :
 iO prog 107 [.pointer (some ⟨b,0,none⟩),.int .i64 p,.int .i64 1] w fun v w'=>Marks w' b N (lV s (cu p))∧w.grownBy w' (some b):=by
 have h:=wy b s (cu p) N hN w hM hs (by simp [cu,jm]);simp only [cu,jm] at h ⊢;exact h
def L6 (w wE:World) (b N:Nat) (s:Option (List Block)) (h:Heap) (to:Int) (v:Value) (w':World) : Prop :=
 Ext w w'∧wE.grownBy w' (some b)∧((v = .bool true∧nu h.bG to h.av∧Marks w' b N (bA s (bc h.av)))∨(v = .bool false ∧ ¬ (nu h.bG to h.av∧(bA s (bc h.av)).isSome=true)))
structure EQ (cpus to:Int) (ls:List aT) (k:Nat) : Prop where
 head:∀ (i:Nat) (h:i<ls.length),i<k->lB cpus ls[i]
 next:∀ (i:Nat) (h:i+1<ls.length),i+1<k->dg ls[i] ls[i+1]
 kr:∀ (i:Nat) (h:i<ls.length),i<k -> ∀ p∈(ls[i]).ax,(p<to↔(ls[i]).ao=0)
theorem EQ.nil (cpus to:Int) (ls:List aT) : EQ cpus to ls 0:=⟨fun i _ h=>by omega,fun i _ h=>by omega,fun i _ h=>by omega⟩
theorem EQ.all {to:Int} {ls:List aT} (h:EQ cpus to ls k) (hk:ls.length<=k) : nu cpus to ls:=⟨fun i hi=>h.head i hi (by omega),fun i hi=>h.next i hi (by omega),fun i hi=>h.kr i hi (by omega)⟩
theorem EQ.snoc {to:Int} {ls:List aT} (h:EQ cpus to ls k) (hk:k<ls.length) (h1:lB cpus ls[k]) (h2:∀ (h : 0<k),dg ls[k-1] ls[k]) (h3:∀ p∈(ls[k]).ax,(p<to↔(ls[k]).ao=0)) : EQ cpus to ls (k+1):=by
 refine ⟨fun i hi Eo => ?_,fun i hi Eo => ?_,fun i hi Eo => ?_⟩
 ·by_cases e:i=k
  ·subst e;exact h1
  ·exact h.head i hi (by omega)
 ·by_cases e:i+1=k
  ·subst e;exact h2 (by omega)
  ·exact h.next i hi (by omega)
 ·by_cases e:i=k
  ·subst e;exact h3
  ·exact h.kr i hi (by omega)
theorem ER {s:Option (List Block)} {ls:List aT} (hk:k<ls.length) (hj:j<=(ls[k]).ax.length) (h:bA (bA s (bc (ls.take k))) (((ls[k]).ax.take j).map cu)=none) : bA s (bc ls)=none:=by
 rw [<- dy] at h
 have e:bc ls=(bc (ls.take k)++((ls[k]).ax.take j).map cu)++(((ls[k]).ax.drop j).map cu++bc (ls.drop (k+1))):=by
  have e1:ls=ls.take (k+1)++ls.drop (k+1):=by simp
  have e2:((ls[k]).ax.take j).map cu++((ls[k]).ax.drop j).map cu=(ls[k]).ax.map cu:=by rw [<- adG,adh]
  have e3:bc ls=bc (ls.take (k+1))++bc (ls.drop (k+1)):=by unfold bc;rw [<- adt,<- e1]
  rw [e3,sk _ _ hk,<- e2];simp only [List.append_assoc]
 rw [e,dy,h,jd]
set_option maxHeartbeats 8000000 in
theorem JP (r:jy) (h:Heap) (r0 r1:ef) (z0 z1:ao) (b N:Nat) (hN:N=256) (s:Option (List Block)) (w wE:World) (hw:Ext w wE) (D6:w.heap.size<=b) (hr:Bv w r h r0 r1 z0 z1) (hM:Marks wE b N s) (QY:si s) (rV:r.av.n<=1000000000000000000) :
 iO prog 108 [.agg (dG r).toArray,.pointer (some ⟨b,0,none⟩)] wE (L6 w wE b N s h z0.To):=by
 refine dl func108 rfl ntmps108 rfl ?_;have hE:=GB.refl wE b;refine CW.seq (CW.region (SW.box rfl rfl fun b2 w2 bt fA au => ?_));(obtain ⟨hw,hM,hE⟩:=cn bt hw hM hE);obtain ⟨ls,hl⟩:=hr.rd.lists;have pL:=hr.rd.cpus;obtain ⟨Br,VP⟩:=hl.len;have hA:=hl.row.base;refine Wz ?_
 refine CW.loop (fun k:Nat=>[(1,.pointer (some ⟨b,0,none⟩)),(2,.pointer (some ⟨b2,0,none⟩)),(10,.slice r.av.A r.av.n r.av.c),(11,.int .i64 (r.av.n:Int)),(12,.int .i64 (k:Int))])
  (fun k w'=>k<=r.av.n∧Ext w w'∧GB wE w' b∧aS w' b2 41 (dG r)∧Marks w' b N (bA s (bc (h.av.take k)))∧EQ h.bG z0.To h.av k) (fun k=>r.av.n-k) 0
  ⟨rfl,rfl,rfl,rfl,rfl,trivial⟩ ⟨by omega,hw,hE,au,hM,.nil _ _ _⟩ ?_
 clear hw hE au hM bt;rintro k w' ⟨hk,hw,hE,au,hM,hP⟩
 by_cases gp:k<r.av.n
 ·have iE:k<ls.length:=by omega
  have OI:k<h.av.length:=by omega
  have PV:=hl.each.get k iE OI;have ZJ:=PV.cpu;have ZK:=PV.kr;have eX:=PV.ty;have hln:=PV.bC.len;have hAp:=PV.bC.base;have wA:=PV.bC;have gm:=hl.row.all gp;have kD:=hl.row.all (i:=k-1) (show k-1<r.av.n by omega)
  have ZL:si (bA s (bc (h.av.take k))):=lh QY fun x hx=>by
   unfold bc at hx;obtain ⟨y,_,hy⟩:=adx.1 hx;obtain ⟨p,_,rfl⟩:=adv.1 hy;simp [cu,jm]
  repeat' (first|refine Wz ?_|refine Wo hw ((gm)) ?_)
  refine SW.alloc rfl fun b6 w1 ai dw ar => ?_
  refine Wz ?_;refine SW.ag ar rfl rfl rfl rfl (iy.one (enc:=cm) _) fun w2 bQ hg => ?_
  have ak:=ai.own dw hg;have cS:=hw.up dw
  obtain ⟨hw,au,hM,hE⟩:=dv ak hw au hM hE;have ar:=bQ;clear bQ ai hg ak;refine Wz ?_;by_cases PW:lB r.bG h.av[k]
  ·obtain ⟨e1,e2,e3,e4⟩:=id PW;obtain ⟨q,hq⟩ : ∃ q,decide (dg (h.av[k-1]'(by omega)) h.av[k])=q:=⟨_,rfl⟩;have QZ:=hl.each.get (k-1) (by omega) (by omega)
   have cL:∀ w',bF prog 144 [.agg (cm (ls[k-1]'(by omega))).toArray,.agg (cm ls[k]).toArray] w' fun v _=>v = .bool q:=fun w'=>by
    have:=wz (ls[k-1]'(by omega)) ls[k] (h.av[k-1]'(by omega)) h.av[k] w' ⟨QZ.cpu,QZ.kr,QZ.ty⟩ ⟨ZJ,ZK,eX⟩
    rwa [hq] at this
   have xq:k=0∨(0<k∧q=true)∨(0<k∧q=false):=by cases q<;>simp<;>omega
   rw [or_comm,or_assoc] at xq;rcases xq with ⟨Bd,rfl⟩|⟨Bd,rfl⟩|Bd
   rotate_left
   ·repeat' (first|refine Wz ?_|(first|refine CW.gu rfl ?_|(apply CW.bH mixed;(· kernel_rfl);rotate_left;intro w1 ai;obtain ⟨hw,au,ar,hM,hE⟩:=fD ai hw au ar hM hE;clear ai;rotate_right))|refine SW.st (cf (k-1) rfl rfl (by assumption) (by omega) (by omega)) rfl ?_|refine Wo hw ((kD)) ?_|refine SW.dK rfl rfl (fun w1 ai=>(cL _)) ?_|exact SW.eU rfl)
    exact ae.bg rfl rfl ⟨_,rfl,hw,hE.g,.inr ⟨rfl,fun hh=>by
     have:=hh.1.next (k-1) (by omega)
     simp only [show k-1+1=k by omega] at this;exact of_decide_eq_false hq this⟩⟩
   all_goals
    have ZM:∀ (h0 : 0<k),dg (h.av[k-1]'(by omega)) h.av[k]:=fun h0=>by first|exact of_decide_eq_true hq|omega
    repeat' (first|refine Wz ?_|(first|refine CW.fY rfl ?_|(apply CW.bH mixed;(· kernel_rfl);rotate_left;intro w1 ai;obtain ⟨hw,au,ar,hM,hE⟩:=fD ai hw au ar hM hE;clear ai;rotate_right))|refine SW.st (cf (k-1) rfl rfl (by assumption) (by omega) (by omega)) rfl ?_|refine Wo hw ((kD)) ?_|refine SW.dK rfl rfl (fun w1 ai=>(cL _)) ?_|exact SW.eU rfl)
    clear cL hq gm kD
    refine CW.loop (fun j:Nat=>[(1,.pointer (some ⟨b,0,none⟩)),(2,.pointer (some ⟨b2,0,none⟩)),(6,.pointer (some ⟨b6,0,none⟩)),(10,.slice r.av.A r.av.n r.av.c),(11,.int .i64 (r.av.n:Int)),(12,.int .i64 (k:Int)),(75,.slice ls[k].ax.A ls[k].ax.n ls[k].ax.c),(76,.int .i64 (ls[k].ax.n:Int)),(77,.int .i64 (j:Int))])
     (fun j w'=>j<=ls[k].ax.n∧Ext w w'∧GB wE w' b∧aS w' b2 41 (dG r)∧aS w' b6 159 (cm ls[k])∧Marks w' b N (bA (bA s (bc (h.av.take k))) ((h.av[k].ax.take j).map cu)) ∧ ∀ (i:Nat) (hi:i<h.av[k].ax.length),i<j->(h.av[k].ax[i]<z0.To↔h.av[k].ao=0)) (fun j=>ls[k].ax.n-j) 0
     ⟨rfl,rfl,rfl,rfl,rfl,rfl,rfl,rfl,rfl,trivial⟩ ⟨by omega,hw,hE,au,ar,hM,fun i _ h=>by omega⟩ ?_
    clear hw hE au ar hM dw cS;rintro j w' ⟨hj,hw,hE,au,ar,hM,hZ⟩
    by_cases pO:j<ls[k].ax.n
    ·have rK:j<h.av[k].ax.length:=by omega
     repeat' (first|refine Wz ?_|refine Wn hw (wA.one pO rfl) ?_)
     refine SW.dX rfl rfl (JO b _ h.av[k].ax[j] N hN _ hM (lh ZL fun x hx=>by
      obtain ⟨p,_,rfl⟩:=adv.1 hx;simp [cu,jm])) fun v w5 hv => ?_
     obtain ⟨vi,Ei⟩:=hv;have hG:=hM.gr Ei;have hw:=hw.own D6 Ei;have hE:=hE.step Ei;(obtain ⟨au,ar⟩:=df hG au ar)
     have e5:lV (bA (bA s (bc (h.av.take k))) ((h.av[k].ax.take j).map cu)) (cu h.av[k].ax[j])=bA (bA s (bc (h.av.take k))) ((h.av[k].ax.take (j+1)).map cu):=by
      rw [adk rK,adG,dy];rfl
     rw [e5] at vi;have xV:=vi.bad hN;generalize hp:h.av[k].ax[j]=p
     obtain ⟨y,hy⟩ : ∃ y,(if p<z0.To then (0:Int) else 1)=y:=⟨_,rfl⟩
     have cZ:∀ w',Ext w w'->bF prog 96 [.agg (dG r).toArray,.int .i64 p] w' fun v _=>v = .int .i64 y:=fun w' hx=>by
      have:=JN r h r0 r1 z0 z1 p w' (hr.ext hx)
      rwa [hy] at this
     cases hs:bA (bA s (bc (h.av.take k))) ((h.av[k].ax.take (j+1)).map cu) with
     | none =>
       rw [hs] at xV;repeat' (first|refine Wz ?_|((apply CW.bH mixed;(· kernel_rfl);rotate_left;intro w1 ai;obtain ⟨hw,au,ar,vi,hE⟩:=fD ai hw au ar vi hE;clear ai;rotate_right))|refine SW.skip rfl rfl rfl rfl ?_|refine Wl xV ?_|exact SW.eU rfl)
       exact ae.bg rfl rfl ⟨_,rfl,hw,hE.g,.inr ⟨rfl,fun hh=>by
        have:=hh.2
        rw [ER OI (by omega) hs] at this;cases this⟩⟩
     | some bs =>
       rw [hs] at xV;by_cases hz:y=ls[k].ao
       ·repeat' (first|refine Wz ?_|((apply CW.bH mixed;(· kernel_rfl);rotate_left;intro w1 ai;obtain ⟨hw,au,ar,vi,hE⟩:=fD ai hw au ar vi hE;clear ai;rotate_right))|refine SW.want rfl rfl ?_|refine Wl xV ?_|refine SW.dK rfl rfl (fun w1 ai=>(cZ _ (hw.trans ai))) ?_|exact SW.eU rfl)
        refine ae.again (j+1) ⟨rfl,rfl,rfl,rfl,rfl,rfl,rfl,rfl,rfl,trivial⟩ (by omega) ⟨by omega,hw,hE,au,ar,vi,fun i hi pk => ?_⟩;by_cases e:i=j
        ·subst e;rw [hp];split at hy<;>constructor<;>intro _<;>omega
        ·exact hZ i hi (by omega)
       ·repeat' (first|refine Wz ?_|((apply CW.bH mixed;(· kernel_rfl);rotate_left;intro w1 ai;obtain ⟨hw,au,ar,vi,hE⟩:=fD ai hw au ar vi hE;clear ai;rotate_right))|refine SW.want rfl rfl ?_|refine Wl xV ?_|refine SW.dK rfl rfl (fun w1 ai=>(cZ _ (hw.trans ai))) ?_|exact SW.eU rfl)
        exact ae.bg rfl rfl ⟨_,rfl,hw,hE.g,.inr ⟨rfl,fun hh=>by
         have:=hh.1.kr k OI p (by rw [<- hp];exact adb _)
         split at hy<;>omega⟩⟩
    ·obtain rfl:j=ls[k].ax.n:=by omega
     rw [adr (l:=h.av[k].ax) (by omega),<- dy,<- sk _ _ OI] at hM;refine Wz ?_;refine ae.again (k+1) ⟨rfl,rfl,rfl,rfl,rfl,trivial⟩ (by omega) ⟨by omega,hw,hE,au,hM,hP.snoc OI (by rwa [<- pL]) ZM fun p hp => ?_⟩;obtain ⟨i,hi,rfl⟩:=ade hp;exact hZ i hi (by omega)
  ·have oH : ¬ nu h.bG z0.To h.av:=fun hh=>PW (by have:=hh.head k OI;rwa [<- pL] at this)
   have ZN : ¬ (((0<=ls[k].ga∧ls[k].ga<r.bG)∧(0<=ls[k].ao∧ls[k].ao<=1)∧(0<=ls[k].Ty∧ls[k].Ty<=2)∧(1<=ls[k].ax.n∧ls[k].ax.n<=8))):=fun hh=>PW (by unfold lB;omega)
   have lT:ls[k].ga<0∨(0<=ls[k].ga∧(r.bG<=ls[k].ga∨(ls[k].ga<r.bG∧(ls[k].ao<0∨(0<=ls[k].ao∧(1<ls[k].ao∨(ls[k].ao<=1∧(ls[k].Ty<0∨(0<=ls[k].Ty∧(3<=ls[k].Ty∨(ls[k].Ty<3∧(ls[k].ax.n=0∨(0<ls[k].ax.n∧8<ls[k].ax.n))))))))))))):=by omega
   rcases lT with d|⟨d1,d|⟨d2,d|⟨d3,d|⟨d4,d|⟨d5,d|⟨d6,d|⟨d7,d⟩⟩⟩⟩⟩⟩⟩
   repeat' (first|refine Wz ?_|((apply CW.bH mixed;(· kernel_rfl);rotate_left;intro w1 ai;obtain ⟨hw,au,ar,hM,hE⟩:=fD ai hw au ar hM hE;clear ai;rotate_right))|exact SW.eU rfl)
   all_goals exact ae.bg rfl rfl ⟨_,rfl,hw,hE.g,.inr ⟨rfl,fun hh=>oH hh.1⟩⟩
 ·obtain rfl:k=r.av.n:=by omega
  rw [adr (l:=h.av) (by omega)] at hM;refine Wz ?_;exact ae.bg rfl rfl ⟨_,rfl,hw,hE.g,.inl ⟨rfl,hP.all (by omega),hM⟩⟩
theorem xr:∀ {s:Option (List Block)},(bA s l).isSome=true -> ∀ b∈l,0<=b.At∧b.At+pw b.Order<=256:=by
 induction l with
 | nil=>intro s _ b hb;simp at hb
 | cons x l ih =>
   intro s h b hb;have h':(bA (lV s x) l).isSome=true:=h
   rcases aee.1 hb with rfl|hb
   ·cases e:lV s b with
    | none=>rw [e,jd] at h';cases h'
    | some bs=>obtain ⟨cs,_,hf,_⟩:=pU e;exact ⟨hf.1,hf.2.1⟩
   ·exact ih h' b hb
def IH (b:Block) : Prop:=(0<=b.Order∧b.Order<=4)∧0<=b.At∧b.At % pw b.Order=0∧kU b.Ty
structure Dv (l:List Block) (k:Nat) : Prop where
 each:∀ (i:Nat) (h:i<l.length),i<k->IH l[i]
 next:∀ (i:Nat) (h:i+1<l.length),i+1<k->l[i].At<l[i+1].At
theorem Dv.nil (l:List Block) : Dv l 0:=⟨fun i _ h=>by omega,fun i _ h=>by omega⟩
theorem Dv.snoc (h:Dv l k) (hk:k<l.length) (h1:IH l[k]) (h2:∀ (h : 0<k),l[k-1].At<l[k].At) : Dv l (k+1):=by
 refine ⟨fun i hi Eo => ?_,fun i hi Eo => ?_⟩
 ·by_cases e:i=k
  ·subst e;exact h1
  ·exact h.each i hi (by omega)
 ·by_cases e:i+1=k
  ·subst e;exact h2 (by omega)
  ·exact h.next i hi (by omega)
theorem Dv.ok {s:Option (List Block)} (h:Dv l k) (hk:l.length<=k) (hf:(bA s l).isSome=true) : fV l:=by
 refine ⟨fun i hi => ?_,fun i hi=>h.next i hi (by omega)⟩;obtain ⟨h1,h2,h3,h4⟩:=h.each i hi (by omega);have h5:=xr hf _ (adb hi);have h6:=cQ h1.1 h1.2;exact ⟨h1,⟨h2,by omega⟩,h3,h4⟩
def ES (n:Int) : Bool:=decide (n<0) || decide (256<n)
theorem L7 (x:Int) (w:World) : bF prog 106 ([.int .i64 x]++[]) w fun v _=>v = .bool (ES x):=by
 refine aC func106 rfl ntmps106 rfl ?_;have hw:=Ext.refl w;have lT:x<0∨(0<=x∧(256<x∨x<=256)):=by omega
 rcases lT with d|⟨d1,d|d⟩
 repeat' (first|refine Wz ?_|fail);all_goals exact ae.bg rfl rfl ⟨_,rfl,hw,by unfold ES;simp;omega⟩
def fL (z:ao) : Prop:=(-9223372036854775808<=z.aV∧z.aV<=9223372036854775807)∧(-9223372036854775808<=z.To∧z.To<=9223372036854775807)
def zJ (h:Heap) : Prop:=h.bp.length=2∧h.dO.length=2∧1<=h.bG∧h.bG<=4
instance (h:Heap) : Decidable (zJ h):=inferInstanceAs (Decidable (_∧_))
theorem bK.VQ {h:Heap} (a:bK h) : zJ h:=by
 obtain ⟨z0,z1,e,_⟩:=a.ct;obtain ⟨m0,m1,e',_⟩:=a.eE;exact ⟨by rw [e];rfl,by rw [e'];rfl,a.cpus⟩
structure Dw (h:Heap) (z0 z1:ao) : Prop where
 one:bV z0
 two:bV z1
 from_:z0.aV=0
 Ea:z0.To=z1.aV
 pj:z1.To=256
 eE:h.dO.any ES=false
theorem bK.front {h:Heap} (a:bK h) (e:h.bp=[z0,z1]) : Dw h z0 z1:=by
 obtain ⟨y0,y1,e',a1,a2,a3,a4,a5,_⟩:=a.ct;rw [e] at e';simp only [List.cons.injEq,and_true] at e';obtain ⟨rfl,rfl⟩:=e';obtain ⟨m0,m1,e',b1,b2⟩:=a.eE;exact ⟨a1,a2,a3,a4,a5,by rw [e'];simp [ES];omega⟩
def qS (h:Heap) (z0 z1:ao) : Option (List Block):=bA (some []) (z0.aj++z1.aj)
theorem bK.rest {h:Heap} (a:bK h) (e:h.bp=[z0,z1]) : nu h.bG z0.To h.av∧fV h.Live∧(bA (bA (qS h z0 z1) (bc h.av)) h.Live).isSome=true:=by
 obtain ⟨y0,y1,e',a1,a2,a3,a4,a5,a6,a7⟩:=a.ct;rw [e] at e';simp only [List.cons.injEq,and_true] at e';obtain ⟨rfl,rfl⟩:=e';refine ⟨a6,a.live,?_⟩;rw [dy,dy] at a7;exact a7
theorem bK.of {h:Heap} (e:h.bp=[z0,z1]) (hd:zJ h) (hf:Dw h z0 z1) (h1:nu h.bG z0.To h.av) (h2:fV h.Live) (h3:(bA (bA (qS h z0 z1) (bc h.av)) h.Live).isSome=true) : bK h:=by
 refine ⟨⟨z0,z1,e,hf.one,hf.two,hf.from_,hf.Ea,hf.pj,h1,?_⟩,?_,hd.2.2,h2⟩
 ·rw [dy,dy];exact h3
 ·obtain ⟨m0,m1,em⟩:=zI hd.2.1;have:=hf.eE
  rw [em] at this;simp [ES] at this;exact ⟨m0,m1,em,by omega,by omega⟩
set_option maxHeartbeats 8000000 in
theorem qT (r:jy) (h:Heap) (w:World) (hr:Iz w r h) (hs:h.small) (N3:∀ z∈h.bp,fL z) :
 bF prog 61 [.agg (dG r).toArray] w fun v _=>v = .int .i64 (if je h then 0 else 8):=by
 refine aC func61 rfl ntmps61 rfl ?_;refine CW.seq (CW.region (SW.box rfl rfl fun b1 w1 hw lp aZ => ?_));have pL:=hr.cpus;have Tl:=hr.eE.len;obtain ⟨ZO,Dx⟩:=hr.ct;obtain ⟨VR,GV⟩:=Dx.len;clear Dx VR ZO;by_cases hd:zJ h
 ·obtain ⟨d1,d2,d3⟩:=id hd;obtain ⟨r0,r1,z0,z1,zK⟩:=hr.two d1;have Bw:=zK.eq;have hA:=zK.row.base;have Dr:=N3 z0 (by rw [Bw];simp);have tE:=N3 z1 (by rw [Bw];simp);have s0:=hs.free z0 (by rw [Bw];simp);have s1:=hs.free z1 (by rw [Bw];simp);have eF0:=zK.z0.from_;have ZP:=zK.z0.pj;have eF1:=zK.z1.from_;have eT1:=zK.z1.pj;have l0:=zK.z0.free.len;have l1:=zK.z1.free.len;have t0:=zK.z0.types.len;have t1:=zK.z1.types.len;unfold fL at Dr tE;obtain ⟨q0,VT⟩ : ∃ q,fJ z0=q:=⟨_,rfl⟩;obtain ⟨q1,L8⟩ : ∃ q,fJ z1=q:=⟨_,rfl⟩
  have c0:∀ w',Ext w w'->bF prog 80 [.agg (dt r0).toArray] w' fun v _=>v = .int .i64 (if q0 then 0 else 8):=fun w' hx=>by
   have:=kV r0 z0 w' (zK.z0.ext hx) (by omega) (by omega) (by omega) (by omega)
   rwa [VT] at this
  have c1:∀ w',Ext w w'->bF prog 80 [.agg (dt r1).toArray] w' fun v _=>v = .int .i64 (if q1 then 0 else 8):=fun w' hx=>by
   have:=kV r1 z1 w' (zK.z1.ext hx) (by omega) (by omega) (by omega) (by omega)
   rwa [L8] at this
  have Sp:(q0=true∧q1=true)∨(q0=false)∨(q0=true∧q1=false):=by cases q0<;>cases q1<;>simp
  rcases Sp with ⟨rfl,rfl⟩|rfl|⟨rfl,rfl⟩
  all_goals simp only [if_true,Bool.false_eq_true,if_false] at c0 c1
  repeat' (first|refine Wz ?_|refine SW.st (cf (0) rfl rfl (by assumption) (by omega) (by omega)) rfl ?_|refine SW.st (cf (1) rfl rfl (by assumption) (by omega) (by omega)) rfl ?_|refine Wo hw ((zK.c0)) ?_|refine Wo hw ((zK.c1)) ?_|((first|refine Wk (c0 _ hw) ?_|refine Wk (c1 _ hw) ?_);intro v w1 ai hv;subst hv;obtain ⟨hw,aZ⟩:=df ai hw aZ;clear ai))
  rotate_left
  ·exact ae.bg rfl rfl ⟨_,rfl,hw,by rw [nv (fun hh=>by have:=fq.2 (hh.front Bw).one;rw [VT] at this;cases this)];rfl⟩
  ·exact ae.bg rfl rfl ⟨_,rfl,hw,by rw [nv (fun hh=>by have:=fq.2 (hh.front Bw).two;rw [L8] at this;cases this)];rfl⟩
  clear c0 c1;have L9:=fq.1 VT;have Ou:=fq.1 L8
  have cO:∀ w',Ext w w'->bF prog 105 [.slice r.dO.A r.dO.n r.dO.c,.func (.func 106) #[] ([] : List Value).toArray] w' fun v _=>v = .bool (h.dO.any ES):=fun w' h =>
   iL _ _ _ _ _ (hr.eE.ext h) _ [] ES (fun x => .int .i64 x) (fun x=>rfl) (fun x _ w1 _=>L7 x w1) (by omega)
  obtain ⟨qm,VU⟩ : ∃ q,h.dO.any ES=q:=⟨_,rfl⟩;rw [VU] at cO;have lT:(r0.aV=0∧r0.To=r1.aV∧r1.To=256∧qm=false)∨r0.aV≠0∨(r0.aV=0∧r0.To≠r1.aV)∨(r0.aV=0∧r0.To=r1.aV∧r1.To≠256)∨(r0.aV=0∧r0.To=r1.aV∧r1.To=256∧qm=true):=by cases qm<;>simp<;>omega
  rcases lT with ⟨d1,d2,d3,rfl⟩|d|⟨d1,d⟩|⟨d1,d2,d⟩|⟨d1,d2,d3,rfl⟩
  repeat' (first|refine Wz ?_|((apply CW.bH mixed;(· kernel_rfl);rotate_left;intro w1 ai;obtain ⟨hw,aZ⟩:=df ai hw aZ;clear ai;rotate_right))|refine SW.st (cf (0) rfl rfl (by assumption) (by omega) (by omega)) rfl ?_|refine SW.st (cf (1) rfl rfl (by assumption) (by omega) (by omega)) rfl ?_|refine Wn hw (zK.c0 0 _ rfl) ?_|refine Wn hw (zK.c0 1 _ rfl) ?_|refine Wn hw (zK.c1 0 _ rfl) ?_|refine Wn hw (zK.c1 1 _ rfl) ?_|refine SW.dK rfl rfl (fun w1 ai=>(cO _ (hw.trans ai))) ?_|exact SW.eU rfl)
  rotate_left
  iterate 3 exact ae.bg rfl rfl ⟨_,rfl,hw,by rw [nv (fun hh=>by have:=hh.front Bw;have:=this.from_;have:=(hh.front Bw).Ea;have:=(hh.front Bw).pj;omega)];rfl⟩
  ·exact ae.bg rfl rfl ⟨_,rfl,hw,by rw [nv (fun hh=>by have:=(hh.front Bw).eE;rw [VU] at this;cases this)];rfl⟩
  have Tn:Dw h z0 z1:=⟨L9,Ou,by omega,by omega,by omega,VU⟩
  clear cO;have hn:=zK.n
  have nj:∀ z∈h.bp,∀ b∈z.aj,0<=b.Order∧b.Order<=4:=fun z hz b hb=>by
   obtain ⟨i,hi,rfl⟩:=ade hb;rw [Bw] at hz;simp only [List.mem_cons,List.not_mem_nil,or_false] at hz;rcases hz with rfl|rfl
   ·exact ⟨(L9.eM i hi).1.1,(L9.eM i hi).1.2.1⟩
   ·exact ⟨(Ou.eM i hi).1.1,(Ou.eM i hi).1.2.1⟩
  have X7:∀ k,si (bA (some []) ((h.bp.take k).flatMap ao.aj)):=fun k=>lh BN fun x hx=>by
   obtain ⟨z,hz,hx⟩:=adx.1 hx;have:=nj z (adE hz) x hx
   exact (cQ this.1 this.2).1
  refine SW.box rfl rfl fun b3 w2 bt cg aq => ?_
  have gd:=hw.up cg
  have hM:Marks w2 b3 256 (some []):=by
   refine Eq.mp (congrArg (fun c=>aS w2 b3 191 c) ?_) aq;kernel_rfl
  clear aq;(obtain ⟨hw,aZ⟩:=df bt hw aZ);repeat' (first|refine Wz ?_|fail)
  refine CW.loop (fun k:Nat=>[(1,.pointer (some ⟨b1,0,none⟩)),(3,.pointer (some ⟨b3,0,none⟩)),(81,.slice r.bp.A r.bp.n r.bp.c),(82,.int .i64 (r.bp.n:Int)),(83,.int .i64 (k:Int))])
   (fun k w'=>k<=2∧Ext w w'∧aS w' b1 41 (dG r)∧Marks w' b3 256 (bA (some []) ((h.bp.take k).flatMap ao.aj))) (fun k=>2-k) 0
   ⟨rfl,rfl,rfl,rfl,rfl,trivial⟩ ⟨by omega,hw,aZ,hM⟩ ?_
  clear hw aZ hM bt;rintro k w' ⟨hk,hw,aZ,hM⟩
  by_cases xW:k<2
  ·have ZQ:k<h.bp.length:=by omega
   have gm:=zK.row.all (i:=k) (by omega)
   have Tp:Gx w ([r0,r1][k]'(by simpa using xW)) h.bp[k]:=by
    simp only [Bw];have:k=0∨k=1:=by omega
    rcases this with rfl|rfl
    ·exact zK.z0
    ·exact zK.z1
   generalize hrk:([r0,r1][k]'(by simpa using xW))=rk at gm Tp
   have vV:=nj h.bp[k] (adb _);have VD:=hs.free h.bp[k] (adb _)
   have G5:(h.bp.take (k+1)).flatMap ao.aj=(h.bp.take k).flatMap ao.aj++h.bp[k].aj:=by
    rw [adk ZQ,adt];simp
   generalize h.bp[k]=zk at Tp vV VD G5
   have hAk:=Tp.free.base;have JG:=Tp.free.len;repeat' (first|refine Wz ?_|refine Wo hw ((gm)) ?_)
   refine SW.alloc rfl fun b5 w1 ai gx aM => ?_
   skip;refine SW.ag aM rfl rfl rfl rfl (fK _) fun w2 eV hg => ?_
   have ak:=ai.own gx hg;have jI:=hw.up gx
   obtain ⟨hw,aZ,hM⟩:=cn ak hw aZ hM;have aM:=eV;clear eV ai hg ak;repeat' (first|refine Wz ?_|fail)
   refine CW.loop (fun j:Nat=>[(1,.pointer (some ⟨b1,0,none⟩)),(3,.pointer (some ⟨b3,0,none⟩)),(81,.slice r.bp.A r.bp.n r.bp.c),(82,.int .i64 (r.bp.n:Int)),(83,.int .i64 (k:Int)),(88,.slice rk.aj.A rk.aj.n rk.aj.c),(89,.int .i64 (rk.aj.n:Int)),(90,.int .i64 (j:Int))])
    (fun j w'=>j<=rk.aj.n∧Ext w w'∧aS w' b1 41 (dG r)∧Marks w' b3 256 (bA (bA (some []) ((h.bp.take k).flatMap ao.aj)) (zk.aj.take j))) (fun j=>rk.aj.n-j) 0
    ⟨rfl,rfl,rfl,rfl,rfl,rfl,rfl,rfl,trivial⟩ ⟨by omega,hw,aZ,hM⟩ ?_
   clear hw aZ hM aM gx jI;rintro j w' ⟨hj,hw,aZ,hM⟩
   by_cases pO:j<rk.aj.n
   ·have rK:j<zk.aj.length:=by omega
    obtain ⟨o1,o2⟩:=vV zk.aj[j] (adb _);have hp:=cQ o1 o2;repeat' (first|refine Wz ?_|refine Wo hw ((Tp.free.all pO)) ?_)
    refine SW.alloc rfl fun b7 w1 ai iI bf => ?_
    skip;refine SW.ag bf rfl rfl rfl rfl (iy.one (enc:=aO) _) fun w2 bq hg => ?_
    have ak:=ai.own iI hg;have gf:=hw.up iI
    obtain ⟨hw,aZ,hM⟩:=cn ak hw aZ hM;have bf:=bq;clear bq ai hg ak;repeat' (first|refine Wz ?_|fail);refine CW.any 6 mixed (dk (by kernel_rfl)) rfl fun w1 ai aG => ?_
    obtain ⟨hw,aZ,hM,bf⟩:=dv ai hw aZ hM bf;clear ai;refine Wa ?_;refine Wu 5 aG rfl (fG (r:=pw zk.aj[j].Order) rfl rfl (by omega) (by omega) (by simp [pw]) (by omega) (by omega)) ?_;refine SA.done (by kernel_rfl) ?_;refine SW.dX rfl rfl (wy b3 _ zk.aj[j] 256 rfl _ hM (lh (X7 k) fun x hx=>by have:=vV x (adE hx);exact (cQ this.1 this.2).1) ⟨by omega,by omega⟩) fun v w5 hv => ?_
    obtain ⟨vi,Ei⟩:=hv;have hG:=hM.gr Ei;have hw:=hw.own gd Ei;(have aZ:=aZ.aK hG rfl);rw [<- xn _ _ _ rK] at vi;repeat' (first|refine Wz ?_|fail);exact ae.again (j+1) ⟨rfl,rfl,rfl,rfl,rfl,rfl,rfl,rfl,trivial⟩ (by omega) ⟨by omega,hw,aZ,vi⟩
   ·obtain rfl:j=rk.aj.n:=by omega
    rw [adr (l:=zk.aj) (by omega),<- dy,<- G5] at hM;repeat' (first|refine Wz ?_|fail);exact ae.again (k+1) ⟨rfl,rfl,rfl,rfl,rfl,trivial⟩ (by omega) ⟨by omega,hw,aZ,hM⟩
  ·obtain rfl:k=2:=by omega
   have VV:=X7 2;have ZR:bA (some []) ((h.bp.take 2).flatMap ao.aj)=qS h z0 z1:=by rw [Bw];simp [qS]
   rw [ZR] at hM VV;repeat' (first|refine Wz ?_|fail);obtain ⟨ls,Gj⟩:=hr.lists;have mH:=Gj.len.2;have yC:=hs.lists;clear Gj ls;refine SW.dX rfl rfl (JP r h r0 r1 z0 z1 b3 256 rfl (qS h z0 z1) w _ hw gd zK hM VV (by omega)) fun v w5 hv => ?_
   obtain ⟨oC,Ei,j1⟩:=hv;have hG:=hM.gr Ei;have hw:=oC;(have aZ:=aZ.aK hG rfl);clear hM oC Ei hG;rcases j1 with ⟨rfl,hL,hM⟩|⟨rfl,oH⟩
   rotate_left
   ·repeat' (first|refine Wz ?_|(refine CW.gu rfl ?_))
    exact ae.bg rfl rfl ⟨_,rfl,hw,by rw [nv (fun hh=>oH ⟨(hh.rest Bw).1,jY (m:=h.Live) (by rw [dy];exact (hh.rest Bw).2.2)⟩)];rfl⟩
   have X8:si (bA (qS h z0 z1) (bc h.av)):=lh VV fun x hx=>by
    unfold bc at hx;obtain ⟨y,_,hy⟩:=adx.1 hx;obtain ⟨p,_,rfl⟩:=adv.1 hy;simp [cu,jm]
   have PX:bK h->(bA (bA (qS h z0 z1) (bc h.av)) h.Live).isSome=true:=fun hh=>(hh.rest Bw).2.2
   have X9:fV h.Live->(bA (bA (qS h z0 z1) (bc h.av)) h.Live).isSome=true->bK h:=fun a b=>bK.of Bw hd Tn hL a b
   generalize bA (qS h z0 z1) (bc h.av)=S at hM X8 PX X9
   have PY:=hr.live;have So:=hr.live.len;have ZS:=hr.live.base;have hsv:=hs.live;repeat' (first|refine Wz ?_|fail)
   refine CW.loop (fun k:Nat=>[(1,.pointer (some ⟨b1,0,none⟩)),(3,.pointer (some ⟨b3,0,none⟩)),(108,.slice r.Live.A r.Live.n r.Live.c),(109,.int .i64 (r.Live.n:Int)),(110,.int .i64 (k:Int))])
    (fun k w'=>k<=r.Live.n∧Ext w w'∧aS w' b1 41 (dG r)∧Marks w' b3 256 (bA S (h.Live.take k))∧Dv h.Live k) (fun k=>r.Live.n-k) 0
    ⟨rfl,rfl,rfl,rfl,rfl,trivial⟩ ⟨by omega,hw,aZ,hM,.nil _⟩ ?_
   clear hw aZ hM;rintro k w' ⟨hk,hw,aZ,hM,hP⟩
   by_cases gp:k<r.Live.n
   ·have iE:k<h.Live.length:=by omega
    have Bx:k-1<r.Live.n:=by omega
    have OJ:bK h->wh h.Live[k]∧(0<k->(h.Live[k-1]'(by omega)).At<h.Live[k].At):=fun hh=>⟨hh.live.each k iE,fun h0=>by
     have:=hh.live.next (k-1) (by omega)
     simpa only [show k-1+1=k by omega] using this⟩
    have PZ:=PY.jR Bx (j:=0) rfl;repeat' (first|refine Wz ?_|refine Wo hw ((PY.all gp)) ?_)
    refine SW.alloc rfl fun b9 w1 ai nY bD => ?_
    repeat' (first|refine Wz ?_|fail);refine SW.ag bD rfl rfl rfl rfl (iy.one (enc:=aO) _) fun w2 jS hg => ?_
    have ak:=ai.own nY hg;have se:=hw.up nY
    obtain ⟨hw,aZ,hM⟩:=cn ak hw aZ hM;have bD:=jS;clear jS ai hg ak;repeat' (first|refine Wz ?_|fail);have iF:IH h.Live[k]->(0<k->(h.Live[k-1]'(by omega)).At<h.Live[k].At)->Dv h.Live (k+1):=fun a b=>hP.snoc iE a fun h0=>b h0
    have G5:=xn S h.Live k iE;generalize VW:h.Live[k]=bb at bD OJ iF G5
    generalize XX:(h.Live[k-1]'(by omega)).At=pv at OJ iF PZ
    simp only [IH,wh,kU] at OJ iF
    have hp:bb.Order<0∨4<bb.Order∨(1<=pw bb.Order∧pw bb.Order<=16):=by
     by_cases h1 : 0<=bb.Order
     ·by_cases h2:bb.Order<=4
      ·exact .inr (.inr (cQ h1 h2))
      ·omega
     ·omega
    have em:bb.At<0∨bb.At.tmod (pw bb.Order)=bb.At % pw bb.Order:=by
     by_cases h1 : 0<=bb.At
     ·exact .inr (adP h1)
     ·omega
    have lT:bb.Order<0∨(0<=bb.Order∧(4<bb.Order∨(bb.Order<=4∧(bb.At<0∨(0<=bb.At∧(bb.At.tmod (pw bb.Order)≠0∨(bb.At.tmod (pw bb.Order)=0∧(bb.Ty<0∨(0<=bb.Ty∧(3<=bb.Ty∨(bb.Ty<3∧((0<k∧bb.At<=pv)∨k=0∨(0<k∧pv<bb.At)))))))))))) ):=by omega
    rcases lT with d|⟨d1,d|⟨d2,d|⟨d3,d|⟨d4,d|⟨d5,d|⟨d6,⟨Bd,d⟩|Bd|⟨Bd,d⟩⟩⟩⟩⟩⟩⟩
    all_goals (apply CW.bH mixed;(· kernel_rfl);rotate_left;intro w1 ai;obtain ⟨hw,aZ,bD,hM⟩:=dv ai hw aZ bD hM;clear ai;rotate_right)
    repeat' (first|refine Wz ?_|refine SW.st (cf (k-1) rfl rfl (by assumption) (by omega) (by omega)) rfl ?_|refine Wn hw PZ ?_|(refine SW.st (fG (r:=pw bb.Order) rfl rfl (by omega) (by omega) (by simp [pw]) (by omega) (by omega)) rfl ?_)|exact SW.eU rfl)
    iterate 7 exact ae.bg rfl rfl ⟨_,rfl,hw,by rw [nv (fun hh=>by have:=OJ hh;omega)];rfl⟩
    all_goals
     have iF:=iF ⟨⟨d1,d2⟩,d3,by omega,by omega⟩ (fun h0=>by omega);refine CW.any 6 mixed (dk (by kernel_rfl)) rfl fun w1 ai aG => ?_
     obtain ⟨hw,aZ,hM,bD⟩:=dv ai hw aZ hM bD;clear ai;refine Wa ?_;refine Wu 5 aG rfl (fG (r:=pw bb.Order) rfl rfl (by omega) (by omega) (by simp [pw]) (by omega) (by omega)) ?_;refine SA.done (by kernel_rfl) ?_
     refine SW.dX rfl rfl (wy b3 _ bb 256 rfl _ hM (lh X8 fun x hx=>by
      obtain ⟨i,hi,rfl⟩:=ade hx;rw [adS];have:=(hP.each i (by simp at hi;omega) (by simp at hi;omega)).1
      exact (cQ this.1 this.2).1) ⟨by omega,by omega⟩) fun v w5 hv => ?_
     obtain ⟨vi,Ei⟩:=hv;have hG:=hM.gr Ei;have hw:=hw.own gd Ei;(have aZ:=aZ.aK hG rfl);rw [<- G5] at vi;repeat' (first|refine Wz ?_|fail);exact ae.again (k+1) ⟨rfl,rfl,rfl,rfl,rfl,trivial⟩ (by omega) ⟨by omega,hw,aZ,vi,iF⟩
   ·obtain rfl:k=r.Live.n:=by omega
    rw [adr (by omega)] at hM;have xV:=hM.bad rfl;cases hS:bA S h.Live with
    | none =>
      rw [hS] at xV;repeat' (first|refine Wz ?_|(refine CW.gu rfl ?_)|refine Wl xV ?_)
      exact ae.bg rfl rfl ⟨_,rfl,hw,by rw [nv (fun hh=>by have:=PX hh;rw [hS] at this;cases this)];rfl⟩
    | some bs =>
      rw [hS] at xV;repeat' (first|refine Wz ?_|(refine CW.fY rfl ?_)|refine Wl xV ?_)
      exact ae.bg rfl rfl ⟨_,rfl,hw,by rw [Dh (X9 (hP.ok (s:=S) (by omega) (by rw [hS];rfl)) (by rw [hS];rfl))];rfl⟩
 ·rw [nv (fun hh=>hd hh.VQ)];have lT:r.bp.n≠2∨(r.bp.n=2∧(r.dO.n≠2∨(r.dO.n=2∧(r.bG<1∨(1<=r.bG∧4<r.bG))))):=by unfold zJ at hd;omega
  rcases lT with d|⟨d1,d|⟨d2,d|⟨d3,d⟩⟩⟩
  repeat' (first|refine Wz ?_|fail);all_goals exact ae.bg rfl rfl ⟨_,rfl,hw,rfl⟩
end Go.Proofs.YtohigmjjbgpfmaaGreatDoor
