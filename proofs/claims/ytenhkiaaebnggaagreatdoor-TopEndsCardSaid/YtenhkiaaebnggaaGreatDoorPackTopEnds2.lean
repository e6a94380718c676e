/- Part 2 of what topEnds_holds leans on. -/
import Derived.Test.YtenhkiaaebnggaaGreatDoorPackTopEnds1
import Derived.Test.YtenhkiaaebnggaaGreatDoorRows
import Derived.ProofKit
import Derived.LaidMore
import Derived.OpenShut
import Derived.Stop.Joined
import Derived.Lib.ConvBytes
import Derived.Laws.Strings
set_option linter.unusedVariables false
set_option linter.unusedSimpArgs false
set_option linter.defProp false
open Go.Proofs.Tryz
namespace Go.Proofs.YtenhkiaaebnggaaGreatDoor
variable {α:Type} {a f o:Int} {l:List Block} {i j k m:Nat} {z:aj}
def sE (o t:Int) (b:Block) : Bool:=decide (b.Order=o) && decide (b.Ty=t)
def MD {t:Int} {b:Block}:sE o t b=true↔b.Order=o∧b.Ty=t:=by simp [sE]
def BU (t:Int) : Int:=if t=2 then 0 else 2
def BV (t:Int) : Int:=if t=1 then 0 else 1
def vu (o:Int) (n:Nat) : Int:=if n<5 then o+n else 4-(((n-5) / 2:Nat) : Int)
def Pd (t:Int) (n:Nat) : Int:=if n<5 then t else if (n-5) % 2=0 then BU t else BV t
def ly (l:List Block) (o t:Int) (n:Nat) : Bool:=decide (o<=vu o n∧vu o n<=4) && l.any (sE (vu o n) (Pd t n))
def yS (h:j<5) : vu o j=o+j:=by unfold vu;rw [if_pos h]
def DQ:vu o (5+2*j)=4-(j:Int):=by unfold vu;rw [if_neg (by omega)];omega
def DR:vu o (5+2*j+1)=4-(j:Int):=by unfold vu;rw [if_neg (by omega)];omega
def Hl {t:Int} (h:j<5) : Pd t j=t:=by unfold Pd;rw [if_pos h]
def Hm {t:Int}:Pd t (5+2*j)=BU t:=by unfold Pd;rw [if_neg (by omega),if_pos (by omega)]
def Hn {t:Int}:Pd t (5+2*j+1)=BV t:=by unfold Pd;rw [if_neg (by omega),if_neg (by omega)]
def ME {t:Int} (h:j<5) (ho:o+j<=4) : ly l o t j=l.any (sE (o+j) t):=by
 unfold ly;rw [yS h,Hl h,decide_eq_true (by omega),agt]
def MF {t:Int} (ho:o<=4-(j:Int)) : ly l o t (5+2*j)=l.any (sE (4-(j:Int)) (BU t)):=by
 unfold ly;rw [DQ,Hm,decide_eq_true (by omega),agt]
def MG {t:Int} (ho:o<=4-(j:Int)) : ly l o t (5+2*j+1)=l.any (sE (4-(j:Int)) (BV t)):=by
 unfold ly;rw [DR,Hn,decide_eq_true (by omega),agt]
def E7 {t:Int} {n:Nat} (h : ¬ (o<=vu o n∧vu o n<=4)) : ly l o t n=false:=by
 unfold ly;rw [decide_eq_false h,Bool.false_and]
inductive lM (l:List Block) (o t:Int) : Option (Nat×Bool)->Prop
 | hit {n k:Nat} (hn:n<15) (ht:ly l o t n=true) (hf:∀ m,m<n->ly l o t m=false) (hk:k<l.length) (hp:sE (vu o n) (Pd t n) l[k]=true) (hg:∀ (j:Nat) (hj:j<l.length),j<k->sE (vu o n) (Pd t n) l[j]=false) : lM l o t (some (k,decide (5<=n)))
 | Pe (hf:∀ m,m<15->ly l o t m=false) : lM l o t none
def lM.dm {t:Int} {u v:Option (Nat×Bool)} (a:lM l o t u) (b:lM l o t v) : u=v:=by
 cases a with
 | @hit n k hn ht hf hk hp hg =>
   cases b with
   | @hit n' k' kA rW GW bP Hj L9 =>
     rcases ae6 n n' with h|h|h
     ·rw [GW n h] at ht;cases ht
     ·subst h;rcases ae6 k k' with h|h|h
      ·rw [L9 k hk h] at hp;cases hp
      ·subst h;rfl
      ·rw [hg k' bP h] at Hj;cases Hj
     ·rw [hf n' h] at rW;cases rW
   | Pe GW=>rw [GW n hn] at ht;cases ht
 | Pe hf =>
   cases b with
   | @hit n' k' kA rW GW bP Hj L9=>rw [hf n' kA] at rW;cases rW
   | Pe=>rfl
def lM.ord {t:Int} {s:Bool} (a:lM l o t (some (k,s))) : ∃ hk:k<l.length,o<=l[k].Order∧l[k].Order<=4:=by
 cases a with
 | hit hn ht hf hk hp hg =>
   refine ⟨hk,?_⟩;unfold ly at ht;rw [ae9] at ht;have h1:=of_decide_eq_true ht.1;have h2:=(MD.1 hp).1;omega
def Pf (f to t:Int) (x:Block) : Block:=if f<=x.At∧x.At+pw x.Order<=to then ⟨x.At,x.Order,t⟩ else x
def E8 (b:Block) : Int:=if b.Order=4 then b.At+16 else b.At / 8*8+8
def kd (l:List Block) (b:Block) (t:Int) : List Block:=if b.Order<2 then l else l.map (Pf (b.At / 8*8) (E8 b) t)
def vv (z:aj) (b:Block) : Nat:=((b.At-z.aT) / 8).toNat
def k6 (z:aj) (b:Block) (t:Int) : List Int:=if b.Order<2 then z.Types else if b.Order=4 then (z.Types.set (vv z b) t).set (vv z b+1) t else z.Types.set (vv z b) t
def pM (f to t:Int) (x:Block) : (Pf f to t x).At=x.At∧(Pf f to t x).Order=x.Order:=by
 unfold Pf;split<;>exact ⟨rfl,rfl⟩
def Ho (l:List Block) (b:Block) (t:Int) : (kd l b t).length=l.length:=by unfold kd;split<;>simp
def Hp {b:Block} {t:Int} (h:sw l) : sw (kd l b t):=by
 unfold kd;split
 ·exact h
 ·unfold sw at *;rw [af6];refine h.imp fun {x y} WW => ?_
  rw [(pM _ _ _ x).1,(pM _ _ _ x).2,(pM _ _ _ y).1];exact WW
def Hq {u:Int} {b:Block} {t:Int} (h:∀ x∈l,lq f u x) (ht:lf t) : ∀ x∈kd l b t,lq f u x:=by
 unfold kd;split
 ·exact h
 ·intro x hx;obtain ⟨y,hy,rfl⟩:=aeH.1 hx;have hk:=h y hy;unfold lq at *;rw [(pM _ _ _ y).1,(pM _ _ _ y).2];refine ⟨hk.1,?_⟩;unfold Pf;split
  ·exact ht
  ·exact hk.2
def oA (ty a q:Int) : Block:=⟨a+pw (q-1),q-1,ty⟩
def ug (ty a q:Int) (l:List Block) : List Block:=aM l (bE l (a+pw (q-1))) (oA ty a q)
def mF (ty a:Int) : Nat->Int->List Block->List Block
 | 0,_,l=>l
 | f+1,q,l=>mF ty a f (q-1) (ug ty a q l)
def yn (z:aj) (t:Int) (st:Bool) (b:Block) : Int:=if st=true∧2<=b.Order then t else b.Ty
def uF (z:aj) (o t:Int) (b:Block) (k:Nat) (st:Bool) : aj :=
 ⟨z.aT,z.To,mF (yn z t st b) b.At (b.Order-o).toNat b.Order ((if st=true then kd z.ai b t else z.ai).eraseIdx k),if st=true then k6 z b t else z.Types⟩
inductive iD (z:aj) (o t:Int) : aj×Int×Int->Prop
 | bad (h:fT z=false) : iD z o t (.zero,0,8)
 | range (h:fT z=true) (ho : ¬ (0<=o∧o<=4)) : iD z o t (.zero,0,1)
 | kind (h:fT z=true) (ho : 0<=o∧o<=4) (ht : ¬ lf t) : iD z o t (.zero,0,2)
 | room (h:fT z=true) (ho : 0<=o∧o<=4) (ht:lf t) (hp:lM z.ai o t none) : iD z o t (.zero,0,6)
 | ok {k:Nat} {st:Bool} (h:fT z=true) (ho : 0<=o∧o<=4) (ht:lf t) (hk:k<z.ai.length) (hp:lM z.ai o t (some (k,st))) : iD z o t (uF z o t z.ai[k] k st,z.ai[k].At,0)
def iD.dm {t:Int} {u v:aj×Int×Int} (a:iD z o t u) (b:iD z o t v) : u=v:=by
 cases a with
 | bad h=>cases b with
   | bad=>rfl
   | range h'|kind h'|room h'|ok h'=>rw [h] at h';cases h'
 | range h ho=>cases b with
   | bad h'=>rw [h] at h';cases h'
   | range=>rfl
   | kind _ ou|room _ ou|ok _ ou=>exact absurd ou ho
 | kind h ho ht=>cases b with
   | bad h'=>rw [h] at h';cases h'
   | range _ ou=>exact absurd ho ou
   | kind=>rfl
   | room _ _ rW|ok _ _ rW=>exact absurd rW ht
 | room h ho ht hp=>cases b with
   | bad h'=>rw [h] at h';cases h'
   | range _ ou=>exact absurd ho ou
   | kind _ _ rW=>exact absurd ht rW
   | room=>rfl
   | ok _ _ _ _ Hj=>cases hp.dm Hj
 | ok h ho ht hk hp=>cases b with
   | bad h'=>rw [h] at h';cases h'
   | range _ ou=>exact absurd ho ou
   | kind _ _ rW=>exact absurd ht rW
   | room _ _ _ Hj=>cases hp.dm Hj
   | ok _ _ _ _ Hj=>cases hp.dm Hj;rfl
def kQ {l:List α} {x y : α}:y∈aM l i x↔y=x∨y∈l:=by
 have e:l=l.take i++l.drop i:=(aex i l).symm
 unfold aM;constructor
 ·intro h;simp only [List.mem_append,List.mem_singleton] at h;rcases h with (h|h)|h
  ·exact .inr (aeX h)
  ·exact .inl h
  ·exact .inr (afa h)
 ·intro h;simp only [List.mem_append,List.mem_singleton];rcases h with h|h
  ·exact .inl (.inr h)
  ·rw [e,aeC] at h;rcases h with h|h
   ·exact .inl (.inl h)
   ·exact .inr h
def Kc {t:Int} {y:Block} (hu:sw l) (hb:∀ b∈l,lq f t b) (hy : 0<=y.Order∧y.Order<=4) (hd:∀ b∈l,b.At+pw b.Order<=y.At∨y.At+pw y.Order<=b.At) : sw (aM l (bE l y.At) y):=by
 have e:l=l.take (bE l y.At)++l.drop (bE l y.At):=(aex _ l).symm
 have h0:=hu;unfold sw at h0;rw [e,aeT] at h0;obtain ⟨h1,h2,h3⟩:=h0
 have hA:∀ x∈l.take (bE l y.At),x.At+pw x.Order<=y.At:=fun x hx=>by
  obtain ⟨j,hj,rfl⟩:=aeu hx;simp only [List.length_take] at hj;rw [ae3];have e8:=qb (l:=l) (a:=y.At) (k:=j) (by omega);have hp:=cM hy.1 hy.2;rcases hd _ (aet (show j<l.length by omega)) with h|h<;>omega
 have hB:∀ x∈l.drop (bE l y.At),y.At+pw y.Order<=x.At:=fun x hx=>by
  obtain ⟨j,hj,rfl⟩:=aeu hx;simp only [List.length_drop] at hj;rw [afl];have Mq:=E0 (l:=l) (a:=y.At) (by omega)
  have hle:(l[bE l y.At]'(by omega)).At<=(l[bE l y.At+j]'(by omega)).At:=by
   rcases aeL j with rfl|Hr
   ·exact agl _
   ·have:=jV hu (show bE l y.At+j<l.length by omega) (show bE l y.At<bE l y.At+j by omega)
    have:=cM (hb _ (aet (show bE l y.At<l.length by omega))).1.1 (hb _ (aet (show bE l y.At<l.length by omega))).1.2.1
    omega
  have hm:=aet (show bE l y.At+j<l.length by omega);have:=cM (hb _ hm).1.1 (hb _ hm).1.2.1
  rcases hd _ hm with h|h<;>omega
 unfold aM sw;rw [aey,aeT];refine ⟨h1,?_,fun a ha b iL => ?_⟩
 ·rw [aeO,afq];exact ⟨hB,h2⟩
 ·rw [aeO,afx] at iL;rcases iL with rfl|iL
  ·exact hA a ha
  ·exact h3 a ha b iL
def E9 {t:Int} {q ty:Int} (h:EY f t l a q) (h0 : 0<=f) (ht:t<=256) (RO:t % 16=0) (hq : 1<=q) (zO:lf ty) : EY f t (ug ty a q l) a (q-1)∧(∀ b∈l,b.At≠a+pw (q-1)):=by
 obtain ⟨f1,f2,f3,f4,f5⟩:=h.fit
 have hp:pw q=2*pw (q-1):=by
  have:=qY (o:=q-1) (by omega) (by omega)
  rwa [af1] at this
 have hm:a % pw (q-1)=0∧(a+pw (q-1)) % pw (q-1)=0∧1<=pw (q-1)∧a+pw (q-1)<t:=by
  rcases fQ f1 f2 with ⟨e1,e2⟩|⟨e1,e2⟩|⟨e1,e2⟩|⟨e1,e2⟩|⟨e1,e2⟩
  all_goals
   rw [e2] at f5 hp
   first
    | omega
    | (have e3:pw (q-1)=1:=by omega
       rw [e3];omega)
    | (have e3:pw (q-1)=2:=by omega
       rw [e3];omega)
    | (have e3:pw (q-1)=4:=by omega
       rw [e3];omega)
    | (have e3:pw (q-1)=8:=by omega
       rw [e3];omega)
 obtain ⟨m1,m2,m3,m4⟩:=hm
 have hd:∀ b∈l,b.At+pw b.Order<=a+pw (q-1)∨a+pw (q-1)+pw (q-1)<=b.At:=fun b hb=>by
  rcases h.ON b hb with g|g<;>omega
 have bG:∀ b∈l,b.At≠a+pw (q-1):=fun b hb e=>by
  have:=cM (h.eV b hb).1.1 (h.eV b hb).1.2.1
  rcases h.ON b hb with g|g<;>omega
 refine ⟨⟨?_,fun b hb => ?_,⟨by omega,by omega,f3,f4,m1⟩,fun b hb => ?_⟩,bG⟩
 ·exact Kc (y:=oA ty a q) h.sw h.eV ⟨by simp only [oA];omega,by simp only [oA];omega⟩ hd
 ·rcases kQ.1 hb with rfl|hb
  ·exact ⟨⟨by simp only [oA];omega,by simp only [oA];omega,by simp only [oA];omega,m4,m2⟩,zO⟩
  ·exact h.eV b hb
 ·rcases kQ.1 hb with rfl|hb
  ·right;simp only [oA];omega
  ·rcases h.ON b hb with g|g<;>omega
def Kd (ty a q:Int) (l:List Block) : (ug ty a q l).length=l.length+1:=by
 have:=I9 l (a+pw (q-1))
 unfold ug aM;simp;omega
def Ct {t:Int} (hu:sw l) (hb:∀ b∈l,lq f t b) (hk:k<l.length) : EY f t (l.eraseIdx k) l[k].At l[k].Order:=by
 have hs:∀ b∈l.eraseIdx k,b∈l:=fun b h=>ae4 h
 refine ⟨?_,fun b h=>hb b (hs b h),(hb _ (aet hk)).1,fun b h => ?_⟩
 ·unfold sw at *;exact hu.sublist (afm l k)
 ·obtain ⟨j,hj,rfl⟩:=aeu h;have hlen:=afN hk;rw [afw];split
  ·rename_i my;exact .inl (jV hu hk my)
  ·rename_i my;exact .inr (jV hu (by omega) (by omega))
def MH {t:Int} (hm : 5+2*j<=m) (ho : 4-(j:Int)<o) : ly l o t m=false :=
 E7 (by unfold vu;rw [if_neg (by omega)];omega)
def Pg {b:Block} (h2 : 2<=b.Order) (h4:b.Order<=4) (hm:b.At % pw b.Order=0) : b.At / 8*8<=b.At∧b.At+pw b.Order<=E8 b:=by
 unfold E8;rcases fQ (show 0<=b.Order by omega) h4 with ⟨e1,e2⟩|⟨e1,e2⟩|⟨e1,e2⟩|⟨e1,e2⟩|⟨e1,e2⟩<;>rw [e2] at hm ⊢<;>split<;>omega
def kB (z:aj) (b:Block) (t:Int) (st:Bool) : List Block:=if st=true then kd z.ai b t else z.ai
def vw (hz:bW z) {b:Block} {t:Int} (ht:lf t) (st:Bool) : (kB z b t st).length=z.ai.length∧sw (kB z b t st) ∧ ∀ x∈kB z b t st,lq z.aT z.To x:=by
 have hb:∀ x∈z.ai,lq z.aT z.To x:=fun x hx=>by
  obtain ⟨i,hi,rfl⟩:=aeu hx;exact hz.eV i hi
 unfold kB;split
 ·exact ⟨Ho _ _ _,Hp (qa hz),Hq hb ht⟩
 ·exact ⟨rfl,qa hz,hb⟩
def wH (hz:bW z) {t:Int} (ht:lf t) (st:Bool) (hk:k<z.ai.length) :
 (kB z z.ai[k] t st)[k]'(by rw [(vw hz ht st).1];exact hk)=⟨z.ai[k].At,z.ai[k].Order,yn z t st z.ai[k]⟩:=by
 obtain ⟨f1,f2,f3,f4,f5⟩:=(hz.eV k hk).1;unfold kB yn;cases st
 ·simp
 ·simp only [if_true,true_and];unfold kd;by_cases h2:z.ai[k].Order<2
  ·simp only [if_pos h2,if_neg (show ¬ 2<=z.ai[k].Order by omega)]
  ·simp only [if_neg h2,if_pos (show 2<=z.ai[k].Order by omega),afS];unfold Pf;rw [if_pos (Pg (by omega) f2 f5)]
open Go.RowKit
variable {y:Operand} {T e t:TypeId} {w w1 w2:World}
section
variable {P:Program} {L:Env} {w:World} {d:Option Nat} {T:TypeId} {pos:String} {af:Array Edge} {g:Option (Nat×Bool)}
def rb {len:Nat} [c:zu P t len e 1] [ik P e] {x:Operand} {vs:List Value} {i:Int} {v:Value} (k:Nat) (hx:cy L x=some (.agg vs.toArray)) (hy:cy L y=some (.int .i64 i)) (hi:i=(k:Int)) (hk:k<len) (hv:vs[k]?=some v) :
 St P ⟨d,.index t x y,T,pos,af,g⟩ L w v :=
 ⟨fun _ a ha w' _=>by
  subst hi;have e1:=ha.eval hx;have e2:=ha.eval hy;generalize a.eval = ρ at *
  simp [execOp,e1,e2,Instr.index,asIntOf,run_underlying c.ot,run_sizeOf c.size,hk,part,ub,hv]⟩
end
def MI (o t:Int) (b4 b5:Nat) (x:Block) (w:World) (h4:aR w b4 3 [.int .i64 o]) (h5:aR w b5 3 [.int .i64 t]) :
 bI prog 175 ([.agg (aO x).toArray]++[.pointer (some ⟨b4,0,none⟩),.pointer (some ⟨b5,0,none⟩)]) w fun v _=>v = .bool (sE o t x):=by
 refine Wj func175 ntmps175 ?_;refine Ww fun b1 w1 hw lD aX => ?_;obtain ⟨h4,h5⟩:=cT hw h4 h5;have WX:=h4.cell (i:=0) (v := .int .i64 o) rfl;have Zc:=h5.cell (i:=0) (v := .int .i64 t) rfl;rw [add_zero] at WX Zc;by_cases h1:x.Order=o
 ·repeat' (first|refine Wz ?_|refine Wl WX ?_|refine Wl Zc ?_)
  exact ae.bh rfl rfl ⟨_,rfl,hw,by simp [sE,h1]⟩
 ·repeat' (first|refine Wz ?_|refine Wl WX ?_)
  exact ae.bh rfl rfl ⟨_,rfl,hw,by simp [sE,h1]⟩
def Hs (r:eG) (l:List Block) (o t:Int) (w:World) (hl:Sl w 3 aO r.ai.A r.ai.n l) (hn:r.ai.n<=9223372036854775807) :
 bI prog 164 [.agg (dq r).toArray,.int .i64 o,.int .i64 t] w fun v _=>v = .int .i64 (idxOf (sE o t) l):=by
 refine Wj func164 ntmps164 ?_;refine Ww fun b3 w1 hw cg ao => ?_;refine SW.Mv rfl rfl rfl fun b4 w2 bq fw aE => ?_
 (obtain ⟨hw,ao⟩:=cT bq hw ao);refine SW.Mv rfl rfl rfl fun b5 w3 nL gI aL => ?_
 (obtain ⟨hw,ao,aE⟩:=cd nL hw ao aE);repeat' (first|refine Wz ?_|(refine SW.st (iX (vs:=[.pointer (some ⟨b4,0,none⟩),.pointer (some ⟨b5,0,none⟩)]) rfl) rfl ?_))
 refine Wk (ow _ _ _ _ _ (hl.ext hw) _ [.pointer (some ⟨b4,0,none⟩),.pointer (some ⟨b5,0,none⟩)] (sE o t) (fun x => .agg (aO x).toArray) (fun x=>rfl) (fun x hx w1 lj=>MI o t b4 b5 x w1 (aE.ext lj) (aL.ext lj)) hn) fun v w4 kN hv => ?_
 subst hv;have hw:=hw.trans kN;refine Wz ?_;exact ae.bh rfl rfl ⟨_,rfl,hw,rfl⟩
structure qj (T:TypeId) (w w':World) : Prop where
 out:∀ b cs,aR w b T cs->aR w' b T cs
def qj.refl (T:TypeId) (w:World) : qj T w w:=⟨fun _ _ h=>h⟩
def qj.ext (h:qj T w w1) (hx:Ext w1 w2) : qj T w w2:=⟨fun b cs hb=>(h.out b cs hb).ext hx⟩
def qj.aJ (h:qj T w w1) (hG:se w1 w2 t) (bG:Nat.beq t T=false) : qj T w w2:=⟨fun b cs hb=>(h.out b cs hb).aJ hG bG⟩
def Ke (T:List Int) (i:Nat) (t:Int) (c:Nat) : List Int:=if c=0 then T else if c<=8 then T.set i t else (T.set i t).set (i+1) t
def Kf {T:List Int} {t:Int} {c:Nat} (hc:c<16) : (Ke T i t c).set (i+c / 8) t=Ke T i t (c+1):=by
 unfold Ke;rcases (show c=0∨(1<=c∧c<8)∨c=8∨(8<c∧c<16) by omega) with rfl|h|rfl|h
 ·simp
 ·have e:c / 8=0:=by omega
  rw [if_neg (by omega),if_pos (by omega),if_neg (by omega),if_pos (by omega),e,agf,afY]
 ·simp
 ·have e:c / 8=1:=by omega
  rw [if_neg (by omega),if_neg (by omega),if_neg (by omega),if_neg (by omega),e,afY]
def oB (f : α -> α) (l:List α) (j:Nat) : List α := (l.take j).map f++l.drop j
def wI {f : α -> α} {l:List α}:(oB f l j).length=l.length:=by simp [oB];omega
def Cu {f : α -> α} {l:List α} (hj:j<l.length) : (oB f l j)[j]'(by rw [wI];exact hj)=l[j]:=by
 have e:(oB f l j)[j]?=l[j]?:=by
  unfold oB;rw [afd (by simp;omega)];have:j-((l.take j).map f).length=0:=by simp;omega
  rw [this,af2];simp
 rw [aez (by rw [wI];exact hj),aez hj] at e;exact Option.some.inj e
def Cv {f : α -> α} {l:List α} (hj:j<l.length) : (oB f l j).set j (f l[j])=oB f l (j+1):=by
 unfold oB;rw [afu _ _ (by simp;omega)];have:j-((l.take j).map f).length=0:=by simp;omega
 rw [this,aeA hj,aeV,agy hj,List.set_cons_zero];simp
def Ht {f : α -> α} {l:List α} (hj:j<l.length) (hf:f l[j]=l[j]) : oB f l (j+1)=oB f l j:=by
 rw [<- Cv hj,hf];have:=Cu (f:=f) hj
 rw [<- this];exact afb (by rw [wI];exact hj)
def Hu {f : α -> α} {l:List α}:oB f l 0=l:=by simp [oB]
def Kg {f : α -> α} {l:List α}:oB f l l.length=l.map f:=by simp [oB]
def MJ (hf:f % 16=0) (OP:f<=a) (h2 : 2<=o) (h4:o<=4) (hm:a % pw o=0) {c:Nat} (hc:(c:Int)<pw o) : (a+c-f) / 8=((((a-f) / 8).toNat+c / 8:Nat) : Int):=by
 rcases fQ (show 0<=o by omega) h4 with ⟨e1,e2⟩|⟨e1,e2⟩|⟨e1,e2⟩|⟨e1,e2⟩|⟨e1,e2⟩<;>rw [e2] at hm hc<;>omega
def MK {b:Block} (h2 : 2<=b.Order) (h4:b.Order<=4) (hm:b.At % pw b.Order=0) : max (b.At+pw b.Order) (b.At / 8*8+8)=E8 b:=by
 unfold E8;rcases fQ (show 0<=b.Order by omega) h4 with ⟨e1,e2⟩|⟨e1,e2⟩|⟨e1,e2⟩|⟨e1,e2⟩|⟨e1,e2⟩<;>rw [e2] at hm ⊢<;>split<;>omega
structure ML (base w:World) (r:eG) (z:aj) (b:Block) (t:Int) (w':World) : Prop where
 ext:Ext base w'
 jQ:qj 113 w w'
 free:Own w' base.heap.size 143 3 aO r.ai.A r.ai.n r.ai.c (kd z.ai b t)
 types:Own w' base.heap.size 3 1 bt r.Types.A r.Types.n r.Types.c (k6 z b t)
set_option maxHeartbeats 2000000 in
def Cw (r:eG) (z:aj) (k:Nat) (t:Int) (base w:World) (hB:Ext base w) (hX:Own w base.heap.size 143 3 aO r.ai.A r.ai.n r.ai.c z.ai) (hT:Own w base.heap.size 3 1 bt r.Types.A r.Types.n r.Types.c z.Types)
 (eF:r.aT=z.aT) (hz:bW z) (hk:k<z.ai.length) (hn:r.ai.n<=1000000000000000000) :
 iO prog 165 [.agg (dq r).toArray,.int .i64 (k:Int),.int .i64 t] w fun _ w'=>ML base w r z z.ai[k] t w':=by
 refine dc func165 rfl ntmps165 rfl ?_;obtain ⟨f1,f2,f3,f4,f5⟩:=(hz.eV k hk).1;obtain ⟨o1,o2,o3,o4,o5⟩:=hz.ok;have hlen:=hz.len;have O8:=hX.len;have T0:=hT.len;have hA:=hX.sl.base;have hAT:=hT.sl.base;have gC:k<r.ai.n:=by omega
 refine Ww fun b3 w1 ah cg ao => ?_;have hw:=hB.trans ah;have hK:qj 113 w w1:=(qj.refl _ w).ext ah
 obtain ⟨hX,hT⟩:=cT ah hX hT;have gm:base.heap.size<=b3:=aev hB.size cg
 clear ah cg;obtain ⟨x,hx⟩ : ∃ x,z.ai[k]=x:=⟨_,rfl⟩;rw [hx] at f1 f2 f3 f4 f5 ⊢;have hg:=hX.sl.all gC;simp only [hx] at hg;repeat' (first|refine Wz ?_|refine Wm hg ?_)
 refine SW.alloc rfl fun b6 w1 ah VU ap => ?_
 have WY:=hw.up VU
 have WZ:aG r.ai.A r.ai.c≠some b6:=fun e=>by have:=hX.lt_size _ e;omega
 obtain ⟨hw,ao,hX,hT,hK⟩:=fH ah hw ao hX hT hK;skip;refine Wg ap (iK.one (enc:=aO) x) fun w2 bQ hg => ?_
 have hG:=ap.gr hg;have hw:=hw.own WY hg;have hX:=hX.grown hg (.inr WZ);(obtain ⟨ao,hT,hK⟩:=cd hG ao hT hK);have ap:=bQ;clear bQ hg hG ah VU;by_cases h2:x.Order<2
 ·refine Wz ?_;exact ae.RN rfl ⟨_,rfl,hw,hK,by rw [kd,if_pos h2];exact hX,by rw [k6,if_pos h2];exact hT⟩
 ·refine Wz ?_;have hp:=cM f1 f2;have Tw:∀ c:Nat,(c:Int)<pw x.Order->(x.At+c-z.aT) / 8=((vv z x+c / 8:Nat) : Int):=fun c hc=>MJ o4 f3 (by omega) f2 f5 hc
  have cE:∀ w',bI prog 128 [.agg (aO x).toArray] w' fun v _=>v = .int .i64 (x.At+pw x.Order):=fun w'=>p9 x w' ⟨f1,f2⟩ ⟨by omega,by omega⟩
  refine CW.loop (fun c:Nat=>[(2,.int .i64 t),(3,.pointer (some ⟨b3,0,none⟩)),(6,.pointer (some ⟨b6,0,none⟩)),(7,.int .i64 (x.At+(c:Int)))])
   (fun c w'=>(c:Int)<=pw x.Order∧Ext base w'∧qj 113 w w'∧aR w' b3 113 (dq r)∧aR w' b6 143 (aO x)∧Own w' base.heap.size 143 3 aO r.ai.A r.ai.n r.ai.c z.ai∧Own w' base.heap.size 3 1 bt r.Types.A r.Types.n r.Types.c (Ke z.Types (vv z x) t c))
   (fun c=>(pw x.Order).toNat-c) 0 ⟨rfl,rfl,rfl,congrArg (fun z=>some (Value.int .i64 z)) (by omega),trivial⟩ ⟨by omega,hw,hK,ao,ap,hX,hT⟩ ?_
  clear hw hK ao ap hX hT;rintro c w' ⟨hc,hw,hK,ao,ap,hX,hT⟩
  by_cases qQ:(c:Int)<pw x.Order
  ·have hgc:=Tw c qQ
   have cx:vv z x+c / 8<r.Types.n:=by
    have:x.At+c<z.To:=by
     rcases fQ f1 f2 with ⟨e1,e2⟩|⟨e1,e2⟩|⟨e1,e2⟩|⟨e1,e2⟩|⟨e1,e2⟩<;>rw [e2] at f5 qQ<;>omega
    omega
   have W0:c<16:=by omega
   repeat' (first|refine Wz ?_|refine SW.st (cn (vv z x+c / 8) rfl rfl (by assumption) (by omega) (by omega)) rfl ?_|(refine Wk (cE _) ?_;intro v w1 ah hv;subst hv;obtain ⟨hw,ao,ap,hX,hT,hK⟩:=jh ah hw ao ap hX hT hK;clear ah))
   refine SW.qT (vv z x+c / 8) hT rfl rfl cx fun w5 Tx hg => ?_
   have hG:=hT.gr hg;have hw:=aD hw hg (aew _) hT.aW;(obtain ⟨ao,ap,hX,hK⟩:=dJ hG ao ap hX hK);rw [Kf W0] at Tx;refine Wz ?_;exact ae.again (c+1) ⟨rfl,rfl,rfl,congrArg (fun z=>some (Value.int .i64 z)) (by omega),trivial⟩ (by omega) ⟨by omega,hw,hK,ao,ap,hX,Tx⟩
  ·have hce:(c:Int)=pw x.Order:=by omega
   have zO:Ke z.Types (vv z x) t c=k6 z x t:=by
    unfold Ke k6;rcases fQ f1 f2 with ⟨e1,e2⟩|⟨e1,e2⟩|⟨e1,e2⟩|⟨e1,e2⟩|⟨e1,e2⟩
    ·omega
    ·omega
    ·rw [if_neg (by omega),if_pos (by omega),if_neg (by omega),if_neg (by omega)]
    ·rw [if_neg (by omega),if_pos (by omega),if_neg (by omega),if_neg (by omega)]
    ·rw [if_neg (by omega),if_neg (by omega),if_neg (by omega),if_pos (by omega)]
   rw [zO] at hT;have EJ:=MK (b:=x) (by omega) f2 f5;repeat' (first|refine Wz ?_|(refine Wk (cE _) ?_;intro v w1 ah hv;subst hv;obtain ⟨hw,ao,ap,hX,hT,hK⟩:=jh ah hw ao ap hX hT hK;clear ah)|(refine SW.st ((DE rfl rfl).eq (congrArg (Value.int .i64) EJ)) rfl ?_))
   clear ap cE Tw;obtain ⟨f,hf⟩ : ∃ f,Pf (x.At / 8*8) (E8 x) t=f:=⟨_,rfl⟩
   refine CW.loop (fun j:Nat=>[(2,.int .i64 t),(3,.pointer (some ⟨b3,0,none⟩)),(8,.int .i64 (x.At / 8*8)),(9,.int .i64 (E8 x)),(47,.slice r.ai.A r.ai.n r.ai.c),(48,.int .i64 (r.ai.n:Int)),(49,.int .i64 (j:Int))])
    (fun j w'=>j<=r.ai.n∧Ext base w'∧qj 113 w w'∧aR w' b3 113 (dq r)∧Own w' base.heap.size 143 3 aO r.ai.A r.ai.n r.ai.c (oB f z.ai j)∧Own w' base.heap.size 3 1 bt r.Types.A r.Types.n r.Types.c (k6 z x t))
    (fun j=>r.ai.n-j) 0 ⟨rfl,rfl,rfl,rfl,rfl,rfl,rfl,trivial⟩ ⟨by omega,hw,hK,ao,by rw [Hu];exact hX,hT⟩ ?_
   clear hw hK ao hX hT;rintro j w' ⟨hj,hw,hK,ao,hX,hT⟩
   by_cases p7:j<r.ai.n
   ·have pZ:j<z.ai.length:=by omega
    obtain ⟨g1,g2,g3,g4,g5⟩:=(hz.eV j pZ).1;obtain ⟨y,hy⟩ : ∃ y,z.ai[j]=y:=⟨_,rfl⟩;have ig:=Cu (f:=f) pZ;rw [hy] at g1 g2 g3 g4 g5 ig;have fc:=hX.sl.all p7;simp only [ig] at fc;have hpy:=cM g1 g2;have cY:∀ w',bI prog 128 [.agg (aO y).toArray] w' fun v _=>v = .int .i64 (y.At+pw y.Order):=fun w'=>p9 y w' ⟨g1,g2⟩ ⟨by omega,by omega⟩
    repeat' (first|refine Wz ?_|refine Wm fc ?_)
    refine SW.alloc rfl fun Pj w1 ah hb ir => ?_
    have EG:=hw.up hb
    have bG:aG r.ai.A r.ai.c≠some Pj:=fun e=>by have:=hX.lt_size _ e;omega
    obtain ⟨hw,ao,hX,hT,hK⟩:=fH ah hw ao hX hT hK;refine Wz ?_;refine Wg ir (iK.one (enc:=aO) y) fun w2 pk hg => ?_
    have hG:=ir.gr hg;have hw:=hw.own EG hg;have hX:=hX.grown hg (.inr bG);(obtain ⟨ao,hT,hK⟩:=cd hG ao hT hK);have ir:=pk;clear pk hg hG ah hb;by_cases QA:x.At / 8*8<=y.At∧y.At+pw y.Order<=E8 x
    ·have W1:f y=⟨y.At,y.Order,t⟩:=by rw [<- hf];unfold Pf;rw [if_pos QA]
     repeat' (first|refine Wz ?_|(refine Wk (cY _) ?_;intro v w1 ah hv;subst hv;obtain ⟨hw,ao,ir,hX,hT,hK⟩:=jh ah hw ao ir hX hT hK;clear ah))
     refine SW.gH j 2 ⟨y.At,y.Order,t⟩ hX rfl rfl rfl p7 (by decide) rfl (by rw [ig];rfl) fun w5 DO hg => ?_
     have hG:=hX.gr hg;have hw:=aD hw hg (aew _) hX.aW;(obtain ⟨ao,hT,hK⟩:=cd hG ao hT hK);rw [<- W1,<- hy,Cv pZ] at DO;refine Wz ?_;exact ae.again (j+1) ⟨rfl,rfl,rfl,rfl,rfl,rfl,rfl,trivial⟩ (by omega) ⟨by omega,hw,hK,ao,DO,hT⟩
    ·have W1:f y=y:=by rw [<- hf];unfold Pf;rw [if_neg QA]
     have W2:=Ht (f:=f) pZ (by rw [hy];exact W1);by_cases Cx:x.At / 8*8<=y.At
     all_goals
      repeat' (first|refine Wz ?_|(refine Wk (cY _) ?_;intro v w1 ah hv;subst hv;obtain ⟨hw,ao,ir,hX,hT,hK⟩:=jh ah hw ao ir hX hT hK;clear ah))
      exact ae.again (j+1) ⟨rfl,rfl,rfl,rfl,rfl,rfl,rfl,trivial⟩ (by omega) ⟨by omega,hw,hK,ao,by rw [W2];exact hX,hT⟩
   ·obtain rfl:j=r.ai.n:=by omega
    refine Wz ?_;rw [<- O8,Kg,O8,<- hf] at hX;exact ae.qi rfl ⟨_,rfl,hw,hK,by rw [kd,if_neg h2];exact hX,hT⟩
variable {b lo:Nat} {A:Option Addr} {w':World} {p:α -> Bool}
structure m9 (w:World) : Prop where
 row:∀ (k:Nat),k<3 -> ∀ (j:Nat) (v:Value),[Value.int .i64 (BU (k:Int)),Value.int .i64 (BV (k:Int))][j]?=some v->w.cell? (((⟨1,0,none⟩ : Addr).add (k*2)).add j)=some v
def m9.ext (h:m9 w) (hx:Ext w w') : m9 w':=⟨fun k hk j v hv=>hx.cell (h.row k hk j v hv)⟩
def rc (lo:Nat) (u:aj×Int×Int) (v:Value) (w:World) : Prop := ∃ s,v = .tuple #[.agg (dq s).toArray,.int .i64 u.2.1,.int .i64 u.2.2]∧iS w lo s u.1
def rc.zero (e:Int) (lo:Nat) (w:World) : rc lo (.zero,0,e) (.tuple #[.agg (dq .zero).toArray,.int .i64 0,.int .i64 e]) w:=⟨.zero,rfl,iS.zero _ _⟩
def DS {l:List α} (h:l.any p=true) : ∃ (k:Nat) (hk:k<l.length),p l[k]=true∧(∀ (j:Nat) (hj:j<l.length),j<k->p l[j]=false)∧idxOf p l=(k:Int):=by
 have h1:l.findIdx p<l.length:=List.findIdx_lt_length_of_exists (by simpa using h)
 exact ⟨l.findIdx p,h1,List.findIdx_getElem (w:=h1),fun j hj ji=>by simpa using List.not_of_lt_findIdx ji,by unfold idxOf;rw [if_pos h]⟩
def zT {l:List α} (h:l.any p=false) : idxOf p l = -1:=by unfold idxOf;rw [h];rfl
def Own.RP {n c:Nat} {x:Block} (h:Own w lo 143 3 aO A n c l) (hB:aR w b 143 (aO x)) (hn : 0<n) (hx:∀ y∈l,y.At≠x.At) : aG A c≠some b:=by
 rcases h.row with ⟨h0,_⟩|⟨hc,g,ka,rfl,h1,h2,h3,h4,h5,h6⟩
 ·omega
 ·intro e;simp only [aG,Nat.pos_iff_ne_zero.1 hc,if_false,Option.map_some,Option.some.injEq] at e;subst e;unfold aR at hB;rw [h2] at hB;injection hB with hB
  injection hB with W3 _ _
  subst W3;have Cx:c=1:=by simp [aO] at h5;omega
  have J1:n=1:=by omega
  have hl:=h.len;rw [J1] at hl;obtain ⟨y,rfl⟩:=List.length_eq_one_iff.1 hl;rw [J1] at h6;simp [aO] at h6;exact hx y (by simp) h6.1.symm
set_option maxHeartbeats 8000000 in
def MM (r:eG) (z:aj) (o t:Int) (w:World) (hr:Hb w r z) (hf:(r.ai.n+1)*24<=140737488355328) (ht:r.Types.n*8<=140737488355328) (h1 : -9223372036854775808<=r.aT∧r.aT<=9223372036854775807) (h2 : -9223372036854775808<=r.To∧r.To<=9223372036854775807) (hO:m9 w) :
 bI prog 146 [.agg (dq r).toArray,.int .i64 o,.int .i64 t] w fun v w' => ∃ u,iD z o t u∧rc w.heap.size u v w':=by
 refine Wj func146 ntmps146 ?_;refine Ww fun b3 w1 hw cg ao => ?_;refine SW.alloc rfl fun b6 w2 bq dv ap => ?_
 have cQ:=hw.up dv
 have pi:b3≠b6:=by have:=ao.lt;omega
 (obtain ⟨hw,ao⟩:=cT bq hw ao);have eF:=hr.from_;have eT:=hr.pJ;have O8:=hr.free.len;have T0:=hr.types.len;obtain ⟨q,hq⟩ : ∃ q,fT z=q:=⟨_,rfl⟩
 have c1:∀ w',Ext w w'->bI prog 75 [.agg (dq r).toArray] w' fun v _=>v = .int .i64 (if q then 0 else 8):=fun w' h=>by
  have:=lh r z w' (hr.ext h) (by omega) (by omega) h1 h2
  rwa [hq] at this
 cases q
 ·simp only [Bool.false_eq_true,if_false] at c1;repeat' (first|refine Wz ?_|(refine Wk (c1 _ hw) ?_;intro v w1 ah hv;subst hv;obtain ⟨hw,ao,ap⟩:=cd ah hw ao ap;clear ah))
  skip;refine Wg ap (fU .zero) fun w5 cK hg => ?_
  have hw:=hw.own cQ hg;refine Wz ?_;exact ae.fp rfl rfl rfl rfl cK rfl ⟨_,rfl,hw,_,.bad hq,rc.zero 8 _ _⟩
 ·simp only [if_true] at c1;have hz:=fD.1 hq;obtain ⟨o1,o2,o3,o4,o5⟩:=hz.ok;by_cases ho : 0<=o∧o<=4
  ·by_cases zO:lf t
   ·have He:=zO;unfold lf at He;repeat' (first|refine Wz ?_|(refine Wk (c1 _ hw) ?_;intro v w1 ah hv;subst hv;obtain ⟨hw,ao,ap⟩:=cd ah hw ao ap;clear ah))
    refine Wk (tp r z _ (hr.ext hw) (by omega) ht) fun v w4 kN hv => ?_
    obtain ⟨s,rfl,hs,e1,e2⟩:=hv;have hs:=hs.low hw.size;(obtain ⟨hw,ao,ap⟩:=cd kN hw ao ap);clear c1;skip;refine Wg ao (fU s) fun w5 ef hg => ?_
    have hG:=ao.gr hg;have hw:=hw.own cg hg;have hX:=hs.free.aJ hG rfl;have hT:=hs.types.aJ hG rfl;have ap:=ap.grown hg (by simpa using pi.symm);have ao:=ef;have es:s.ai.n=z.ai.length:=by rw [e1,O8]
    have sF:=hs.from_;have sT:=hs.pJ;clear ef hg hG hs;have cL:∀ p u w',Sl w' 3 aO s.ai.A s.ai.n z.ai->bI prog 164 [.agg (dq s).toArray,.int .i64 p,.int .i64 u] w' fun v _=>v = .int .i64 (idxOf (sE p u) z.ai):=fun p u w' h=>Hs s z.ai p u w' h (by omega)
    refine Wz ?_
    obtain ⟨K,hK⟩ : ∃ K:Env->World->Prop,K=fun L' w' => ∃ i:Int,iM L' [(1,.int .i64 o),(2,.int .i64 t),(3,.pointer (some ⟨b3,0,none⟩)),(6,.pointer (some ⟨b6,0,none⟩)),(10,.int .i64 i)]∧Ext w w'∧aR w' b3 113 (dq s)∧aR w' b6 113 (dq .zero) ∧
     Own w' w.heap.size 143 3 aO s.ai.A s.ai.n s.ai.c z.ai∧Own w' w.heap.size 3 1 bt s.Types.A s.Types.n s.Types.c z.Types∧((i = -1 ∧ ∀ m,m<5->ly z.ai o t m=false) ∨ ∃ k:Nat,i=(k:Int)∧lM z.ai o t (some (k,false))):=⟨_,rfl⟩
    refine CW.J5 K ?_ ?_
    ·refine CW.loop (fun u:Nat×Int=>[(1,.int .i64 o),(2,.int .i64 t),(3,.pointer (some ⟨b3,0,none⟩)),(6,.pointer (some ⟨b6,0,none⟩)),(10,.int .i64 u.2),(11,.int .i64 (o+(u.1:Int)))])
      (fun u w'=>Ext w w'∧aR w' b3 113 (dq s)∧aR w' b6 113 (dq .zero)∧Own w' w.heap.size 143 3 aO s.ai.A s.ai.n s.ai.c z.ai∧Own w' w.heap.size 3 1 bt s.Types.A s.Types.n s.Types.c z.Types ∧
        ((u.2 = -1∧(u.1:Int)<=5-o ∧ ∀ m,m<u.1->ly z.ai o t m=false) ∨ ∃ k:Nat,u.2=(k:Int)∧lM z.ai o t (some (k,false)))) (fun u=>if u.2<0 then 7-u.1 else 0) (0,-1)
      ⟨rfl,rfl,rfl,rfl,rfl,congrArg (fun z=>some (Value.int .i64 z)) (by simp),trivial⟩ ⟨hw,ao,ap,hX,hT,.inl ⟨rfl,by simp only;omega,fun m h=>by simp only at h;omega⟩⟩ ?_
     clear hw ao ap hX hT;rintro ⟨j,i⟩ w' ⟨hw,ao,ap,hX,hT,hI⟩
     simp only at hI ⊢;rcases hI with ⟨rfl,hj,hI⟩|⟨k,rfl,hP⟩
     ·by_cases hp:o+(j:Int)<=4
      ·have RQ:j<5:=by omega
       have EJ:=ME (l:=z.ai) (o:=o) (t:=t) RQ hp;cases iU:z.ai.any (sE (o+(j:Int)) t)
       ·have c2:=cL (o+(j:Int)) t;rw [zT iU] at c2;repeat' (first|refine Wz ?_|(refine Wk (c2 _ hX.sl) ?_;intro v w1 ah hv;subst hv;obtain ⟨hw,ao,ap,hX,hT⟩:=fH ah hw ao ap hX hT;clear ah))
        refine ae.again (j+1,-1) ⟨rfl,rfl,rfl,rfl,rfl,congrArg (fun z=>some (Value.int .i64 z)) (by simp only;omega),trivial⟩ (by simp only;(repeat' split)<;>omega) ⟨hw,ao,ap,hX,hT,.inl ⟨rfl,by simp only;omega,fun m h => ?_⟩⟩;simp only at h;by_cases e:m=j
        ·subst e;rw [EJ,iU]
        ·exact hI m (by omega)
       ·obtain ⟨k,hk,T8,Cr,oe⟩:=DS iU;have c2:=cL (o+(j:Int)) t;rw [oe] at c2;repeat' (first|refine Wz ?_|(refine Wk (c2 _ hX.sl) ?_;intro v w1 ah hv;subst hv;obtain ⟨hw,ao,ap,hX,hT⟩:=fH ah hw ao ap hX hT;clear ah))
        have hP:lM z.ai o t (some (k,false)):=by
         have:=lM.hit (l:=z.ai) (o:=o) (t:=t) (n:=j) (k:=k) (by omega) (by rw [EJ,iU]) hI hk (by rw [yS RQ,Hl RQ];exact T8) (by rw [yS RQ,Hl RQ];exact Cr)
         rwa [decide_eq_false (by omega)] at this
        exact ae.again (j+1,(k:Int)) ⟨rfl,rfl,rfl,rfl,rfl,congrArg (fun z=>some (Value.int .i64 z)) (by simp only;omega),trivial⟩ (by simp only;(repeat' split)<;>omega) ⟨hw,ao,ap,hX,hT,.inr ⟨k,rfl,hP⟩⟩
      ·refine Wz ?_
       have W4:∀ m,m<5->ly z.ai o t m=false:=fun m hm=>by
        by_cases e:m<j
        ·exact hI m e
        ·exact E7 (by rw [yS hm];omega)
       exact ae.mD (K:=K) (by rw [hK];exact ⟨-1,⟨rfl,rfl,rfl,rfl,rfl,trivial⟩,hw,ao,ap,hX,hT,.inl ⟨rfl,W4⟩⟩)
     ·refine Wz ?_;exact ae.mD (K:=K) (by rw [hK];exact ⟨(k:Int),⟨rfl,rfl,rfl,rfl,rfl,trivial⟩,hw,ao,ap,hX,hT,.inr ⟨k,rfl,hP⟩⟩)
    ·clear hw ao ap hX hT;subst hK;rintro L' w' ⟨i0,jc,hw,ao,ap,hX,hT,QB⟩
     refine ae.sub jc ?_;clear jc;obtain ⟨kt,Zd⟩ : ∃ kt:Nat,t=(kt:Int):=⟨t.toNat,by omega⟩;have T9:kt<3:=by omega
     have fP:=hO.row kt T9;rw [<- Zd] at fP;refine Wz ?_
     obtain ⟨K,hK⟩ : ∃ K:Env->World->Prop,K=fun L' w' => ∃ (i:Int) (F:List Block) (T:List Int),iM L' [(1,.int .i64 o),(2,.int .i64 t),(3,.pointer (some ⟨b3,0,none⟩)),(6,.pointer (some ⟨b6,0,none⟩)),(10,.int .i64 i)]∧Ext w w'∧aR w' b3 113 (dq s)∧aR w' b6 113 (dq .zero) ∧
      Own w' w.heap.size 143 3 aO s.ai.A s.ai.n s.ai.c F∧Own w' w.heap.size 3 1 bt s.Types.A s.Types.n s.Types.c T∧((i = -1 ∧ ∀ m,m<15->ly z.ai o t m=false) ∨ ∃ (k:Nat) (st:Bool) (hk:k<z.ai.length),i=(k:Int)∧lM z.ai o t (some (k,st))∧F=kB z z.ai[k] t st∧T=if st=true then k6 z z.ai[k] t else z.Types):=⟨_,rfl⟩
     refine CW.J5 K ?_ ?_
     ·refine CW.loop (fun u:Nat×Int×List Block×List Int=>[(1,.int .i64 o),(2,.int .i64 t),(3,.pointer (some ⟨b3,0,none⟩)),(6,.pointer (some ⟨b6,0,none⟩)),(10,.int .i64 u.2.1),(12,.int .i64 (4-(u.1:Int)))])
       (fun u w'=>Ext w w'∧aR w' b3 113 (dq s)∧aR w' b6 113 (dq .zero)∧Own w' w.heap.size 143 3 aO s.ai.A s.ai.n s.ai.c u.2.2.1∧Own w' w.heap.size 3 1 bt s.Types.A s.Types.n s.Types.c u.2.2.2 ∧
         ((u.2.1 = -1∧(u.1:Int)<=5-o∧(∀ m,m<5+2*u.1->ly z.ai o t m=false)∧u.2.2.1=z.ai∧u.2.2.2=z.Types) ∨ ∃ (k:Nat) (st:Bool) (hk:k<z.ai.length),u.2.1=(k:Int)∧lM z.ai o t (some (k,st))∧u.2.2.1=kB z z.ai[k] t st∧u.2.2.2=if st=true then k6 z z.ai[k] t else z.Types)) (fun u=>if u.2.1<0 then 7-u.1 else 0) (0,i0,z.ai,z.Types)
       ⟨rfl,rfl,rfl,rfl,rfl,rfl,trivial⟩ ⟨hw,ao,ap,hX,hT,?_⟩ ?_
      ·rcases QB with ⟨rfl,QB⟩|⟨k,rfl,hP⟩
       ·exact .inl ⟨rfl,by simp only;omega,fun m h=>QB m (by simp only at h;omega),rfl,rfl⟩
       ·obtain ⟨hk,_⟩:=hP.ord;exact .inr ⟨k,false,hk,rfl,hP,rfl,rfl⟩
      clear hw ao ap hX hT QB;rintro ⟨j,i,F,T⟩ w' ⟨hw,ao,ap,hX,hT,hI⟩
      simp only at hX hT hI ⊢;rcases hI with ⟨rfl,hj,hI,rfl,rfl⟩|⟨k,st,hk,rfl,hP,hF,VV⟩
      ·by_cases hp:o<=4-(j:Int)
       ·have W5:=MF (l:=z.ai) (t:=t) hp;have Ua:=MG (l:=z.ai) (t:=t) hp;repeat' (first|refine Wz ?_|refine Wo hw fP ?_|(refine SW.st (sD kt rfl rfl Zd T9) rfl ?_))
        refine CW.loop (fun v:Nat=>[(1,.int .i64 o),(2,.int .i64 t),(3,.pointer (some ⟨b3,0,none⟩)),(6,.pointer (some ⟨b6,0,none⟩)),(10,.int .i64 (-1)),(12,.int .i64 (4-(j:Int))),(65,.agg [Value.int .i64 (BU t),Value.int .i64 (BV t)].toArray),(66,.int .i64 (v:Int))])
         (fun v w'=>v<=2∧Ext w w'∧aR w' b3 113 (dq s)∧aR w' b6 113 (dq .zero)∧Own w' w.heap.size 143 3 aO s.ai.A s.ai.n s.ai.c z.ai∧Own w' w.heap.size 3 1 bt s.Types.A s.Types.n s.Types.c z.Types ∧ ∀ m,m<5+2*j+v->ly z.ai o t m=false)
         (fun v=>2-v) 0 ⟨rfl,rfl,rfl,rfl,rfl,rfl,rfl,rfl,trivial⟩ ⟨by omega,hw,ao,ap,hX,hT,hI⟩ ?_
        clear hw ao ap hX hT hI;rintro v w' ⟨W6,hw,ao,ap,hX,hT,hI⟩
        rcases (show v=0∨v=1∨v=2 by omega) with rfl|rfl|rfl
        ·cases iU:z.ai.any (sE (4-(j:Int)) (BU t))
         ·have c2:=cL (4-(j:Int)) (BU t);rw [zT iU] at c2;repeat' (first|refine Wz ?_|(refine Wk (c2 _ hX.sl) ?_;intro v w1 ah hv;subst hv;obtain ⟨hw,ao,ap,hX,hT⟩:=fH ah hw ao ap hX hT;clear ah)|(refine SW.st (rb 0 rfl rfl rfl (by decide) rfl) rfl ?_))
          refine ae.again (0+1) ⟨rfl,rfl,rfl,rfl,rfl,rfl,rfl,rfl,trivial⟩ (by omega) ⟨by omega,hw,ao,ap,hX,hT,fun m h => ?_⟩;by_cases e:m=5+2*j+0
          ·subst e;exact W5.trans iU
          ·exact hI m (by omega)
         ·obtain ⟨k,hk,T8,Cr,oe⟩:=DS iU;have c2:=cL (4-(j:Int)) (BU t);rw [oe] at c2;repeat' (first|refine Wz ?_|(refine Wk (c2 _ hX.sl) ?_;intro v w1 ah hv;subst hv;obtain ⟨hw,ao,ap,hX,hT⟩:=fH ah hw ao ap hX hT;clear ah)|(refine SW.st (rb 0 rfl rfl rfl (by decide) rfl) rfl ?_))
          refine SW.dK rfl rfl (Cw s z k t w _ hw hX hT sF hz hk (by omega)) fun v w5 hv => ?_
          obtain ⟨hw,Ub,hX,hT⟩:=hv;have ao:=Ub.out _ _ ao;have ap:=Ub.out _ _ ap
          have hP:lM z.ai o t (some (k,true)):=by
           have:=lM.hit (l:=z.ai) (o:=o) (t:=t) (n:=5+2*j+0) (k:=k) (by omega) (W5.trans iU) hI hk (by have e1:=DQ (o:=o) (j:=j);have e2:=Hm (t:=t) (j:=j);(try simp only [Nat.add_zero] at *);rw [e1,e2];exact T8) (by have e1:=DQ (o:=o) (j:=j);have e2:=Hm (t:=t) (j:=j);(try simp only [Nat.add_zero] at *);rw [e1,e2];exact Cr)
           rwa [decide_eq_true (by omega)] at this
          refine Wz ?_;exact ae.again (j+1,(k:Int),kd z.ai z.ai[k] t,k6 z z.ai[k] t) ⟨rfl,rfl,rfl,rfl,rfl,congrArg (fun z=>some (Value.int .i64 z)) (by simp only;omega),trivial⟩ (by simp only;(repeat' split)<;>omega) ⟨hw,ao,ap,hX,hT,.inr ⟨k,true,hk,rfl,hP,rfl,rfl⟩⟩
        ·cases iU:z.ai.any (sE (4-(j:Int)) (BV t))
         ·have c2:=cL (4-(j:Int)) (BV t);rw [zT iU] at c2;repeat' (first|refine Wz ?_|(refine Wk (c2 _ hX.sl) ?_;intro v w1 ah hv;subst hv;obtain ⟨hw,ao,ap,hX,hT⟩:=fH ah hw ao ap hX hT;clear ah)|(refine SW.st (rb 1 rfl rfl rfl (by decide) rfl) rfl ?_))
          refine ae.again (1+1) ⟨rfl,rfl,rfl,rfl,rfl,rfl,rfl,rfl,trivial⟩ (by omega) ⟨by omega,hw,ao,ap,hX,hT,fun m h => ?_⟩;by_cases e:m=5+2*j+1
          ·subst e;exact Ua.trans iU
          ·exact hI m (by omega)
         ·obtain ⟨k,hk,T8,Cr,oe⟩:=DS iU;have c2:=cL (4-(j:Int)) (BV t);rw [oe] at c2;repeat' (first|refine Wz ?_|(refine Wk (c2 _ hX.sl) ?_;intro v w1 ah hv;subst hv;obtain ⟨hw,ao,ap,hX,hT⟩:=fH ah hw ao ap hX hT;clear ah)|(refine SW.st (rb 1 rfl rfl rfl (by decide) rfl) rfl ?_))
          refine SW.dK rfl rfl (Cw s z k t w _ hw hX hT sF hz hk (by omega)) fun v w5 hv => ?_
          obtain ⟨hw,Ub,hX,hT⟩:=hv;have ao:=Ub.out _ _ ao;have ap:=Ub.out _ _ ap
          have hP:lM z.ai o t (some (k,true)):=by
           have:=lM.hit (l:=z.ai) (o:=o) (t:=t) (n:=5+2*j+1) (k:=k) (by omega) (Ua.trans iU) hI hk (by have e1:=DR (o:=o) (j:=j);have e2:=Hn (t:=t) (j:=j);(try simp only [Nat.add_zero] at *);rw [e1,e2];exact T8) (by have e1:=DR (o:=o) (j:=j);have e2:=Hn (t:=t) (j:=j);(try simp only [Nat.add_zero] at *);rw [e1,e2];exact Cr)
           rwa [decide_eq_true (by omega)] at this
          refine Wz ?_;exact ae.again (j+1,(k:Int),kd z.ai z.ai[k] t,k6 z z.ai[k] t) ⟨rfl,rfl,rfl,rfl,rfl,congrArg (fun z=>some (Value.int .i64 z)) (by simp only;omega),trivial⟩ (by simp only;(repeat' split)<;>omega) ⟨hw,ao,ap,hX,hT,.inr ⟨k,true,hk,rfl,hP,rfl,rfl⟩⟩
        ·refine Wz ?_;exact ae.again (j+1,-1,z.ai,z.Types) ⟨rfl,rfl,rfl,rfl,rfl,congrArg (fun z=>some (Value.int .i64 z)) (by simp only;omega),trivial⟩ (by simp only;(repeat' split)<;>omega) ⟨hw,ao,ap,hX,hT,.inl ⟨rfl,by simp only;omega,fun m h=>hI m (by simp only at h;omega),rfl,rfl⟩⟩
       ·refine Wz ?_
        have W4:∀ m,m<15->ly z.ai o t m=false:=fun m hm=>by
         by_cases e:m<5+2*j
         ·exact hI m e
         ·exact MH (j:=j) (by omega) (by omega)
        exact ae.mD (K:=K) (by rw [hK];exact ⟨-1,z.ai,z.Types,⟨rfl,rfl,rfl,rfl,rfl,trivial⟩,hw,ao,ap,hX,hT,.inl ⟨rfl,W4⟩⟩)
      ·refine Wz ?_;exact ae.mD (K:=K) (by rw [hK];exact ⟨(k:Int),F,T,⟨rfl,rfl,rfl,rfl,rfl,trivial⟩,hw,ao,ap,hX,hT,.inr ⟨k,st,hk,rfl,hP,hF,VV⟩⟩)
     ·clear hw ao ap hX hT QB;subst hK;rintro L' w' ⟨i,F,T,jc,hw,ao,ap,hX,hT,hI⟩
      refine ae.sub jc ?_;clear jc cL;rcases hI with ⟨rfl,hI⟩|⟨k,st,hk,rfl,hP,rfl,VV⟩
      ·refine Wz ?_;refine Wg ap (fU .zero) fun w5 cK hg => ?_
       have hw:=hw.own cQ hg;refine Wz ?_;exact ae.fp rfl rfl rfl rfl cK rfl ⟨_,rfl,hw,_,.room hq ho zO (.Pe hI),rc.zero 6 _ _⟩
      ·obtain ⟨_,W7,Ze⟩:=hP.ord;obtain ⟨l1,l2,l3⟩:=vw hz (b:=z.ai[k]) zO st;have Uc:k<(kB z z.ai[k] t st).length:=by omega
       have QC:(kB z z.ai[k] t st)[k]=⟨z.ai[k].At,z.ai[k].Order,yn z t st z.ai[k]⟩:=wH hz zO st hk
       obtain ⟨⟨f1,f2,f3,f4,f5⟩,f6⟩:=hz.eV k hk;have mm:iD z o t (uF z o t z.ai[k] k st,z.ai[k].At,0) := .ok hq ho zO hk hP
       have hJ:=Ct l2 l3 Uc;rw [QC] at hJ;have Hv:=kO hz;have Tq:lf (yn z t st z.ai[k]):=by unfold yn;split<;>assumption
       obtain ⟨ty,W8⟩ : ∃ ty,yn z t st z.ai[k]=ty:=⟨_,rfl⟩
       have Zf:uF z o t z.ai[k] k st=⟨z.aT,z.To,mF ty z.ai[k].At (z.ai[k].Order-o).toNat z.ai[k].Order ((kB z z.ai[k] t st).eraseIdx k),T⟩:=by
        rw [VV,<- W8];rfl
       rw [Zf] at mm;rw [W8] at QC Tq;clear Zf W8 VV hP;obtain ⟨F,hF⟩ : ∃ F,kB z z.ai[k] t st=F:=⟨_,rfl⟩;simp only [hF] at hX l1 Uc QC hJ mm;clear l2 l3;obtain ⟨x,hx⟩ : ∃ x,z.ai[k]=x:=⟨_,rfl⟩;simp only [hx] at QC hJ mm f1 f2 f3 f4 f5 W7 Ze;clear f6;have gC:k<s.ai.n:=by omega
       have hA:=hX.sl.base;have fc:=hX.sl.all gC;simp only [QC] at fc;repeat' (first|refine Wz ?_|refine Wm fc ?_)
       refine SW.alloc rfl fun Fa w3 nL Ud dS => ?_
       have Ue:=hw.up Ud
       have Jf:aG s.ai.A s.ai.c≠some Fa:=fun e=>by have:=hX.lt_size _ e;omega
       (obtain ⟨hw,ao,ap,hX,hT⟩:=fH nL hw ao ap hX hT);clear fc;skip;refine Wg dS (iK.one (enc:=aO) ⟨x.At,x.Order,ty⟩) fun w5 pn hg => ?_
       have hG:=dS.gr hg;have hw:=hw.own Ue hg;have hX:=hX.grown hg (.inr Jf);(obtain ⟨ao,ap,hT⟩:=cd hG ao ap hT);have dS:aR w5 Fa 143 [.int .i64 x.At,.int .i64 x.Order,.int .i64 ty]:=pn;clear pn hg hG Ud;refine Wz ?_;refine SW.dK rfl rfl (nv s.ai.A s.ai.n s.ai.c w.heap.size F _ hX k gC (by omega) hw.size) fun v w6 hv => ?_
       obtain ⟨rfl,DO,hg⟩:=hv;have hG:=hX.gr hg;have hw:=aD hw hg (aew _) hX.aW;have dS:=dS.grown hg (fun e=>Jf e.symm);(obtain ⟨ao,ap,hT⟩:=cd hG ao ap hT);clear hg hG;have BQ:s.ai.n-1=(F.eraseIdx k).length:=by rw [afN Uc];omega
       rw [BQ] at DO;rw [BQ];refine Wz ?_;refine Wb (i:=2) ao fun w7 ef hg => ?_
       have hG:=ao.gr hg;have hw:=hw.own cg hg;have ap:=ap.grown hg (by simpa using pi.symm);(obtain ⟨dS,DO,hT⟩:=cd hG dS DO hT);have ao:aR w7 b3 113 [.int .i64 s.aT,.int .i64 s.To,.slice s.ai.A (F.eraseIdx k).length s.ai.c,.slice s.Types.A s.Types.n s.Types.c]:=ef;clear ef hg hG hX;refine Wz ?_;obtain ⟨Tz,Uf⟩ : ∃ Tz,mF ty x.At (x.Order-o).toNat x.Order (F.eraseIdx k)=Tz:=⟨_,rfl⟩;rw [Uf] at mm
       refine CW.loop (fun u:Int×List Block×Option Addr×Nat=>[(1,.int .i64 o),(3,.pointer (some ⟨b3,0,none⟩)),(6,.pointer (some ⟨b6,0,none⟩)),(15,.pointer (some ⟨Fa,0,none⟩))])
        (fun u w'=>Ext w w'∧aR w' b3 113 [.int .i64 s.aT,.int .i64 s.To,.slice u.2.2.1 u.2.1.length u.2.2.2,.slice s.Types.A s.Types.n s.Types.c]∧aR w' b6 113 (dq .zero)∧aR w' Fa 143 [.int .i64 x.At,.int .i64 u.1,.int .i64 ty] ∧
          Own w' w.heap.size 143 3 aO u.2.2.1 u.2.1.length u.2.2.2 u.2.1∧Own w' w.heap.size 3 1 bt s.Types.A s.Types.n s.Types.c T∧EY z.aT z.To u.2.1 x.At u.1∧o<=u.1∧mF ty x.At (u.1-o).toNat u.1 u.2.1=Tz∧(u.2.1.length:Int)+u.1<=300∧aG u.2.2.1 u.2.2.2≠some Fa) (fun u=>(u.1-o).toNat) (x.Order,F.eraseIdx k,s.ai.A,s.ai.c)
        ⟨rfl,rfl,rfl,rfl,trivial⟩ ⟨hw,ao,ap,dS,DO,hT,hJ,W7,Uf,by simp only;omega,Jf⟩ ?_
       clear hw ao ap dS DO hT hJ BQ QC Jf;rintro ⟨q,l,A,c⟩ w' ⟨hw,ao,ap,dS,hX,hT,hJ,hqo,zG,hlen,bG⟩
       simp only at ao dS hX hJ hqo zG hlen bG ⊢;by_cases hqq:o<q
       ·obtain ⟨k1,k2,k3,k4,k5⟩:=hJ.fit;obtain ⟨xJ,aaV⟩:=E9 hJ o1 o3 o5 (by omega) Tq;rw [show (q-o).toNat=(q-1-o).toNat+1 by omega,mF] at zG;have VT:=cM (o:=q-1) (by omega) (by omega);have cE:∀ w',bI prog 128 [.agg (aO ⟨x.At,q-1,ty⟩).toArray] w' fun v _=>v = .int .i64 (x.At+pw (q-1)):=fun w'=>p9 ⟨x.At,q-1,ty⟩ w' ⟨by simp only;omega,by simp only;omega⟩ ⟨by simp only;omega,by simp only;omega⟩
        have cF:∀ w',Sl w' 3 aO A l.length l->bI prog 130 [.agg (dq ⟨s.aT,s.To,⟨A,l.length,c⟩,s.Types⟩).toArray,.int .i64 (x.At+pw (q-1))] w' fun v _=>v = .tuple #[.int .i64 (bE l (x.At+pw (q-1)) : Int),.bool (bM l (x.At+pw (q-1)))]:=fun w' h =>
         wD ⟨s.aT,s.To,⟨A,l.length,c⟩,s.Types⟩ l z.aT z.To (x.At+pw (q-1)) w' h hJ.sw hJ.eV o1 (by omega) (by simp only;omega) ⟨by omega,by omega⟩
        have BI:=I9 l (x.At+pw (q-1));have Zg:=Kd ty x.At q l;refine Wz ?_;refine Wb (i:=1) dS fun w5 pn hg => ?_
        have hG:=dS.gr hg;have hw:=hw.own Ue hg;have hX:=hX.grown hg (.inr bG);(obtain ⟨ao,ap,hT⟩:=cd hG ao ap hT);have dS:aR w5 Fa 143 [.int .i64 x.At,.int .i64 (q-1),.int .i64 ty]:=pn;clear pn hg hG;refine Wz ?_
        focus
         refine CW.any 8 mixed (db (by kernel_rfl)) rfl fun w1 ah aI => ?_
         obtain ⟨hw,ao,ap,dS,hX,hT⟩:=jh ah hw ao ap dS hX hT;clear ah;refine Wa ?_;refine SA.two 1 7 rfl rfl (by kernel_rfl) rfl rfl ?_ ?_
         focus
          refine Wk (cE _) fun v w4 ar hv => ?_
          subst hv;(obtain ⟨hw,ao,ap,dS,hX,hT⟩:=jh ar hw ao ap dS hX hT);try have BW:=BW.ext ar
          refine SW.nil (ae.sa ar ?_);refine Wa ?_;refine SA.bZ 7 ?_;refine SW.alloc rfl fun Ug w4 ar RR BW => ?_
          have Uh:=hw.up RR
          have Ui:aG A c≠some Ug:=fun e=>by have:=hX.lt_size _ e;omega
          have Uj:Fa≠Ug:=by have:=dS.lt;omega
          (obtain ⟨hw,ao,ap,dS,hX,hT⟩:=jh ar hw ao ap dS hX hT);refine SW.nil (ae.sa ar ?_)
         rotate_left
         focus
          refine SW.alloc rfl fun Ug w4 ar RR BW => ?_
          have Uh:=hw.up RR
          have Ui:aG A c≠some Ug:=fun e=>by have:=hX.lt_size _ e;omega
          have Uj:Fa≠Ug:=by have:=dS.lt;omega
          (obtain ⟨hw,ao,ap,dS,hX,hT⟩:=jh ar hw ao ap dS hX hT);refine SW.nil (ae.sa ar ?_);refine SA.bZ 1 ?_;refine Wk (cE _) fun v w4 ar hv => ?_
          subst hv;(obtain ⟨hw,ao,ap,dS,hX,hT⟩:=jh ar hw ao ap dS hX hT);try have BW:=BW.ext ar
          refine SW.nil (ae.sa ar ?_);refine Wa ?_
         rotate_left
         all_goals
          refine SA.fZ ?_;skip;refine Wg BW (iK.one (enc:=aO) ⟨x.At+pw (q-1),q-1,ty⟩) fun w5 QD hg => ?_
          have hG:=BW.gr hg;have hw:=hw.own Uh hg;have hX:=hX.grown hg (.inr Ui);have dS:=dS.grown hg (by simpa using Uj);(obtain ⟨ao,ap,hT⟩:=cd hG ao ap hT);have BW:=QD;clear QD hg hG cE;repeat' (first|refine Wz ?_|(refine Wk (cF _ hX.sl) ?_;intro v w1 ah hv;subst hv;obtain ⟨hw,ao,ap,dS,BW,hX,hT⟩:=ue ah hw ao ap dS BW hX hT;clear ah))
          refine SW.dR rfl rfl rfl rfl rfl fun b w6 ar hb hB => ?_
          have wJ:aG A c≠some b:=fun e=>by have:=hX.lt_size _ e;omega
          (obtain ⟨hw,ao,ap,dS,hX,hT⟩:=jh ar hw ao ap dS hX hT);skip;refine SW.dK rfl rfl (kY A l.length c w.heap.size l _ hX (bE l (x.At+pw (q-1))) BI (oA ty x.At q) b hB wJ (by omega) hw.size) fun v w7 hv => ?_
          obtain ⟨A2,c2,rfl,bg,hg⟩:=hv;have hG:=hX.gr hg;have hw:=aD hw hg (aew _) hX.aW;have dS:=dS.grown hg (fun e=>bG e.symm);(obtain ⟨ao,ap,hT⟩:=cd hG ao ap hT);clear hg hG hX
          have Pk:aG A2 c2≠some Fa:=bg.RP (x:=⟨x.At,q-1,ty⟩) dS (by omega) fun y hy e=>by
           have g1:=(xJ.eV y hy).1;have g2:=cM g1.1 g1.2.1;simp only at e;rcases xJ.ON y hy with g|g<;>omega
          rw [<- Zg] at bg;rw [<- Zg];refine Wz ?_;refine Wb (i:=2) ao fun w8 ef hg => ?_
          have hG:=ao.gr hg;have hw:=hw.own cg hg;have ap:=ap.grown hg (by simpa using pi.symm);(obtain ⟨dS,bg,hT⟩:=cd hG dS bg hT);refine Wz ?_;exact ae.again (q-1,ug ty x.At q l,A2,c2) ⟨rfl,rfl,rfl,rfl,trivial⟩ (by simp only;omega) ⟨hw,ef,ap,dS,bg,hT,xJ,by simp only;omega,zG,by simp only;omega,Pk⟩
       ·obtain rfl:o=q:=by omega
        have QE:l=Tz:=by
         rw [<- zG,show (o-o).toNat=0 by omega];rfl
        rw [QE] at hX;rw [QE] at ao;refine Wz ?_;refine CW.gB 3 5 (fun w2=>aR w2 Fa 143 [.int .i64 x.At,.int .i64 o,.int .i64 ty]) mixed (by kernel_rfl) fun w1 ah aI => ?_
        obtain ⟨hw,ao,ap,dS,hX,hT⟩:=jh ah hw ao ap dS hX hT;clear ah;refine Wf ?_;refine Wi 1 [] aI rfl (az rfl) (fun w2 hS=>az rfl) ?_;refine SF.jl 2 [] aI rfl (by kernel_rfl) (by kernel_rfl) (by kernel_rfl) (aP rfl (dS.cell (i:=0) (v := .int .i64 x.At) rfl)) (fun w2 hS=>aP rfl (hS.cell (i:=0) (v := .int .i64 x.At) rfl)) rfl ?_;refine SF.iA ?_;refine Wg ap (fU ⟨s.aT,s.To,⟨A,Tz.length,c⟩,s.Types⟩) fun w5 cK hg => ?_
        have hG:=ap.gr hg;have hS:=dS.aJ hG rfl;have hw:=hw.own cQ hg;(obtain ⟨hX,hT⟩:=cT hG hX hT);refine SW.nil (ae.sg hS ?_);refine SG.bZ 4 ?_;repeat (refine SW.pure rfl rfl ?_)
        refine SW.nil (ae.sg hS ?_);refine SG.ff ?_;refine Wz ?_;exact ae.fp rfl rfl rfl rfl cK rfl ⟨_,rfl,hw,_,mm,⟨s.aT,s.To,⟨A,Tz.length,c⟩,s.Types⟩,rfl,⟨sF,sT,hX,hT⟩⟩
   ·have He:=zO;unfold lf at He;rcases (show t<0∨(0<=t∧2<t) by omega) with g|g
    all_goals
     repeat' (first|refine Wz ?_|(refine Wk (c1 _ hw) ?_;intro v w1 ah hv;subst hv;obtain ⟨hw,ao,ap⟩:=cd ah hw ao ap;clear ah))
     refine Wg ap (fU .zero) fun w5 cK hg => ?_
     have hw:=hw.own cQ hg;refine Wz ?_;exact ae.fp rfl rfl rfl rfl cK rfl ⟨_,rfl,hw,_,.kind hq ho zO,rc.zero 2 _ _⟩
  ·rcases (show o<0∨(0<=o∧4<o) by omega) with g|g
   all_goals
    repeat' (first|refine Wz ?_|(refine Wk (c1 _ hw) ?_;intro v w1 ah hv;subst hv;obtain ⟨hw,ao,ap⟩:=cd ah hw ao ap;clear ah))
    refine Wg ap (fU .zero) fun w5 cK hg => ?_
    have hw:=hw.own cQ hg;refine Wz ?_;exact ae.fp rfl rfl rfl rfl cK rfl ⟨_,rfl,hw,_,.range hq ho,rc.zero 1 _ _⟩
variable {held:Bool} {cs:List Value} {fuel:Nat} {spare:Nat->Bool} {W:World}
def DT : prog.globalNamed "paddock/buddy.others" = some 1 := by kernel_rfl
def Fb:(prog.globals[1]?).map (·.type)=some 236:=by kernel_rfl
set_option maxRecDepth 100000 in
def DU {p:List MemPlace} {enc:TypeId×Value->Unit} {base:Nat} (h:DataW.trod enc prog W base spare held fuel 236 cs=some (Rows.laid_paddock_buddy_others,p)) :
 cs=[.int .i64 2,.int .i64 1,.int .i64 2,.int .i64 0,.int .i64 0,.int .i64 1]:=by
 have c2:prog.cellsOf 235=2:=by kernel_rfl
 have c6:prog.cellsOf 236=6:=by kernel_rfl
 have c1:prog.cellsOf 3=1:=by kernel_rfl
 obtain ⟨xs,m,rfl,hx,hlen,hn,GX⟩:=DataW.trod_array Tryz.underlying236 h;rw [c6] at hlen;rw [c2] at GX;simp only [Prod.mk.injEq] at hx
 have pair:∀ (a b:Value) (u v:Int) (x:DataW Unit×List MemPlace),DataW.trod enc prog W base spare held m 235 [a,b]=some x->x.1 = .agg [.lit (.int .i64 u),.lit (.int .i64 v)]->a = .int .i64 u∧b = .int .i64 v:=by
  intro a b u v x hx e;obtain ⟨ys,k,rfl,rfl,_,hk,he⟩:=DataW.trod_array Tryz.underlying235 hx;rw [c1] at he
  match ys,hk with
  | [y0,y1],_ =>
    have h0:=he 0 (by decide);have h1:=he 1 (by decide);obtain ⟨z0,e0,f0,_⟩:=DataW.trod_int Tryz.underlying3 (show DataW.trod enc prog W base spare held k 3 [a]=some y0 from h0);obtain ⟨z1,e1,f1,_⟩:=DataW.trod_int Tryz.underlying3 (show DataW.trod enc prog W base spare held k 3 [b]=some y1 from h1);rw [f0,f1] at e;simp at e e0 e1;rw [e0,e1,e.1,e.2];exact ⟨rfl,rfl⟩
 match cs,hlen,xs,hn with
 | [a,b,c,d,e,f],_,[x0,x1,x2],_ =>
   have h0:=GX 0 (by decide);have h1:=GX 1 (by decide);have h2:=GX 2 (by decide);have lj:=hx.1;simp only [Rows.laid_paddock_buddy_others,List.map_cons,List.map_nil,DataW.agg.injEq,List.cons.injEq,and_true] at lj;obtain ⟨rfl,rfl⟩:=pair a b 2 1 x0 h0 lj.1.symm;obtain ⟨rfl,rfl⟩:=pair c d 2 0 x1 h1 lj.2.1.symm;obtain ⟨rfl,rfl⟩:=pair e f 0 1 x2 h2 lj.2.2.symm
   rfl
variable {d:Nat} {dst src ty:TypeId}
def ew (a b:ByteArray) : Bool:=Op.bytesLess a.toList b.toList
def bytes_irrefl:∀ x:List UInt8,Op.bytesLess x x=false
 | []=>rfl
 | a::x=>by simp [Op.bytesLess,bytes_irrefl x]
def Cy:∀ x y:List UInt8,Op.bytesLess x y=(!(Op.bytesLess y x || decide (x=y)))
 | [],[]=>by simp [Op.bytesLess]
 | [],_::_=>by simp [Op.bytesLess]
 | _::_,[]=>by simp [Op.bytesLess]
 | a::x,b::y=>by
   have ih:=Cy x y;simp only [Op.bytesLess,List.cons.injEq];rcases ae6 a.toNat b.toNat with h|h|h
   ·have h1:a<b:=h
    have h2 : ¬ b<a:=fun e=>by have:b.toNat<a.toNat:=e;omega
    have h3 : ¬ a=b:=fun e=>by subst e;omega
    have h4 : ¬ b=a:=fun e=>h3 e.symm
    simp [h1,h2,h3,h4]
   ·have h3:a=b:=UInt8.toNat_inj.1 h
    subst h3;have h1 : ¬ a<a:=fun e=>by have:a.toNat<a.toNat:=e;omega
    simp [h1,ih]
   ·have h1:b<a:=h
    have h2 : ¬ a<b:=fun e=>by have:a.toNat<b.toNat:=e;omega
    have h3 : ¬ a=b:=fun e=>by subst e;omega
    have h4 : ¬ b=a:=fun e=>h3 e.symm
    simp [h1,h2,h3]
def bytes_trans:∀ x y z:List UInt8,Op.bytesLess x y=true->Op.bytesLess y z=true->Op.bytesLess x z=true
 | _,[],_,h,_=>by simp [Op.bytesLess] at h
 | _,_::_,[],_,h=>by simp [Op.bytesLess] at h
 | [],_::_,_::_,_,_=>by simp [Op.bytesLess]
 | a::x,b::y,c::z,h,k=>by
   simp only [Op.bytesLess,Bool.or_eq_true,decide_eq_true_eq,Bool.and_eq_true,beq_iff_eq] at h k ⊢;rcases h with h|⟨rfl,h⟩<;>rcases k with k|⟨rfl,k⟩
   ·have h':a.toNat<b.toNat:=h
    have k':b.toNat<c.toNat:=k
    exact .inl (show a.toNat<c.toNat by omega)
   ·exact .inl h
   ·exact .inl k
   ·exact .inr ⟨rfl,bytes_trans x y z h k⟩
def DV (a b:ByteArray) : (a.toList == b.toList)=decide (a=b):=by
 by_cases h:a=b
 ·subst h;simp
 ·have : ¬ a.toList=b.toList:=fun e=>h (by
   have e1:=congrArg (fun l:List UInt8=>ByteArray.mk l.toArray) e;simp only [ByteArray.toList_eq] at e1;cases a;cases b;simpa using e1)
  simp [h,this]
def DW (a:ByteArray) : ew a a=false:=bytes_irrefl _
def po {a b c:ByteArray} (h:ew a b=true) (k:ew b c=true) : ew a c=true:=bytes_trans _ _ _ h k
def Kh (a b:ByteArray) : ew a b = !(ew b a || decide (a=b)):=by
 unfold ew;rw [Cy];have:decide (a.toList=b.toList)=decide (a=b):=by rw [<- DV];exact (Bool.beq_eq_decide_eq _ _).symm
 rw [this]
class Fc (P:Program) (t:TypeId) : Prop where
 ot:P.underlying t=some .string
def DX (b:UInt8) : List Value:=[.int .u8 b.toNat]
section
variable {P:Program} {L:Env} {w:World} {d:Option Nat} {T:TypeId} {pos:String} {af:Array Edge} {g:Option (Nat×Bool)}
def lN {x:Operand} {a b:ByteArray} (hx:cy L x=some (.string a)) (hy:cy L y=some (.string b)) : St P ⟨d,.binOp .eql t x y ty,T,pos,af,g⟩ L w (.bool (decide (a=b))) :=
 ⟨fun _ A hA w' _=>by
  have e1:=hA.eval hx;have e2:=hA.eval hy;generalize A.eval = ρ at *
  have h1:(binOp .eql t (.string a) (.string b)).run P w' = .ok (.bool (decide (a=b))) w':=by
   have:binOp .eql t (.string a) (.string b)=Op.stringOp .eql a b:=by simp [binOp]
   rw [this,<- DV];simp [Op.stringOp,pure]
  simp [execOp,e1,e2,eqGuard,h1]⟩
def Fe {x:Operand} {a b:ByteArray} (hx:cy L x=some (.string a)) (hy:cy L y=some (.string b)) : St P ⟨d,.binOp .geq t x y ty,T,pos,af,g⟩ L w (.bool (!ew a b)) :=
 ⟨fun _ A hA w' _=>by
  have e1:=hA.eval hx;have e2:=hA.eval hy;generalize A.eval = ρ at *
  have h1:(binOp .geq t (.string a) (.string b)).run P w' = .ok (.bool (!ew a b)) w':=by
   have:binOp .geq t (.string a) (.string b)=Op.stringOp .geq a b:=by simp [binOp]
   rw [this];simp [Op.stringOp,pure,ew]
  simp [execOp,e1,e2,eqGuard,h1]⟩
def MN {x:Operand} {a b:ByteArray} (hx:cy L x=some (.string a)) (hy:cy L y=some (.string b)) : St P ⟨d,.binOp .lss t x y ty,T,pos,af,g⟩ L w (.bool (ew a b)) :=
 ⟨fun _ A hA w' _=>by
  have e1:=hA.eval hx;have e2:=hA.eval hy;generalize A.eval = ρ at *
  have h1:(binOp .lss t (.string a) (.string b)).run P w' = .ok (.bool (ew a b)) w':=by
   have:binOp .lss t (.string a) (.string b)=Op.stringOp .lss a b:=by simp [binOp]
   rw [this];simp [Op.stringOp,pure,ew]
  simp [execOp,e1,e2,eqGuard,h1]⟩
def wK {x:Operand} {a b:ByteArray} (hx:cy L x=some (.string a)) (hy:cy L y=some (.string b)) : St P ⟨d,.binOp .neq t x y ty,T,pos,af,g⟩ L w (.bool (decide (a≠b))) :=
 ⟨fun _ A hA w' _=>by
  have e1:=hA.eval hx;have e2:=hA.eval hy;generalize A.eval = ρ at *
  have h1:(binOp .neq t (.string a) (.string b)).run P w' = .ok (.bool (decide (a≠b))) w':=by
   have:binOp .neq t (.string a) (.string b)=Op.stringOp .neq a b:=by simp [binOp]
   rw [this];have e:decide (a≠b) = !(a.toList == b.toList):=by rw [DV];simp
   rw [e];simp [Op.stringOp,pure]
  simp [execOp,e1,e2,eqGuard,h1]⟩
def yT [c:Fc P t] {x:Operand} {s:ByteArray} (hx:cy L x=some (.string s)) :
 St P ⟨d,.call ⟨.builtin .len,#[x],#[t]⟩,T,pos,af,g⟩ L w (.int .i64 (s.size:Int)) :=
 ⟨fun _ a ha w' _=>by simp [execOp,resolve,invoke,builtin,ha.eval hx,Builtin.len_,run_underlying c.ot,goInt]⟩
end
section
variable {P:Program} {n:Nat} {ops:Array Oper} {Q:Exit->Act->World->Prop} {rest:List Oper} {L:Env} {w:World} {T:TypeId} {pos:String} {af:Array Edge}
def SW.Ki [S:Fc P src] [D:bu P dst e 1] (he:P.underlying e=some (.int .u8)) {x:Operand} {s:ByteArray} (hx:cy L x=some (.string s)) (hn:Nat.blt d n=true)
 (h:∀ b c w',Ext w w'->w.heap.size<=b->Sl w' 1 DX (some ⟨b,0,none⟩) s.size s.data.toList->SW P n ops (.gd Q) rest ((d,.slice (some ⟨b,0,none⟩) s.size c)::L) w') :
 SW P n ops (.gd Q) (⟨some d,.convert src dst x,T,pos,af,none⟩::rest) L w :=
 ⟨fun a ha=>by
  simp only [swp,wpList,Region.wanted,if_true];refine .inl ?_;unfold Oper.wp;have hr:=Lib.run_convert_string_bytes (P:=P) w src dst e s S.ot D.ot he
  have:(execOp a.eval ⟨some d,.convert src dst x,T,pos,af,none⟩).run P w = .ok (.value (.slice (some ⟨w.heap.size,0,none⟩) s.size (grownCap w s.size 0 e))) (Lib.bytesWorld w e s):=by
   simp [execOp,ha.eval hx,hr]
  rw [this,Oper.upon_value];have hE:Ext w (Lib.bytesWorld w e s):=⟨rfl,rfl,rfl,by rw [Lib.bytesWorld_size];omega,fun j hj=>Lib.bytesWorld_at_old w e s j hj⟩
  refine (h _ _ _ hE (aew _) ⟨?_,fun _=>rfl,fun i hi j u hu => ?_⟩).out _ (ha.put hn _)
  ·exact afF
  ·have mo:i<s.size:=by rw [afF] at hi;exact hi
   have:=Lib.bytesWorld_cell w e s i mo
   match j,hu with
   | 0,hu =>
     simp only [DX,List.getElem?_cons_zero,Option.some.injEq] at hu;rw [add_zero]
     have e2:(((some (⟨w.heap.size,0,none⟩ : Addr)).getD default).add (i*1))=⟨w.heap.size,i,none⟩:=by
      simp only [Option.getD_some,Nat.mul_one];unfold Addr.add;split<;>simp_all
     rw [e2,this,<- hu];have e3:s.data.toList.getD i 0=s.data.toList[i]:=by simp [List.getD,mo]
     rw [e3]
   | j+1,hu=>simp [DX] at hu⟩
end
variable {L:List aS} {zs:List eG} {li lv:fY}
def ed (r:jH) : ∀ v∈dD r,v.oneCell'=true:=iK.one (enc:=dD) r
def MO (r:dw) : ∀ v∈cm r,v.oneCell'=true:=iK.one (enc:=cm) r
def Hw (ls:List dw) : Prop := ∀ (i j:Nat) (hi:i<ls.length) (hj:j<ls.length),i≠j -> ∀ g,aG ls[i].av.A ls[i].av.c=some g->aG ls[j].av.A ls[j].av.c≠some g
structure vx (m:fY) (zs:List eG) (ls:List dw) : Prop where
 eQ:∀ (i:Nat) (hi:i<ls.length) (g:Nat),aG ls[i].av.A ls[i].av.c=some g->aG m.A m.c≠some g
 types:∀ (i:Nat) (hi:i<ls.length) (g:Nat),aG ls[i].av.A ls[i].av.c=some g -> ∀ u∈zs,aG u.Types.A u.Types.c≠some g
 sep:Hw ls
def vx.nil (m:fY) (zs:List eG) : vx m zs []:=⟨fun i hi=>by simp at hi,fun i hi=>by simp at hi,fun i j hi=>by simp at hi⟩
def vx.snoc {m:fY} {ls:List dw} {s:fY} {x:List Int} {zl:List aj} {y:dw} (h:vx m zs ls) (hm:Own w lo 3 1 bt m.A m.n m.c x) (hz:lu w lo s zs zl) (hl:gw w lo li ls L) (hy:∀ g,aG y.av.A y.av.c=some g->w.heap.size<=g) : vx m zs (ls++[y]):=by
 have e8:∀ (i:Nat) (hi:i<ls.length) (g:Nat),aG ls[i].av.A ls[i].av.c=some g->g<w.heap.size:=fun i hi g e=>(hl.each.get i hi (by rw [<- hl.each.len];exact hi)).bD.lt_size g e
 have key:∀ (i:Nat) (hi:i<(ls++[y]).length),(∃ h:i<ls.length,(ls++[y])[i]=ls[i])∨(i=ls.length∧(ls++[y])[i]=y):=fun i hi=>by
  by_cases e:i<ls.length
  ·exact .inl ⟨e,afC e⟩
  ·have:i=ls.length:=by simp at hi;omega
   subst this;exact .inr ⟨rfl,by simp⟩
 refine ⟨fun i hi g e => ?_,fun i hi g e u hu => ?_,fun i j hi hj o6 g e e2 => ?_⟩
 ·rcases key i hi with ⟨h1,h2⟩|⟨h1,h2⟩
  ·rw [h2] at e;exact h.eQ i h1 g e
  ·rw [h2] at e;intro e3;have:=hm.lt_size g e3;have:=hy g e;omega
 ·rcases key i hi with ⟨h1,h2⟩|⟨h1,h2⟩
  ·rw [h2] at e;exact h.types i h1 g e u hu
  ·rw [h2] at e;intro e3;obtain ⟨j,hj,rfl⟩:=aeu hu;have:=(hz.each.get j hj (by rw [<- hz.each.len];exact hj)).types.lt_size g e3
   have:=hy g e
   omega
 ·rcases key i hi with ⟨h1,h2⟩|⟨h1,h2⟩
  ·rw [h2] at e;rcases key j hj with ⟨h3,h4⟩|⟨h3,h4⟩
   ·rw [h4] at e2;exact h.sep i j h1 h3 o6 g e e2
   ·rw [h4] at e2;have:=e8 i h1 g e;have:=hy g e2;omega
  ·rw [h2] at e;rcases key j hj with ⟨h3,h4⟩|⟨h3,h4⟩
   ·rw [h4] at e2;have:=e8 j h3 g e2;have:=hy g e;omega
   ·omega
def yo (lv:fY) (zs:List eG) : Prop := ∀ u∈zs,∀ g,aG u.ai.A u.ai.c=some g->aG lv.A lv.c≠some g
def yo.nil (lv:fY) : yo lv []:=fun u hu=>by simp at hu
def yo.snoc {x:List Block} {u:eG} (h:yo lv zs) (hl:Own w lo 143 3 aO lv.A lv.n lv.c x) (hu:∀ g,aG u.ai.A u.ai.c=some g->w.heap.size<=g) : yo lv (zs++[u]):=fun y hy g e e2=>by
 rcases aeC.1 hy with hy|hy
 ·exact h y hy g e e2
 ·simp at hy;subst hy;have:=hu g e
  have:=hl.lt_size g e2
  omega
structure MP (w:World) (lo:Nat) (r:jH) (h:Heap) : Prop where
 own:jP w lo r h
 all:∃ zs ls,lu w lo r.bl zs h.bl∧gw w lo r.au ls h.au∧vx r.dP zs ls∧yo r.Live zs
set_option maxHeartbeats 4000000 in
def uG (r:jH) (h:Heap) (w:World) (hr:Jb w r h) (hs:h.small) :
 bI prog 33 [.agg (dD r).toArray] w fun v w' => ∃ s,v = .agg (dD s).toArray∧MP w' w.heap.size s h:=by
 refine Wj func33 ntmps33 ?_;refine Ww fun b1 w1 hw lD aX => ?_;refine SW.alloc rfl fun b2 w2 bq eW aq => ?_
 have vo:=hw.up eW
 have Pk:b2≠b1:=by have:=aX.lt;omega
 (obtain ⟨hw,aX⟩:=cT bq hw aX);obtain ⟨zs,hz⟩:=hr.cq;obtain ⟨ls,hl⟩:=hr.lists;have Uk:=hr.eQ.len;have TA:=hr.live.len;have s1:=hs.eQ;have s2:=hs.live;have s3:=hs.cq;have s4:=hs.lists;obtain ⟨z1,z2⟩:=hz.len;obtain ⟨l1,l2⟩:=hl.len;refine Wz ?_
 obtain ⟨K,hK⟩ : ∃ K:Env->World->Prop,K=fun L' w' => ∃ X c1 Y d1 b3,iM L' [(1,.pointer (some ⟨b1,0,none⟩)),(2,.pointer (some ⟨b2,0,none⟩)),(3,.pointer (some ⟨b3,0,none⟩))]∧Ext w w'∧aR w' b1 41 (dD r)∧aR w' b2 41 (dD .zero) ∧
  aR w' b3 41 (dD ⟨.nil,⟨X,r.dP.n,c1⟩,r.bJ,.nil,⟨Y,r.Live.n,d1⟩⟩)∧Own w' w.heap.size 3 1 bt X r.dP.n c1 h.dP∧Own w' w.heap.size 143 3 aO Y r.Live.n d1 h.Live∧w.heap.size<=b3∧b1≠b3∧b2≠b3:=⟨_,rfl⟩
 refine CW.cut K ?_ ?_
 ·focus
   refine CW.any 10 mixed (db (by kernel_rfl)) rfl fun w1 ah aI => ?_
   obtain ⟨hw,aX,aq⟩:=cd ah hw aX aq;clear ah;refine Wa ?_;refine SA.two 2 9 rfl rfl (by kernel_rfl) rfl rfl ?_ ?_
   focus
    refine Wk (dC _ _ _ _ _ (hr.eQ.ext hw) (by omega)) fun v w4 ar hv => ?_
    obtain ⟨X,c4,rfl,hX⟩:=hv;have hX:=hX.low hw.size;obtain ⟨hw,aX,aq⟩:=cd ar hw aX aq;try have ao:=ao.ext ar
    refine SW.nil (ae.sa ar ?_);refine SA.two 7 9 rfl rfl (by kernel_rfl) rfl rfl ?_ ?_
    focus
     refine Wk (lI _ _ _ _ _ (hr.live.ext hw) (by omega)) fun v w4 ar hv => ?_
     obtain ⟨Y,d4,rfl,hY⟩:=hv;have hY:=hY.low hw.size;obtain ⟨hX,hw,aX,aq⟩:=dJ ar hX hw aX aq;try have ao:=ao.ext ar
     refine SW.nil (ae.sa ar ?_);refine Wa ?_;refine SA.bZ 9 ?_;refine SW.alloc rfl fun b3 w4 ar cg ao => ?_
     have gm:=hw.up cg
     have rX:b1≠b3:=by have:=aX.lt;omega
     have pN:b2≠b3:=by have:=aq.lt;omega
     obtain ⟨hw,aX,aq⟩:=cd ar hw aX aq;try have hX:=hX.ext ar
     try have hY:=hY.ext ar
     refine SW.nil (ae.sa ar ?_)
    rotate_left
    focus
     refine SW.alloc rfl fun b3 w4 ar cg ao => ?_
     have gm:=hw.up cg
     have rX:b1≠b3:=by have:=aX.lt;omega
     have pN:b2≠b3:=by have:=aq.lt;omega
     obtain ⟨hw,aX,aq⟩:=cd ar hw aX aq;try have hX:=hX.ext ar
     try have hY:=hY.ext ar
     refine SW.nil (ae.sa ar ?_);refine SA.bZ 7 ?_;refine Wk (lI _ _ _ _ _ (hr.live.ext hw) (by omega)) fun v w4 ar hv => ?_
     obtain ⟨Y,d4,rfl,hY⟩:=hv;have hY:=hY.low hw.size;obtain ⟨hX,hw,aX,aq⟩:=dJ ar hX hw aX aq;try have ao:=ao.ext ar
     refine SW.nil (ae.sa ar ?_);refine Wa ?_
    rotate_left
   rotate_left 2
   focus
    refine SW.alloc rfl fun b3 w4 ar cg ao => ?_
    have gm:=hw.up cg
    have rX:b1≠b3:=by have:=aX.lt;omega
    have pN:b2≠b3:=by have:=aq.lt;omega
    obtain ⟨hw,aX,aq⟩:=cd ar hw aX aq;try have hX:=hX.ext ar
    try have hY:=hY.ext ar
    refine SW.nil (ae.sa ar ?_);refine SA.bZ 2 ?_;refine Wk (dC _ _ _ _ _ (hr.eQ.ext hw) (by omega)) fun v w4 ar hv => ?_
    obtain ⟨X,c4,rfl,hX⟩:=hv;have hX:=hX.low hw.size;obtain ⟨hw,aX,aq⟩:=cd ar hw aX aq;try have ao:=ao.ext ar
    refine SW.nil (ae.sa ar ?_);refine SA.bZ 7 ?_;refine Wk (lI _ _ _ _ _ (hr.live.ext hw) (by omega)) fun v w4 ar hv => ?_
    obtain ⟨Y,d4,rfl,hY⟩:=hv;have hY:=hY.low hw.size;obtain ⟨hX,hw,aX,aq⟩:=dJ ar hX hw aX aq;try have ao:=ao.ext ar
    refine SW.nil (ae.sa ar ?_);refine Wa ?_
   rotate_left
   all_goals
    refine SA.fZ ?_;skip;refine Wg ao (ed ⟨.nil,⟨X,r.dP.n,c4⟩,r.bJ,.nil,⟨Y,r.Live.n,d4⟩⟩) fun w5 cK hg => ?_
    have hG:=ao.gr hg;have hw:=hw.own gm hg;(obtain ⟨hX,hY⟩:=cT hG hX hY);have aX:=aX.grown hg (by simpa using rX);have aq:=aq.grown hg (by simpa using pN);refine Wz ?_;exact ae.cut (K:=K) (by rw [hK];exact ⟨X,c4,Y,d4,b3,⟨rfl,rfl,rfl,trivial⟩,hw,aX,aq,cK,hX,hY,gm,rX,pN⟩)
 ·clear aX aq hw;subst hK;rintro L' w' ⟨X,c4,Y,d4,b3,jc,hw,aX,aq,ao,hX,hY,gm,rX,pN⟩
  refine ae.sub jc ?_;refine Wz ?_
  refine CW.loop (fun s:Nat×Option Addr×Nat×List eG=>[(1,.pointer (some ⟨b1,0,none⟩)),(2,.pointer (some ⟨b2,0,none⟩)),(3,.pointer (some ⟨b3,0,none⟩)),(18,.slice r.bl.A r.bl.n r.bl.c),(19,.int .i64 (r.bl.n:Int)),(20,.int .i64 (s.1:Int))])
   (fun s w'=>s.1<=r.bl.n∧Ext w w'∧aR w' b1 41 (dD r)∧aR w' b2 41 (dD .zero)∧aR w' b3 41 (dD ⟨⟨s.2.1,s.1,s.2.2.1⟩,⟨X,r.dP.n,c4⟩,r.bJ,.nil,⟨Y,r.Live.n,d4⟩⟩)∧Own w' w.heap.size 3 1 bt X r.dP.n c4 h.dP∧Own w' w.heap.size 143 3 aO Y r.Live.n d4 h.Live ∧
     lu w' w.heap.size ⟨s.2.1,s.1,s.2.2.1⟩ s.2.2.2 (h.bl.take s.1)∧yo ⟨Y,r.Live.n,d4⟩ s.2.2.2) (fun s=>r.bl.n-s.1) (0,none,0,[]) ⟨rfl,rfl,rfl,rfl,rfl,rfl,trivial⟩ ⟨by omega,hw,aX,aq,ao,hX,hY,lu.nil _ _,yo.nil _⟩ ?_
  clear aX aq ao hX hY hw jc;rintro ⟨k,A,c,zr⟩ w' ⟨hk,hw,aX,aq,ao,hX,hY,hO,OQ⟩
  simp only at hk ao hO OQ ⊢;have hA:=hz.row.base;by_cases gC:k<r.bl.n
  ·have W9:=hz.each.get k (by omega) (by omega);have cx:h.bl[k]'(by omega)∈h.bl:=aet _
   have q:=hs.free _ cx;have q1:=W9.free.len;have q2:=W9.types.len;repeat' (first|refine Wz ?_|refine Wo hw ((hz.row.all gC)) ?_)
   refine SW.alloc rfl fun b5 w1 ah gI aL => ?_
   skip;refine Wg aL (fU _) fun w2 fa hg => ?_
   have ar:=ah.own gI hg;have jR:=hw.up gI
   obtain ⟨hw,aX,aq,ao,hX,hY,hO⟩:=ue ar hw aX aq ao hX hY hO;have aL:=fa;clear fa ah hg ar;refine Wz ?_;refine CW.any 5 mixed (db (by kernel_rfl)) rfl fun w1 ah aI => ?_
   obtain ⟨hw,aX,aq,ao,aL,hX,hY,hO⟩:=DH ah hw aX aq ao aL hX hY hO;clear ah;refine Wa ?_;refine SA.bZ 3 ?_;refine Wk (tp _ _ _ (W9.ext hw) (by omega) (by omega)) fun v w4 ar hv => ?_
   obtain ⟨s,rfl,nJ,e1,e2⟩:=hv;have Xa:=OQ.snoc (u:=s) hY nJ.free.aW;have nJ:=nJ.low hw.size;(obtain ⟨hw,aX,aq,ao,aL,hX,hY,hO⟩:=DH ar hw aX aq ao aL hX hY hO);refine SW.nil (ae.sa ar ?_);refine SA.bZ 4 ?_;refine SW.dR rfl rfl rfl rfl rfl fun b w4 ar hb hB => ?_
   (obtain ⟨hw,aX,aq,ao,aL,hX,hY,hO,nJ⟩:=Mx ar hw aX aq ao aL hX hY hO nJ);refine SW.nil (ae.sa ar ?_);refine SA.fZ ?_;refine SW.append hO.row (aR.wv (enc:=dq) hB) hw.size rfl rfl rfl (by simp only;omega) (by simp only;omega) fun A2 c2 w5 lO hg => ?_
   have hG:=hO.row.gr hg;have hw:=aD hw hg (aew _) hO.row.aW;(obtain ⟨aX,aq,ao,hX,hY,nJ⟩:=jh hG aX aq ao hX hY nJ);have hE:=hO.each.mono fun _ _ h=>h.aJ hG rfl
   refine Wz ?_;refine Wb (i:=0) ao fun w6 ef hg => ?_
   have hG:=ao.gr hg;have hw:=hw.own gm hg;have aX:=aX.grown hg (by simpa using rX);have aq:=aq.grown hg (by simpa using pN);(obtain ⟨hX,hY,nJ,lO⟩:=dJ hG hX hY nJ lO);have hE:=hE.mono fun _ _ h=>h.aJ hG rfl
   refine Wz ?_;refine ae.again (k+1,A2,c2,zr++[s]) ⟨rfl,rfl,rfl,rfl,rfl,rfl,trivial⟩ (by simp only;omega) ⟨by simp only;omega,hw,aX,aq,ef,hX,hY,⟨lO,?_⟩,Xa⟩;rw [aeA (by omega)];exact hE.snoc nJ
  ·obtain rfl:k=r.bl.n:=by omega
   rw [aeF (by omega)] at hO;refine Wz ?_
   refine CW.loop (fun s:Nat×Option Addr×Nat×List dw=>[(2,.pointer (some ⟨b2,0,none⟩)),(3,.pointer (some ⟨b3,0,none⟩)),(33,.slice r.au.A r.au.n r.au.c),(34,.int .i64 (r.au.n:Int)),(35,.int .i64 (s.1:Int))])
    (fun s w'=>s.1<=r.au.n∧Ext w w'∧aR w' b2 41 (dD .zero)∧aR w' b3 41 (dD ⟨⟨A,r.bl.n,c⟩,⟨X,r.dP.n,c4⟩,r.bJ,⟨s.2.1,s.1,s.2.2.1⟩,⟨Y,r.Live.n,d4⟩⟩)∧Own w' w.heap.size 3 1 bt X r.dP.n c4 h.dP∧Own w' w.heap.size 143 3 aO Y r.Live.n d4 h.Live ∧
      lu w' w.heap.size ⟨A,r.bl.n,c⟩ zr h.bl∧gw w' w.heap.size ⟨s.2.1,s.1,s.2.2.1⟩ s.2.2.2 (h.au.take s.1)∧vx ⟨X,r.dP.n,c4⟩ zr s.2.2.2) (fun s=>r.au.n-s.1) (0,none,0,[]) ⟨rfl,rfl,rfl,rfl,rfl,trivial⟩ ⟨by omega,hw,aq,ao,hX,hY,hO,gw.nil _ _,vx.nil _ _⟩ ?_
   clear aX aq ao hX hY hw hO;rintro ⟨k,B,d,lr⟩ w' ⟨hk,hw,aq,ao,hX,hY,hO,hP,yq⟩
   simp only at hk ao hP yq ⊢;have hA:=hl.row.base;by_cases gC:k<r.au.n
   ·have Kj:=hl.each.get k (by omega) (by omega);have cx:h.au[k]'(by omega)∈h.au:=aet _
    have q:=hs.bD _ cx;have q1:=Kj.bD.len;repeat' (first|refine Wz ?_|refine Wo hw ((hl.row.all gC)) ?_)
    have Xb:=hP.row.lt_size;refine SW.alloc rfl fun b7 w1 ah iT bc => ?_
    skip;refine Wg bc (MO _) fun w2 bp hg => ?_
    have ar:=ah.own iT hg;have gn:=hw.up iT
    obtain ⟨hw,aq,ao,hX,hY,hO,hP⟩:=ue ar hw aq ao hX hY hO hP;have bc:=bp;clear bp ah hg ar;refine Wz ?_;refine Wk (dC _ _ _ _ _ (Kj.bD.ext hw) (by omega)) fun v w4 ar hv => ?_
    obtain ⟨W,e4,rfl,hW⟩:=hv;have yq:=yq.snoc (y:=⟨ls[k].gl,ls[k].aj,ls[k].Ty,⟨W,ls[k].av.n,e4⟩⟩) hX hO hP hW.aW;have hW:=hW.low hw.size;(obtain ⟨hw,aq,ao,bc,hX,hY,hO,hP⟩:=DH ar hw aq ao bc hX hY hO hP);refine Wz ?_;refine Wb (i:=3) bc fun w5 bp hg => ?_
    have hG:=bc.gr hg;have hw:=hw.own gn hg;(obtain ⟨aq,ao,hX,hY,hO,hW⟩:=jh hG aq ao hX hY hO hW);have hP:gw w5 w.heap.size ⟨B,k,d⟩ lr (h.au.take k):=⟨hP.row.grown hg (.inr (fun e=>by have:=Xb _ e;omega)),hP.each.mono fun _ _ h=>h.aJ hG rfl⟩;refine Wz ?_;refine SW.dR rfl rfl rfl rfl rfl fun b w6 ar hb hB => ?_
    (obtain ⟨hw,aq,ao,hX,hY,hO,hP,hW⟩:=DH ar hw aq ao hX hY hO hP hW);refine SW.append hP.row (aR.wv (enc:=cm) (x:=⟨ls[k].gl,ls[k].aj,ls[k].Ty,⟨W,_,e4⟩⟩) hB) hw.size rfl rfl rfl (by simp only;omega) (by simp only;omega) fun A2 c2 w7 QF hg => ?_
    have hG:=hP.row.gr hg;have hw:=aD hw hg (aew _) hP.row.aW;(obtain ⟨aq,ao,hX,hY,hO,hW⟩:=jh hG aq ao hX hY hO hW);have hE:=hP.each.mono fun _ _ h=>h.aJ hG rfl
    refine Wz ?_;refine Wb (i:=3) ao fun w8 ef hg => ?_
    have hG:=ao.gr hg;have hw:=hw.own gm hg;have aq:=aq.grown hg (by simpa using pN);(obtain ⟨hX,hY,hO,QF,hW⟩:=fH hG hX hY hO QF hW);have hE:=hE.mono fun _ _ h=>h.aJ hG rfl
    refine Wz ?_;refine ae.again (k+1,A2,c2,lr++[⟨ls[k].gl,ls[k].aj,ls[k].Ty,⟨W,_,e4⟩⟩]) ⟨rfl,rfl,rfl,rfl,rfl,trivial⟩ (by simp only;omega) ⟨by simp only;omega,hw,aq,ef,hX,hY,hO,⟨QF,?_⟩,yq⟩;rw [aeA (by omega)];exact hE.snoc ⟨Kj.cpu,Kj.kE,Kj.ty,hW⟩
   ·obtain rfl:k=r.au.n:=by omega
    rw [aeF (by omega)] at hP;refine Wz ?_;refine Wg aq (ed _) fun w5 cK hg => ?_
    have hG:=aq.gr hg;have hw:=hw.own vo hg;(obtain ⟨hX,hY,hO,hP⟩:=dJ hG hX hY hO hP);refine Wz ?_;exact ae.EW rfl rfl cK rfl ⟨_,rfl,hw,⟨⟨A,r.bl.n,c⟩,⟨X,r.dP.n,c4⟩,r.bJ,⟨B,r.au.n,d⟩,⟨Y,r.Live.n,d4⟩⟩,rfl,⟨hr.cpus,hX,hY,⟨zr,hO⟩,⟨lr,hP⟩⟩,zr,lr,hO,hP,yq,OQ⟩
def mG (r:jH) (h:Heap) (w:World) (hr:Jb w r h) (hs:h.small) :
 bI prog 33 [.agg (dD r).toArray] w fun v w' => ∃ s,v = .agg (dD s).toArray∧jP w' w.heap.size s h :=
 (uG r h w hr hs).mono fun _ _ _ ⟨s,hv,ho⟩=>⟨s,hv,ho.own⟩
def uh (A:Option Addr) (n c:Nat) (l:List Slab) (w:World) (hl:Sl w 3 bd A n l) (hn:n*24<=140737488355328) : bI prog 35 [.slice A n c] w (zI w 107 3 bd n l):=by
 refine Wj func35 ntmps35 ?_;have hw:=Ext.refl w;refine Wz ?_;refine SW.st (sq rfl rfl) rfl ?_;repeat' (first|refine Wz ?_|(refine CW.cond rfl (fun h => ?_) (fun h => ?_)))
 ·have G9:n=0:=by
   rcases aeL n with h0|h0
   ·exact h0
   ·have:=hl.base h0;simp_all
  subst G9;have:l=[]:=aeN hl.len
  subst this;exact ae.bh rfl rfl ⟨_,rfl,hw,none,0,rfl,Own.fC _ _ _ _ _ _⟩
 ·refine SW.zB rfl fun b w1 ah hb => ?_
  have hw:=hw.trans ah;refine Wz ?_;refine SW.vj (afX n) (afn l) (Own.fC w1 w.heap.size _ _ bd (some ⟨b,0,none⟩)) (hl.ext hw) hw.size rfl rfl rfl (by omega) (by omega) fun A2 c2 w2 hO hg => ?_
  have hw:=aD hw hg (aew _) (by simp [aG]);refine Wz ?_;exact ae.bh rfl rfl ⟨_,rfl,hw,A2,c2,rfl,hO⟩
variable {sz:Nat} {enc:α -> List Value}
structure aN where
 Names:List ByteArray
 ay:Int
 bL:Int
 Order:Int
 ab:List Slab
 ak:List Int
structure ag where
 Words:List Int
 Heap:Heap
 aa:List aN
def encStr (s:ByteArray) : List Value:=[.string s]
instance:iK encStr 1:=⟨fun _=>rfl,fun r u hu=>by simp [encStr] at hu;subst hu;rfl⟩
structure dT where
 Names:fY
 ay:Int
 bL:Int
 Order:Int
 ab:fY
 ak:fY
def fu (r:dT) : List Value:=[r.Names.v,.int .i64 r.ay,.int .i64 r.bL,.int .i64 r.Order,r.ab.v,r.ak.v]
instance:iK fu 6:=⟨fun _=>rfl,fun r u hu=>by simp [fu,fY.v] at hu;rcases hu with rfl|rfl|rfl|rfl|rfl|rfl<;>rfl⟩
structure de where
 Words:fY
 Heap:jH
 aa:fY
def aK (r:de) : List Value:=[r.Words.v,r.Heap.bl.v,r.Heap.dP.v,.int .i64 r.Heap.bJ,r.Heap.au.v,r.Heap.Live.v,r.aa.v]
instance:iK aK 7:=⟨fun _=>rfl,fun r u hu=>by simp [aK,fY.v] at hu;rcases hu with rfl|rfl|rfl|rfl|rfl|rfl|rfl<;>rfl⟩
def de.zero:de:=⟨.nil,.zero,.nil⟩
def Cz (r:dT) : ∀ v∈fu r,v.oneCell'=true:=iK.one (enc:=fu) r
def aU (r:de) : ∀ v∈aK r,v.oneCell'=true:=iK.one (enc:=aK) r
def mH {t:Nat} {r:de} (h:aR w b t (aK r)) : ∀ j v,(dD r.Heap)[j]?=some v->w.cell? ((((⟨b,0,none⟩ : Addr)).add 1).add j)=some v:=fun j v hv=>by
 rw [add_add];refine h.cell (i:=1+j) ?_
 match j,hv with
 | 0,hv=>exact hv
 | 1,hv=>exact hv
 | 2,hv=>exact hv
 | 3,hv=>exact hv
 | 4,hv=>exact hv
 | j+5,hv=>simp [dD] at hv
def Own.Jg {n c:Nat} {l:List α} (h:Own w lo e sz enc A n c l) : n<=c:=by
 rcases h.row with ⟨rfl,rfl⟩|⟨_,_,_,_,_,_,h,_⟩
 ·exact aew _
 ·exact h
structure Hx (w:World) (r:dT) (c:aN) : Prop where
 size:r.ay=c.ay
 per:r.bL=c.bL
 order:r.Order=c.Order
 names:Sl w 1 encStr r.Names.A r.Names.n c.Names
 aB:Sl w 3 bd r.ab.A r.ab.n c.ab
 aV:Sl w 1 bt r.ak.A r.ak.n c.ak
 cap:r.ak.n<=r.ak.c
structure o7 (w:World) (lo:Nat) (r:dT) (c:aN) : Prop where
 size:r.ay=c.ay
 per:r.bL=c.bL
 order:r.Order=c.Order
 names:Own w lo 9 1 encStr r.Names.A r.Names.n r.Names.c c.Names
 aB:Own w lo 107 3 bd r.ab.A r.ab.n r.ab.c c.ab
 aV:Own w lo 3 1 bt r.ak.A r.ak.n r.ak.c c.ak
section
variable {w w':World} {lo oV t:Nat} {r:dT} {c:aN}
def Hx.ext (h:Hx w r c) (hx:Ext w w') : Hx w' r c:=⟨h.size,h.per,h.order,h.names.ext hx,h.aB.ext hx,h.aV.ext hx,h.cap⟩
def o7.ext (h:o7 w lo r c) (hx:Ext w w') : o7 w' lo r c:=⟨h.size,h.per,h.order,h.names.ext hx,h.aB.ext hx,h.aV.ext hx⟩
def o7.low (h:o7 w lo r c) (hl:oV<=lo) : o7 w oV r c:=⟨h.size,h.per,h.order,h.names.low hl,h.aB.low hl,h.aV.low hl⟩
def o7.rd (h:o7 w lo r c) : Hx w r c:=⟨h.size,h.per,h.order,h.names.sl,h.aB.sl,h.aV.sl,h.aV.Jg⟩
def o7.aJ (h:o7 w lo r c) (hG:se w w' t) (bG:(Nat.beq t 9 || (Nat.beq t 107 || Nat.beq t 3))=false) : o7 w' lo r c:=by
 simp only [Bool.or_eq_false_iff] at bG;exact ⟨h.size,h.per,h.order,h.names.aJ hG bG.1,h.aB.aJ hG bG.2.1,h.aV.aJ hG bG.2.2⟩
end
structure Hy (w:World) (s:fY) (cs:List dT) (l:List aN) : Prop where
 row:Sl w 6 fu s.A s.n cs
 each:fK (Hx w) cs l
 cap:s.n<=s.c
structure fI (w:World) (lo:Nat) (s:fY) (cs:List dT) (l:List aN) : Prop where
 row:Own w lo 103 6 fu s.A s.n s.c cs
 each:fK (o7 w lo) cs l
section
variable {w w':World} {lo oV t:Nat} {s:fY} {cs:List dT} {l:List aN}
def Hy.ext (h:Hy w s cs l) (hx:Ext w w') : Hy w' s cs l:=⟨h.row.ext hx,h.each.mono fun _ _ h=>h.ext hx,h.cap⟩
def fI.ext (h:fI w lo s cs l) (hx:Ext w w') : fI w' lo s cs l:=⟨h.row.ext hx,h.each.mono fun _ _ h=>h.ext hx⟩
def fI.low (h:fI w lo s cs l) (hl:oV<=lo) : fI w oV s cs l:=⟨h.row.low hl,h.each.mono fun _ _ h=>h.low hl⟩
def fI.rd (h:fI w lo s cs l) : Hy w s cs l:=⟨h.row.sl,h.each.mono fun _ _ h=>h.rd,h.row.Jg⟩
def fI.aJ (h:fI w lo s cs l) (hG:se w w' t) (bG:(Nat.beq t 103 || (Nat.beq t 9 || (Nat.beq t 107 || Nat.beq t 3)))=false) : fI w' lo s cs l:=by
 rw [afZ] at bG;exact ⟨h.row.aJ hG bG.1,h.each.mono fun _ _ h=>h.aJ hG bG.2⟩
def fI.nil (w:World) (lo:Nat) : fI w lo .nil [] []:=⟨Own.fC _ _ _ _ _ _,.nil⟩
def Hy.len (h:Hy w s cs l) : cs.length=s.n∧l.length=s.n:=⟨h.row.len,by rw [<- h.each.len,h.row.len]⟩
def fI.eV {vs:List Value} (h:fI w lo s cs l) (hB:aR w b 103 vs) (hg:w.grownBy w' (some b)) (e8:∀ k,aG s.A s.c=some k->k<oV) (hm:oV<=b) : fI w' lo s cs l :=
 ⟨h.row.grown hg (.inr (fun e=>by have:=e8 _ e;omega)),h.each.mono fun _ _ h=>h.aJ (hB.gr hg) rfl⟩
end
structure zU (w:World) (r:de) (s:ag) : Prop where
 words:Sl w 1 bt r.Words.A r.Words.n s.Words
 heap:Jb w r.Heap s.Heap
 bo:∃ cs,Hy w r.aa cs s.aa
structure jj (w:World) (lo:Nat) (r:de) (s:ag) : Prop where
 words:Own w lo 3 1 bt r.Words.A r.Words.n r.Words.c s.Words
 heap:jP w lo r.Heap s.Heap
 bo:∃ cs,fI w lo r.aa cs s.aa
section
variable {w w':World} {lo oV t:Nat} {r:de} {s:ag}
def zU.ext (h:zU w r s) (hx:Ext w w') : zU w' r s:=by
 obtain ⟨cs,hc⟩:=h.bo;exact ⟨h.words.ext hx,h.heap.ext hx,⟨cs,hc.ext hx⟩⟩
def jj.ext (h:jj w lo r s) (hx:Ext w w') : jj w' lo r s:=by
 obtain ⟨cs,hc⟩:=h.bo;exact ⟨h.words.ext hx,h.heap.ext hx,⟨cs,hc.ext hx⟩⟩
def jj.low (h:jj w lo r s) (hl:oV<=lo) : jj w oV r s:=by
 obtain ⟨cs,hc⟩:=h.bo;exact ⟨h.words.low hl,h.heap.low hl,⟨cs,hc.low hl⟩⟩
def jj.rd (h:jj w lo r s) : zU w r s:=by
 obtain ⟨cs,hc⟩:=h.bo;exact ⟨h.words.sl,h.heap.rd,⟨cs,hc.rd⟩⟩
end
structure aN.small (c:aN) : Prop where
 names:c.Names.length*16<=140737488355328
 aB:c.ab.length*24<=140737488355328
 aV:c.ak.length*8<=140737488355328
structure ag.small (s:ag) : Prop where
 words:s.Words.length*8<=140737488355328
 heap:s.Heap.small
 bo:s.aa.length*96<=140737488355328
 each:∀ c∈s.aa,c.small
instance:Fc prog 9:=⟨by kernel_rfl⟩
def RS:prog.underlying 5=some (.int .u8):=by kernel_rfl
def uH (A:Option Addr) (n c:Nat) (l:List UInt8) (w:World) (hl:Sl w 1 DX A n l) (f:FuncId) (cap:List Value) [Body prog f] (p:UInt8->Bool) (arg:UInt8->Value) (pK:∀ x,arg x=(if 1=1 then (DX x)[0]?.getD undef else .agg (DX x).toArray))
 (hf:∀ x∈l,∀ w',Ext w w'->bI prog f ([arg x]++cap) w' fun v _=>v = .bool (p x)) (hn:n<=9223372036854775807) :
 bI prog 133 [.slice A n c,.func (.func f) #[] cap.toArray] w fun v _=>v = .int .i64 (idxOf p l):=by
 refine Wj func133 ntmps133 ?_;have hw:=Ext.refl w;have hA:=hl.base;refine Wz ?_;refine CW.loop (fun k:Nat=>[(0,.slice A n c),(1,.func (.func f) #[] cap.toArray),(7,.int .i64 (n:Int)),(8,.int .i64 (k:Int))]) (fun k w'=>k<=n∧Ext w w' ∧ ∀ j (hj:j<l.length),j<k->p l[j]=false) (fun k=>n-k) 0 ⟨rfl,rfl,rfl,rfl,trivial⟩ ⟨by omega,hw,fun j _ h=>by omega⟩ ?_;clear hw;rintro k w' ⟨bP,hw,hI⟩
 by_cases hk:k<n
 ·have hx:=pK (l[k]'(hl.lt hk));have xE:=hf (l[k]'(hl.lt hk)) (aet _);rw [hx] at xE;repeat' (first|refine Wz ?_|refine Wn hw (hl.one hk rfl) ?_)
  refine SW.vk rfl rfl rfl (xE _ hw) fun v w1 ah hv => ?_
  subst hv;have hw:=hw.trans ah;cases hp:p (l[k]'(hl.lt hk))
  ·refine Wz ?_;refine ae.again (k+1) ⟨rfl,rfl,rfl,rfl,trivial⟩ (by omega) ⟨by omega,hw,fun j hj h => ?_⟩;by_cases my:j=k
   ·subst my;exact hp
   ·exact hI j hj (by omega)
  ·refine Wz ?_;exact ae.bh rfl rfl ⟨_,rfl,hw,by rw [oa (hl.lt hk) hp hI]⟩
 ·refine Wz ?_;exact ae.bh rfl rfl ⟨_,rfl,hw,by rw [(lg (fun j hj=>hI j hj (by have:=hl.len;omega))).1]⟩
def jW (A:Option Addr) (n c:Nat) (l:List Slab) (w:World) (hl:Sl w 3 bd A n l) (f:FuncId) (cap:List Value) [Body prog f] (p:Slab->Bool) (arg:Slab->Value) (pK:∀ x,arg x=(if 3=1 then (bd x)[0]?.getD undef else .agg (bd x).toArray))
 (hf:∀ x∈l,∀ w',Ext w w'->bI prog f ([arg x]++cap) w' fun v _=>v = .bool (p x)) (hn:n<=9223372036854775807) :
 bI prog 148 [.slice A n c,.func (.func f) #[] cap.toArray] w fun v _=>v = .int .i64 (idxOf p l):=by
 refine Wj func148 ntmps148 ?_;have hw:=Ext.refl w;have hA:=hl.base;refine Wz ?_;refine CW.loop (fun k:Nat=>[(0,.slice A n c),(1,.func (.func f) #[] cap.toArray),(7,.int .i64 (n:Int)),(8,.int .i64 (k:Int))]) (fun k w'=>k<=n∧Ext w w' ∧ ∀ j (hj:j<l.length),j<k->p l[j]=false) (fun k=>n-k) 0 ⟨rfl,rfl,rfl,rfl,trivial⟩ ⟨by omega,hw,fun j _ h=>by omega⟩ ?_;clear hw;rintro k w' ⟨bP,hw,hI⟩
 by_cases hk:k<n
 ·have hx:=pK (l[k]'(hl.lt hk));have xE:=hf (l[k]'(hl.lt hk)) (aet _);rw [hx] at xE;repeat' (first|refine Wz ?_|refine Wo hw ((hl.all hk)) ?_)
  refine SW.vk rfl rfl rfl (xE _ hw) fun v w1 ah hv => ?_
  subst hv;have hw:=hw.trans ah;cases hp:p (l[k]'(hl.lt hk))
  ·refine Wz ?_;refine ae.again (k+1) ⟨rfl,rfl,rfl,rfl,trivial⟩ (by omega) ⟨by omega,hw,fun j hj h => ?_⟩;by_cases my:j=k
   ·subst my;exact hp
   ·exact hI j hj (by omega)
  ·refine Wz ?_;exact ae.bh rfl rfl ⟨_,rfl,hw,by rw [oa (hl.lt hk) hp hI]⟩
 ·refine Wz ?_;exact ae.bh rfl rfl ⟨_,rfl,hw,by rw [(lg (fun j hj=>hI j hj (by have:=hl.len;omega))).1]⟩
def lP (A:Option Addr) (n c:Nat) (l:List dT) (w:World) (hl:Sl w 6 fu A n l) (f:FuncId) (cap:List Value) [Body prog f] (p:dT->Bool) (arg:dT->Value) (pK:∀ x,arg x=(if 6=1 then (fu x)[0]?.getD undef else .agg (fu x).toArray))
 (hf:∀ x∈l,∀ w',Ext w w'->bI prog f ([arg x]++cap) w' fun v _=>v = .bool (p x)) (hn:n<=9223372036854775807) :
 bI prog 44 [.slice A n c,.func (.func f) #[] cap.toArray] w fun v _=>v = .int .i64 (idxOf p l):=by
 refine Wj func44 ntmps44 ?_;have hw:=Ext.refl w;have hA:=hl.base;refine Wz ?_;refine CW.loop (fun k:Nat=>[(0,.slice A n c),(1,.func (.func f) #[] cap.toArray),(7,.int .i64 (n:Int)),(8,.int .i64 (k:Int))]) (fun k w'=>k<=n∧Ext w w' ∧ ∀ j (hj:j<l.length),j<k->p l[j]=false) (fun k=>n-k) 0 ⟨rfl,rfl,rfl,rfl,trivial⟩ ⟨by omega,hw,fun j _ h=>by omega⟩ ?_;clear hw;rintro k w' ⟨bP,hw,hI⟩
 by_cases hk:k<n
 ·have hx:=pK (l[k]'(hl.lt hk));have xE:=hf (l[k]'(hl.lt hk)) (aet _);rw [hx] at xE;repeat' (first|refine Wz ?_|refine Wo hw ((hl.all hk)) ?_)
  refine SW.vk rfl rfl rfl (xE _ hw) fun v w1 ah hv => ?_
  subst hv;have hw:=hw.trans ah;cases hp:p (l[k]'(hl.lt hk))
  ·refine Wz ?_;refine ae.again (k+1) ⟨rfl,rfl,rfl,rfl,trivial⟩ (by omega) ⟨by omega,hw,fun j hj h => ?_⟩;by_cases my:j=k
   ·subst my;exact hp
   ·exact hI j hj (by omega)
  ·refine Wz ?_;exact ae.bh rfl rfl ⟨_,rfl,hw,by rw [oa (hl.lt hk) hp hI]⟩
 ·refine Wz ?_;exact ae.bh rfl rfl ⟨_,rfl,hw,by rw [(lg (fun j hj=>hI j hj (by have:=hl.len;omega))).1]⟩
def rY (A:Option Addr) (n c:Nat) (l:List UInt8) (w:World) (hl:Sl w 1 DX A n l) (f:FuncId) (cap:List Value) [Body prog f] (p:UInt8->Bool) (arg:UInt8->Value) (pK:∀ x,arg x=(if 1=1 then (DX x)[0]?.getD undef else .agg (DX x).toArray))
 (hf:∀ x∈l,∀ w',Ext w w'->bI prog f ([arg x]++cap) w' fun v _=>v = .bool (p x)) (hn:n<=9223372036854775807) :
 bI prog 80 [.slice A n c,.func (.func f) #[] cap.toArray] w fun v _=>v = .bool (l.any p):=by
 refine Wj func80 ntmps80 ?_;have hw:=Ext.refl w;repeat' (first|refine Wz ?_|(refine Wk (uH _ _ _ _ _ (hl.ext hw) f cap p arg pK (fun x hx w1 h1=>hf x hx w1 (hw.trans h1)) hn) ?_;intro v w1 ah hv;subst hv;have hw:=hw.trans ah;clear ah))
 exact ae.bh rfl rfl ⟨_,rfl,hw,by rw [lJ]⟩
def na (A:Option Addr) (n c:Nat) (l:List dT) (w:World) (hl:Sl w 6 fu A n l) (f:FuncId) (cap:List Value) [Body prog f] (p:dT->Bool) (arg:dT->Value) (pK:∀ x,arg x=(if 6=1 then (fu x)[0]?.getD undef else .agg (fu x).toArray))
 (hf:∀ x∈l,∀ w',Ext w w'->bI prog f ([arg x]++cap) w' fun v _=>v = .bool (p x)) (hn:n<=9223372036854775807) :
 bI prog 78 [.slice A n c,.func (.func f) #[] cap.toArray] w fun v _=>v = .bool (l.any p):=by
 refine Wj func78 ntmps78 ?_;have hw:=Ext.refl w;repeat' (first|refine Wz ?_|(refine Wk (lP _ _ _ _ _ (hl.ext hw) f cap p arg pK (fun x hx w1 h1=>hf x hx w1 (hw.trans h1)) hn) ?_;intro v w1 ah hv;subst hv;have hw:=hw.trans ah;clear ah))
 exact ae.bh rfl rfl ⟨_,rfl,hw,by rw [lJ]⟩
def tS (b:UInt8) : Bool:=(decide ((b.toNat:Int)<97) || decide (122<(b.toNat:Int))) && (decide ((b.toNat:Int)<48) || decide (57<(b.toNat:Int)))
def gx (s:ByteArray) : Bool:=decide (1<=(s.size:Int)∧(s.size:Int)<=8) && !(s.data.toList.any tS)
def Pm {s:ByteArray} (h : 1<=s.size∧s.size<=8) (k:s.data.toList.any tS=false) : gx s=true:=by
 unfold gx;rw [k,decide_eq_true (by omega)]
 rfl
def Hz {s:ByteArray} (h : ¬ (1<=s.size∧s.size<=8)) : gx s=false:=by
 unfold gx;rw [decide_eq_false (by omega)]
 rfl
def Kk {s:ByteArray} (k:s.data.toList.any tS=true) : gx s=false:=by
 unfold gx;rw [k];simp
def MQ (b:UInt8) (w:World) : bI prog 81 ([.int .u8 b.toNat]++[]) w fun v _=>v = .bool (tS b):=by
 refine Wj func81 ntmps81 ?_;have hw:=Ext.refl w;unfold tS;obtain ⟨z,hz⟩ : ∃ z:Int,(b.toNat:Int)=z:=⟨_,rfl⟩;rw [hz];by_cases a1:z<97
 ·by_cases a2:z<48
  ·refine Wz ?_;exact ae.bh rfl rfl ⟨_,rfl,hw,by simp [a1,a2]<;>omega⟩
  ·refine Wz ?_;exact ae.bh rfl rfl ⟨_,rfl,hw,by simp [a1,a2]<;>omega⟩
 ·by_cases a2 : 122<z
  ·refine Wz ?_;exact ae.bh rfl rfl ⟨_,rfl,hw,by simp [a1,a2]<;>omega⟩
  ·refine Wz ?_;exact ae.bh rfl rfl ⟨_,rfl,hw,by simp [a1,a2]<;>omega⟩
def Ff (s:ByteArray) (w:World) (hs:s.size<=140737488351232) : bI prog 42 [.string s] w fun v _=>v = .bool (gx s):=by
 refine Wj func42 ntmps42 ?_;have hw:=Ext.refl w;by_cases h0:s=⟨#[]⟩
 ·subst h0;repeat' (first|refine Wz ?_|refine SW.gp rfl rfl rfl (fun h => ?_) (fun h => ?_)|(refine SW.st (lN rfl rfl) rfl ?_))
  all_goals first|(exfalso;simp_all;done)|skip
  exact ae.bh rfl rfl ⟨_,rfl,hw,rfl⟩
 ·by_cases h8:s.size<=8
  ·have h1 : 1<=s.size:=by
    rcases aeL s.size with h|h
    ·exact absurd (by cases s;simp [ByteArray.size] at h;subst h;rfl) h0
    ·exact h
   have bG:decide (s=⟨#[]⟩)=false:=decide_eq_false h0
   repeat' (first|refine Wz ?_|(refine SW.st ((lN rfl rfl).eq (congrArg Value.bool bG)) rfl ?_)|refine SW.st (yT rfl) rfl ?_)
   refine SW.Ki (e:=5) RS rfl rfl fun b c w1 ah hb hS => ?_
   have hw:=hw.trans ah;refine Wk (rY _ _ _ _ _ hS _ [] tS (fun x => .int .u8 x.toNat) (fun x=>rfl) (fun x _ w1 _=>MQ x w1) (by omega)) fun v w2 bq hv => ?_
   subst hv;have hw:=hw.trans bq;refine Wz ?_;refine ae.bh rfl rfl ⟨_,rfl,hw,?_⟩;cases k:s.data.toList.any tS
   ·rw [Pm ⟨h1,h8⟩ k];rfl
   ·rw [Kk k];rfl
  ·have bG:decide (s=⟨#[]⟩)=false:=decide_eq_false h0
   rw [Hz (by omega)];repeat' (first|refine Wz ?_|(refine SW.st ((lN rfl rfl).eq (congrArg Value.bool bG)) rfl ?_)|refine SW.st (yT rfl) rfl ?_)
   exact ae.bh rfl rfl ⟨_,rfl,hw,rfl⟩
def dp (x:Int) : Int×Int×Int:=if 1<=x∧x<=64 then (if 4<=16 / x then (0,16 / x,0) else if 4<=32 / x then (1,32 / x,0) else (2,64 / x,0)) else (0,0,1)
def pp (x:Int) : Value := .tuple #[.int .i64 (dp x).1,.int .i64 (dp x).2.1,.int .i64 (dp x).2.2]
def zV (x:Int) (w:World) : bI prog 48 [.int .i64 x] w fun v _=>v=pp x:=by
 refine Wj func48 ntmps48 ?_;have hw:=Ext.refl w;repeat' (first|refine Wz ?_|(refine CW.vd rfl (fun h => ?_) (fun h => ?_))|refine SW.gp rfl rfl rfl (fun h => ?_) (fun h => ?_))
 ·refine ae.DB rfl rfl rfl rfl ⟨_,rfl,hw,?_⟩;unfold pp dp;rw [if_neg (by omega)]
 ·refine ae.DB rfl rfl rfl rfl ⟨_,rfl,hw,?_⟩;unfold pp dp;rw [if_neg (by omega)]
 ·have hx : 1<=x∧x<=64:=by omega
  refine CW.loop (fun k:Nat=>[(0,.int .i64 x),(5,.int .i64 (k:Int))]) (fun k w'=>k<=2∧Ext w w'∧(1<=k -> ¬ 4<=16 / x)∧(2<=k -> ¬ 4<=32 / x)) (fun k=>2-k) 0 ⟨rfl,rfl,trivial⟩ ⟨by omega,hw,by omega,by omega⟩ ?_;clear hw;rintro k w' ⟨hk,hw,h1,h2⟩
  obtain rfl|rfl|rfl:k=0∨k=1∨k=2:=by omega
  ·refine Wz ?_;refine SW.st (fO (r:=16) rfl rfl (by decide) (by decide) (by decide) (by decide) (by decide)) rfl ?_;repeat' (first|refine Wz ?_|refine SW.gp rfl rfl rfl (fun h => ?_) (fun h => ?_))
   ·refine ae.DB rfl rfl rfl rfl ⟨_,rfl,hw,?_⟩;unfold pp dp;rw [if_pos (by omega),if_pos (by omega)]
    rfl
   ·exact ae.again 1 ⟨rfl,rfl,trivial⟩ (by omega) ⟨by omega,hw,fun _=>by omega,fun h=>by omega⟩
  ·refine Wz ?_;refine SW.st (fO (r:=32) rfl rfl (by decide) (by decide) (by decide) (by decide) (by decide)) rfl ?_;repeat' (first|refine Wz ?_|refine SW.gp rfl rfl rfl (fun h => ?_) (fun h => ?_))
   ·refine ae.DB rfl rfl rfl rfl ⟨_,rfl,hw,?_⟩;have:=h1 (by omega)
    unfold pp dp;rw [if_pos (by omega),if_neg (by omega),if_pos (by omega)]
    rfl
   ·exact ae.again 2 ⟨rfl,rfl,trivial⟩ (by omega) ⟨by omega,hw,fun _=>h1 (by omega),fun _=>by omega⟩
  ·refine Wz ?_;refine SW.st (fO (r:=64) rfl rfl (by decide) (by decide) (by decide) (by decide) (by decide)) rfl ?_;have VW:=h1 (by omega);have nI:=h2 (by omega);repeat' (first|refine Wz ?_|refine SW.gp rfl rfl rfl (fun h => ?_) (fun h => ?_))
   all_goals refine ae.DB rfl rfl rfl rfl ⟨_,rfl,hw,?_⟩
   all_goals unfold pp dp
   all_goals rw [if_pos (by omega),if_neg (by omega),if_neg (by omega)]
   all_goals rfl
variable {most:Int}
def uI (b:Bool) : List Value:=[.bool b]
instance:iK uI 1:=⟨fun _=>rfl,fun _ u hu=>by simp [uI] at hu;subst hu;rfl⟩
def DY (A:Option Addr) (n c:Nat) (l:List Int) (x:Int) (w:World) (hl:Sl w 1 bt A n l) (hn:n<=9223372036854775807) :
 bI prog 151 [.slice A n c,.int .i64 x] w fun v _ => ∃ i:Int,v = .int .i64 i∧(0<=i↔x∈l):=by
 refine Wj func151 ntmps151 ?_;have hw:=Ext.refl w;have hA:=hl.base;have mx:=hl.len;refine Wz ?_
 refine CW.loop (fun k:Nat=>[(0,.slice A n c),(1,.int .i64 x),(7,.int .i64 (n:Int)),(8,.int .i64 (k:Int))]) (fun k w'=>k<=n∧Ext w w' ∧ ∀ (i:Nat) (h:i<l.length),i<k->l[i]≠x)
  (fun k=>n-k) 0 ⟨rfl,rfl,rfl,rfl,trivial⟩ ⟨by omega,hw,fun i h hi=>by omega⟩ ?_
 clear hw;rintro k w' ⟨hk,hw,hI⟩
 by_cases gC:k<n
 ·repeat' (first|refine Wz ?_|(refine CW.vd rfl (fun h => ?_) (fun h => ?_))|refine Wn hw (hl.one gC rfl) ?_)
  ·refine ae.bh rfl rfl ⟨_,rfl,hw,_,rfl,?_⟩;have hx:x∈l:=by rw [h];exact aet _
   simp [hx]
  ·refine ae.again (k+1) ⟨rfl,rfl,rfl,rfl,trivial⟩ (by omega) ⟨by omega,hw,fun i h' hi => ?_⟩;by_cases EX:i=k
   ·subst EX;exact fun e=>h e.symm
   ·exact hI i h' (by omega)
 ·refine Wz ?_;refine ae.bh rfl rfl ⟨_,rfl,hw,_,rfl,?_⟩
  have hx : ¬ x∈l:=fun hm=>by
   obtain ⟨i,hi,e⟩:=aeu hm;exact hI i hi (by omega) e
  simp [hx]
def iy (A:Option Addr) (n c:Nat) (l:List Int) (x:Int) (w:World) (hl:Sl w 1 bt A n l) (hn:n<=9223372036854775807) :
 bI prog 120 [.slice A n c,.int .i64 x] w fun v _=>v = .bool (decide (x∈l)):=by
 refine Wj func120 ntmps120 ?_;have hw:=Ext.refl w;refine Wz ?_;refine Wk (DY _ _ _ _ _ _ (hl.ext hw) hn) fun v w1 ah hv => ?_
 obtain ⟨i,rfl,hi⟩:=hv;have hw:=hw.trans ah;refine Wz ?_;refine ae.bh rfl rfl ⟨_,rfl,hw,?_⟩;congr 1
 rw [decide_eq_decide];exact hi
inductive gb (l:List Int) (most:Int) : Int->List Int->Option (List Int)->Prop where
 | done (out:List Int) : gb l most (-1) out (some out)
 | bad {x:Int} {out:List Int} (h:x ≠ -1) (hb:most<=out.length ∨ ¬ (0<=x∧x<l.length)∨x∈out) : gb l most x out none
 | step {k:Nat} {out:List Int} {r:Option (List Int)} (h1:out.length<most) (hk:k<l.length) (h3:(k:Int)∉out) (h:gb l most l[k] (out++[(k:Int)]) r) : gb l most k out r
def gb.dm {l:List Int} {x:Int} {out:List Int} {r s:Option (List Int)} (h:gb l most x out r) : gb l most x out s->r=s:=by
 induction h with
 | done out=>intro h';generalize hx:(-1:Int)=y at h';cases h' with
   | done=>rfl
   | bad h hb=>exact absurd hx.symm h
   | step h1 hk h3 h=>omega
 | @bad x out h hb=>intro h';cases h' with
   | done=>exact absurd rfl h
   | bad=>rfl
   | @step k _ _ h1 hk h3 h'=>rcases hb with h0|h0|h0<;>first|omega|exact absurd h0 h3
 | @step k out r h1 hk h3 h ih=>intro h';generalize hx:(k:Int)=y at h';cases h' with
   | done=>omega
   | bad h hb=>subst hx;rcases hb with h0|h0|h0<;>first|omega|exact absurd h0 h3
   | @step k' _ _ VW bP h3' h' =>
     have:k=k':=by omega
     subst this;exact ih h'
def wL (n:Nat) (out:List Int) : Nat:=((List.range n).filter fun i:Nat=>decide ((i:Int)∉out)).length
def Kl {n:Nat} {out:List Int} (hk:k<n) (h:(k:Int)∉out) : wL n (out++[(k:Int)])<wL n out:=by
 unfold wL
 have e:((List.range n).filter fun i:Nat=>decide ((i:Int)∉out++[(k:Int)]))=((List.range n).filter fun i:Nat=>decide ((i:Int)∉out)).filter fun i:Nat=>decide (i≠k):=by
  rw [List.filter_filter];apply List.filter_congr;intro i _;rw [<- Bool.decide_and,decide_eq_decide];simp only [List.mem_append,List.mem_singleton,not_or];constructor
  ·rintro ⟨h1,h2⟩;exact ⟨fun e=>h2 (by rw [e]),h1⟩
  ·rintro ⟨h1,h2⟩;exact ⟨h2,fun e=>h1 (by omega)⟩
 rw [e];refine List.length_filter_lt_length_iff_exists.2 ⟨k,?_,by simp⟩;simp [hk,h]
def Pn (lo:Nat) (r:Option (List Int)) (v:Value) (w:World) : Prop:=match r with
 | none=>v = .tuple #[.slice none 0 0,.int .i64 8]
 | some out => ∃ A c,v = .tuple #[.slice A out.length c,.int .i64 0]∧Own w lo 3 1 bt A out.length c out∧out.length<=17592186044416
def HA (n:Nat) : wL n []<=n:=aev (agc _ _) (by simp)
def HB (A:Option Addr) (n c:Nat) (l:List Int) (x most:Int) (w:World) (hl:Sl w 1 bt A n l) (hn:n*8<=140737488355328) :
 bI prog 149 [.slice A n c,.int .i64 x,.int .i64 most] w fun v w' => ∃ r,gb l most x [] r∧Pn w.heap.size r v w':=by
 refine Wj func149 ntmps149 ?_;have hw:=Ext.refl w;have kA:n<=2305843009213693952:=by omega
 have hA:=hl.base;have mx:=hl.len;refine Wz ?_
 refine CW.loop (fun s:List Int×Int×Option Addr×Nat=>[(0,.slice A n c),(1,.int .i64 s.2.1),(2,.int .i64 most),(8,.slice s.2.2.1 s.1.length s.2.2.2)])
  (fun s w'=>s.1.length+wL n s.1<=n∧(∀ r,gb l most s.2.1 s.1 r->gb l most x [] r)∧Ext w w'∧Own w' w.heap.size 3 1 bt s.2.2.1 s.1.length s.2.2.2 s.1) (fun s=>wL n s.1) ([],x,none,0) ⟨rfl,rfl,rfl,rfl,trivial⟩
  ⟨by simpa using HA n,fun _ h=>h,hw,Own.fC _ _ _ _ _ _⟩ ?_
 clear hw;rintro ⟨out,y,A1,c1⟩ w' ⟨hk,hF,hw,hO⟩
 simp only at hk hF hO ⊢;by_cases hy:y = -1
 ·refine Wz ?_;refine ae.dl rfl rfl rfl ⟨_,rfl,hw,some out,hF _ (by subst hy;exact .done _),A1,c1,rfl,hO,by omega⟩
 ·by_cases hm:most<=out.length
  ·refine Wz ?_;exact ae.dl rfl rfl rfl ⟨_,rfl,hw,none,hF _ (.bad hy (.inl hm)),rfl⟩
  ·by_cases hx : 0<=y∧y<n
   ·obtain ⟨k,rfl⟩:=aeE hx.1;have gC:k<n:=by omega
    by_cases kF:(k:Int)∈out
    ·repeat' (first|refine Wz ?_|(refine Wk (qW _ _ _ _ _ _ kA) ?_;intro v w1 ah hv;subst hv;obtain ⟨hw,hO⟩:=cT ah hw hO;clear ah))
     refine Wk (iy _ _ _ _ _ _ hO.sl (by omega)) fun v w1 ah hv => ?_
     rw [decide_eq_true kF] at hv;subst hv;have hw:=hw.trans ah;refine Wz ?_;exact ae.dl rfl rfl rfl ⟨_,rfl,hw,none,hF _ (.bad hy (.inr (.inr kF))),rfl⟩
    ·have hu:=Kl gC kF;repeat' (first|refine Wz ?_|(refine Wk (qW _ _ _ _ _ _ kA) ?_;intro v w1 ah hv;subst hv;obtain ⟨hw,hO⟩:=cT ah hw hO;clear ah))
     refine Wk (iy _ _ _ _ _ _ hO.sl (by omega)) fun v w1 ah hv => ?_
     rw [decide_eq_false kF] at hv;subst hv;obtain ⟨hw,hO⟩:=cT ah hw hO;refine Wz ?_;refine SW.dR rfl rfl rfl rfl rfl fun b w1 ah hb hB => ?_
     obtain ⟨hw,hO⟩:=cT ah hw hO;refine SW.append hO (aR.wv (enc:=bt) hB) hw.size rfl rfl rfl (by omega) (by omega) fun A2 c2 w2 lO hg => ?_
     have hw:=aD hw hg (aew _) hO.aW;repeat' (first|refine Wz ?_|refine Wn hw (hl.one gC rfl) ?_)
     refine ae.again (out++[(k:Int)],l[k]'(hl.lt gC),A2,c2) ⟨rfl,rfl,rfl,by simp;rfl,trivial⟩ hu ⟨by simp only [List.length_append,List.length_singleton];omega,fun r h=>hF r (.step (by omega) (hl.lt gC) kF h),hw,by simpa using lO⟩
   ·repeat' (first|refine Wz ?_|(refine Wk (qW _ _ _ _ _ _ kA) ?_;intro v w1 ah hv;subst hv;obtain ⟨hw,hO⟩:=cT ah hw hO;clear ah))
    exact ae.dl rfl rfl rfl ⟨_,rfl,hw,none,hF _ (.bad hy (.inr (.inl (by omega)))),rfl⟩
variable {a0 o0:Int} {l0:List Block}
def Fg (l:List Block) : Prop:=l.Pairwise nu
def re {y:Int} (h0 : 0<=o) (h4:o<4) (hm:y % pw o=0) : beside (beside y o) o=y∧(beside y o=y+pw o∨beside y o=y-pw o):=by
 unfold beside;have hp:=fQ h0 (show o<=4 by omega);generalize pw o=q at *
 rcases hp with ⟨e,rfl⟩|⟨e,rfl⟩|⟨e,rfl⟩|⟨e,rfl⟩|⟨e,rfl⟩<;>(refine ⟨?_,?_⟩<;>split<;>(try split)<;>omega)
def Fh (h:bW z) : Fg z.ai:=by
 have hu:=qa h;unfold Fg;rw [aeB];intro i j hi hj o6;by_cases e:j=i+1
 ·subst e;exact h.next i hj
 ·refine ⟨jV hu hj o6,fun hh => ?_⟩;obtain ⟨h1,h2,h3⟩:=hh;have g1:=jV hu (show i+1<z.ai.length by omega) (aga i);have g2:=jV hu hj (show i+1<j by omega);have b1:=(h.eV (i+1) (by omega)).1;have b2:=(h.eV j hj).1;have p1:=cM b1.1 b1.2.1;have p2:=(re b2.1 h1 b2.2.2.2.2).2;have p3:=cM b2.1 b2.2.1;rw [h2] at g1;omega
def Km (h0 : 0<=o) (h4:o<4) (hm:a % pw o=0) (t1 t2 t3:Int) (i:Nat) : qP ⟨min a (beside a o),o+1,t1⟩ i=(qP ⟨a,o,t2⟩ i || qP ⟨beside a o,o,t3⟩ i):=by
 have h1:=(re h0 h4 hm).2;have h2:=qY h0 (show o<=4 by omega);have h3:=cM h0 (show o<=4 by omega);rw [agh];simp only [qP,Bool.and_eq_true,Bool.or_eq_true,decide_eq_true_eq];rw [h2];omega
def Fi (h:l.any (BH a o)=true) (i:Nat) : eI l i=(eI (mS l a o) i || qP ⟨a,o,0⟩ i):=by
 rw [agh];simp only [Bool.or_eq_true,eI,List.any_eq_true,mS,List.mem_filter];constructor
 ·rintro ⟨x,hx,hi⟩
  by_cases e:BH a o x=true
  ·obtain ⟨e1,e2⟩:=kn.1 e;right;rw [<- hi,<- e1,<- e2];rfl
  ·left;exact ⟨x,⟨hx,by simp [e]⟩,hi⟩
 ·rintro (⟨x,⟨hx,_⟩,hi⟩|hi)
  ·exact ⟨x,hx,hi⟩
  ·obtain ⟨b,hb,hh⟩:=aeG.1 h;obtain ⟨e1,e2⟩:=kn.1 hh;exact ⟨b,hb,by rw [<- hi,<- e1,<- e2];rfl⟩
structure Joined (f t:Int) (l:List Block) (a o:Int) (l':List Block) (a' o':Int) : Prop where
 ok:EY f t l' a' o'
 nx:Fg l'
 Jh:∀ i,(eI l' i || qP ⟨a',o',0⟩ i)=(eI l i || qP ⟨a,o,0⟩ i)
 fin:o'<4->l'.any (BH (beside a' o') o')=false
def vy {t:Int} (h0 : 0<=f) : ∀ (k:Nat) {l:List Block} {a o:Int},4-o<k->EY f t l a o->Fg l->Joined f t l a o (jm k l a o).1 (jm k l a o).2.1 (jm k l a o).2.2
 | 0,l,a,o,hk,h,hn=>by have:=h.fit.2.1;omega
 | k+1,l,a,o,hk,h,hn=>by
   simp only [jm];split
   ·rename_i ho;split
    ·rename_i iU;have ih:=vy h0 k (by omega) (h.step h0 ho iU) (hn.sublist List.filter_sublist);refine ⟨ih.ok,ih.nx,fun i => ?_,ih.fin⟩;rw [ih.Jh i,Km h.fit.1 ho h.fit.2.2.2.2 0 0 0,Fi iU i];rw [Bool.or_assoc,Bool.or_comm (qP _ i) (qP _ i)]
    ·rename_i iU;exact ⟨h,hn,fun _=>rfl,fun _=>by simpa using iU⟩
   ·rename_i ho;exact ⟨h,hn,fun _=>rfl,fun h=>absurd h ho⟩
def Po {t:Int} (h:Joined f t l0 a0 o0 l a o) (u:Int) : Fg (aM l (bE l a) ⟨a,o,u⟩):=by
 have hk:=h.ok;have hp:=cM hk.fit.1 hk.fit.2.1
 have Xd:∀ x∈l.take (bE l a),nu x ⟨a,o,u⟩:=fun x hx=>by
  obtain ⟨j,hj,rfl⟩:=aeu hx;simp only [List.length_take] at hj;rw [ae3];have h1:=qb (l:=l) (a:=a) (k:=j) (by omega);have h2:=hk.ON _ (aet (show j<l.length by omega));refine ⟨by simp only;omega,fun hh => ?_⟩;obtain ⟨g1,g2,g3⟩:=hh;have:=h.fin g1
  rw [aeS] at this;exact this _ (aet (show j<l.length by omega)) (kn.2 ⟨g3,g2⟩)
 have Ul:∀ y∈l.drop (bE l a),nu ⟨a,o,u⟩ y:=fun y hy=>by
  obtain ⟨j,hj,rfl⟩:=aeu hy;simp only [List.length_drop] at hj;rw [afl];have e8:bE l a<l.length:=by omega
  have h1:=E0 e8;have hm:=aet (show bE l a+j<l.length by omega);have h2:=hk.ON _ hm;have hb:=(hk.eV _ hm).1;have hpj:=cM hb.1 hb.2.1
  have h3:(l[bE l a]).At<=(l[bE l a+j]'(by omega)).At:=by
   rcases aeL j with e|e
   ·subst e;simp
   ·have:=jV hk.sw (show bE l a+j<l.length by omega) (show bE l a<bE l a+j by omega)
    have DZ:=(hk.eV _ (aet e8)).1;have:=cM DZ.1 DZ.2.1
    omega
  refine ⟨by simp only;omega,fun hh => ?_⟩;obtain ⟨g1,g2,g3⟩:=hh;simp only at g2 g3;have e:=(re hb.1 g1 hb.2.2.2.2).1;rw [<- g3,<- g2] at e;have:=h.fin (by omega)
  rw [aeS] at this;exact this _ hm (kn.2 ⟨e.symm,g2.symm⟩)
 have fc:(l.take (bE l a)++l.drop (bE l a)).Pairwise nu:=by rw [aex];exact h.nx
 rw [aeT] at fc;unfold Fg aM;rw [aey,aeT];refine ⟨fc.1,?_,fun x hx y hy => ?_⟩
 ·rw [aeO,afq];exact ⟨Ul,fc.2.1⟩
 ·rw [aeO,afx] at hy;rcases hy with rfl|hy
  ·exact Xd x hx
  ·exact fc.2.2 x hx y hy
def Kn (l:List Block) (i:Nat) (b:Block) (k:Nat) : eI (aM l i b) k=(eI l k || qP b k):=by
 have:eI l k=(eI (l.take i) k || eI (l.drop i) k):=by
  unfold eI;rw [<- List.any_append,aex]
 rw [this];simp only [eI,aM,List.any_append,List.any_cons,List.any_nil,Bool.or_false];cases (l.take i).any fun b=>qP b k<;>cases qP b k<;>simp
def wM {b x:Block} (h:x∈aM l i b) : x=b∨x∈l:=by
 unfold aM at h;rw [aeC,aeC] at h;rcases h with (h|h)|h
 ·exact .inr (aeX h)
 ·exact .inl (by simpa using h)
 ·exact .inr (afa h)
structure Kept (z z':aj) (a o:Int) : Prop where
 may:bW z'
 from_:z'.aT=z.aT
 pJ:z'.To=z.To
 types:z'.Types=z.Types
 Jh:∀ i,eI z'.ai i=(eI z.ai i || qP ⟨a,o,0⟩ i)
def zW (hz:bW z) (hf:ky z.aT z.To a o) (ho:kz z.ai a o=false) : (ga z a o).1=0∧Kept z (ga z a o).2 a o:=by
 have h0 : 0<=z.aT:=hz.ok.1
 have hJ:=zQ (f:=0) (t:=0) hz hf ho;have hj:=vy h0 5 (by have:=hf.1;omega) hJ (Fh hz);obtain ⟨⟨l,a',o'⟩,hq⟩ : ∃ u,jm 5 z.ai a o=u:=⟨_,rfl⟩;rw [hq] at hj;simp only at hj;obtain ⟨t,ht⟩ : ∃ t,z.Types.getD ((a'-z.aT) / 8).toNat 0=t:=⟨_,rfl⟩;rw [yR (yM hz) hf ho hq ht]
 have Xe:lf t:=by
  subst ht;rw [afh];cases e:z.Types[((a'-z.aT) / 8).toNat]? with
  | none=>exact ⟨by decide,by decide⟩
  | some v =>
    obtain ⟨h,rfl⟩:=aeQ.1 e;exact hz.types _ (aet h)
 have hn:=Po hj t;refine ⟨rfl,⟨hz.ok,hz.len,hz.types,fun i hi => ?_,fun i hi => ?_⟩,rfl,rfl,rfl,fun i => ?_⟩
 ·rcases wM (aet hi) with e|e
  ·simp only at e ⊢;rw [e];exact ⟨hj.ok.fit,Xe⟩
  ·exact hj.ok.eV _ e
 ·unfold Fg at hn;rw [aeB] at hn;exact hn i (i+1) (by simp only at hi;omega) hi (aga i)
 ·rw [Kn,<- hj.Jh i];rfl
variable {bs:List Block} {z0 z1:aj}
noncomputable def gJ (s:aj×aj) (b:Block) : aj×aj:=if b.At<s.1.To then ((ga s.1 b.At b.Order).2,s.2) else (s.1,(ga s.2 b.At b.Order).2)
noncomputable def bX (s:aj×aj) (l:List Block) : aj×aj:=l.foldl gJ s
def nO (s:aj×aj) (l:List Block) (k:Nat) (h:k<l.length) : bX s (l.take (k+1))=gJ (bX s (l.take k)) l[k]:=by
 unfold bX;rw [aeA h,agv];rfl
def oC (s:aj×aj) (l m:List Block) : bX s (l++m)=bX (bX s l) m:=agv
structure rf (s:aj×aj) (bs:List Block) : Prop where
 mr:bW s.1
 lQ:bW s.2
 qk:s.1.aT=0
 EK:s.1.To=s.2.aT
 Ko:s.2.To=256
 Jh:∀ i,(eI s.1.ai i || eI s.2.ai i)=eI bs i
def jq (l m:List Block) (i:Nat) : eI (l++m) i=(eI l i || eI m i):=by simp [eI]
def lz (h:bW z) : ∀ b∈z.ai,0<=b.At∧1<=pw b.Order:=fun b hb=>by
 obtain ⟨i,hi,rfl⟩:=aeu hb;have h1:=(h.eV i hi).1;have h2:=h.ok.1;have:=cM h1.1 h1.2.1
 obtain ⟨_,_,h3,_,_⟩:=h1;omega
structure qo (bs:List Block) (b:Block) : Prop where
 ord : 0<=b.Order∧b.Order<=4
 at_ : 0<=b.At∧b.At<256
 al:b.At % pw b.Order=0
 fits:xH bs b
 D0:∀ x∈bs,0<=x.At∧1<=pw x.Order
def rf.free {s:aj×aj} (h:rf s bs) {b:Block} (hb:qo bs b) : kz s.1.ai b.At b.Order=false∧kz s.2.ai b.At b.Order=false:=by
 have hp:=cM hb.ord.1 hb.ord.2;have hm:=(tr hb.D0 hp.1).2 hb.fits;obtain ⟨m1,m2,m3,m4⟩:=hm
 have key:∀ l:List Block,(∀ x∈l,0<=x.At∧1<=pw x.Order)->(∀ i,eI l i=true->eI bs i=true)->kz l b.At b.Order=false:=fun l hl hc =>
  ((tr hl hp.1).1 ⟨m1,m2,m3,fun i h1 h2=>by
   cases e:eI l i with
   | false=>rfl
   | true=>have:=hc i e;rw [m4 i h1 h2] at this;cases this⟩).2.2
 exact ⟨key _ (lz h.mr) fun i hi=>by rw [<- h.Jh i,hi];rfl,key _ (lz h.lQ) fun i hi=>by rw [<- h.Jh i,hi];simp⟩
def rf.low {s:aj×aj} (h:rf s bs) {b:Block} (hb:qo bs b) (hl:b.At<s.1.To) : ky s.1.aT s.1.To b.At b.Order:=⟨hb.ord.1,hb.ord.2,by rw [h.qk];exact hb.at_.1,hl,hb.al⟩
def rf.wN {s:aj×aj} (h:rf s bs) {b:Block} (hb:qo bs b) (hl : ¬ b.At<s.1.To) : ky s.2.aT s.2.To b.At b.Order:=⟨hb.ord.1,hb.ord.2,by rw [<- h.EK];omega,by rw [h.Ko];exact hb.at_.2,hb.al⟩
def zX (b:Block) (i:Nat) : eI [b] i=qP b i:=by simp [eI]
def rf.back {s:aj×aj} (h:rf s bs) {b:Block} (hb:qo bs b) : rf (gJ s b) (bs++[b])∧(gJ s b).1.To=s.1.To:=by
 obtain ⟨o0,o1⟩:=h.free hb;unfold gJ;by_cases hl:b.At<s.1.To
 ·rw [if_pos hl];obtain ⟨_,k⟩:=zW h.mr (h.low hb hl) o0;refine ⟨⟨k.may,h.lQ,by rw [<- h.qk];exact k.from_,by rw [<- h.EK];exact k.pJ,h.Ko,fun i => ?_⟩,k.pJ⟩;rw [jq,zX,<- h.Jh i];simp only;rw [k.Jh i];have:qP ⟨b.At,b.Order,0⟩ i=qP b i:=rfl
  rw [this];cases eI s.1.ai i<;>cases eI s.2.ai i<;>cases qP b i<;>rfl
 ·rw [if_neg hl];obtain ⟨_,k⟩:=zW h.lQ (h.wN hb hl) o1;refine ⟨⟨h.mr,k.may,h.qk,by simp only;rw [k.from_];exact h.EK,by simp only;rw [k.pJ];exact h.Ko,fun i => ?_⟩,rfl⟩;rw [jq,zX,<- h.Jh i];simp only;rw [k.Jh i];have:qP ⟨b.At,b.Order,0⟩ i=qP b i:=rfl
  rw [this,Bool.or_assoc]
def pq:∀ {l s t:List Block},bB (some s) l=some t->t=s++l
 | [],s,t,h=>by simp [bB] at h;simp [h]
 | b::l,s,t,h=>by
   have e:bB (some s) (b::l)=bB (mq (some s) b) l:=rfl
   rw [e] at h;cases e2:mq (some s) b with
   | none=>rw [e2,jn] at h;cases h
   | some u =>
     rw [e2] at h;obtain ⟨cs,kK,_,rfl⟩:=qg e2;cases kK
     rw [pq h];simp
def rh {m:List Block} {b:Block} (h:(bB (some []) (l++b::m)).isSome=true) : xH l b:=by
 have h1:(bB (some []) (l++[b])).isSome=true:=kc (m:=m) (by simpa using h)
 rw [dx] at h1;cases e:bB (some []) l with
 | none=>rw [e,jn] at h1;cases h1
 | some t =>
   have:=pq e
   rw [afn] at this;subst this;rw [e] at h1;cases e2:bB (some t) [b] with
   | none=>rw [e2] at h1;cases h1
   | some u =>
     have:mq (some t) b=some u:=e2
     obtain ⟨cs,kK,hf,_⟩:=qg this;cases kK
     exact hf
def Fj (h:(bB (some []) l).isSome=true) (hb:∀ b∈l,1<=pw b.Order) : ∀ x∈l,0<=x.At∧1<=pw x.Order:=by
 have hg:=lx (l:=l) Cs hb;obtain ⟨t,ht⟩:=aeZ.1 h;have e:=pq ht;rw [afn] at e;subst e;exact hg _ ht
structure oD (h:Heap) (z0 z1:aj) : Prop where
 cq:h.bl=[z0,z1]
 mr:bW z0
 lQ:bW z1
 qk:z0.aT=0
 EK:z0.To=z1.aT
 Ko:z1.To=256
 all:(bB (some []) (z0.ai++z1.ai++a9 h.au)).isSome=true
def Fk {h:Heap} (hm:bK h) : ∃ z0 z1,oD h z0 z1:=by
 obtain ⟨z0,z1,h1,h2,h3,h4,h5,h6,_,h8⟩:=hm.cq;exact ⟨z0,z1,h1,h2,h3,h4,h5,h6,kc h8⟩
def zY {l:List aS}:∀ b∈a9 l,b.Order=0:=fun b hb=>by
 unfold a9 at hb;obtain ⟨x,_,hx⟩:=aeK.1 hb;obtain ⟨p,_,rfl⟩:=aeH.1 hx
 rfl
def oD.start {h:Heap} (d:oD h z0 z1) : rf (z0,z1) (z0.ai++z1.ai):=⟨d.mr,d.lQ,d.qk,d.EK,d.Ko,fun i=>by rw [jq]⟩
def oD.pw {h:Heap} (d:oD h z0 z1) : ∀ b∈z0.ai++z1.ai++a9 h.au,1<=pw b.Order:=fun b hb=>by
 rcases aeC.1 hb with hb|hb
 ·rcases aeC.1 hb with hb|hb
  ·exact (lz d.mr b hb).2
  ·exact (lz d.lQ b hb).2
 ·rw [zY b hb,jv];omega
def oD.next {h:Heap} (d:oD h z0 z1) (hk:k<(a9 h.au).length) : qo (z0.ai++z1.ai++(a9 h.au).take k) (a9 h.au)[k]:=by
 have fc:=d.all;have e:z0.ai++z1.ai++a9 h.au=(z0.ai++z1.ai++(a9 h.au).take k)++(a9 h.au)[k]::(a9 h.au).drop (k+1):=by simp
 rw [e] at fc;have hf:=rh fc;have ho:=zY _ (aet hk)
 have hg:=Fj (kc fc) (fun b hb=>d.pw b (by
  rcases aeC.1 hb with hb|hb
  ·exact aeU _ hb
  ·exact afg _ (aeX hb)))
 have hp:=jv;refine ⟨by rw [ho];decide,⟨hf.1,?_⟩,by rw [ho,hp];omega,hf,hg⟩;have:=hf.2.1
 rw [ho,hp] at this;omega
def oD.inv {h:Heap} (d:oD h z0 z1) : ∀ k,k<=(a9 h.au).length->rf (bX (z0,z1) ((a9 h.au).take k)) (z0.ai++z1.ai++(a9 h.au).take k)
 | 0,_=>by simpa [bX] using d.start
 | k+1,hk=>by
   have ih:=(d.inv k (by omega)).back (d.next (show k<_ by omega));rw [nO _ _ _ (by omega),aeA (by omega),<- aey];exact ih.1
def kG (l:List aS) (i:Nat) : Nat:=(a9 (l.take i)).length
def zZ {l:List aS} (hi:i<l.length) : kG l (i+1)=kG l i+l[i].av.length:=by
 unfold kG;rw [sC _ _ hi];simp
def HC (l:List aS) (i:Nat) : a9 l=a9 (l.take i)++a9 (l.drop i):=by
 unfold a9;rw [<- aeM,aex]
def yU {l:List aS} (hi:i<l.length) (hj:j<l[i].av.length) : ∃ h:kG l i+j<(a9 l).length,(a9 l)[kG l i+j]=ct (l[i].av[j]):=by
 have e:=HC l i;have e2:l.drop i=l[i]::l.drop (i+1):=by simp
 have e3:a9 (l.drop i)=l[i].av.map ct++a9 (l.drop (i+1)):=by rw [e2];rfl
 have e8:kG l i+j<(a9 l).length:=by rw [e,e3];simp [kG];omega
 refine ⟨e8,?_⟩
 have:(a9 l)[kG l i+j]?=some (ct (l[i].av[j])):=by
  rw [e,afd (by unfold kG;omega)];have:kG l i+j-(a9 (l.take i)).length=j:=by unfold kG;omega
  rw [this,e3,ae8 (by simpa using hj)];simp [hj]
 rw [aez e8] at this;exact Option.some.inj this
def D4 (l:List aS) : kG l l.length=(a9 l).length:=by simp [kG]
noncomputable def mT (h:Heap) (z0 z1:aj) : Heap:=⟨[(bX (z0,z1) (a9 h.au)).1,(bX (z0,z1) (a9 h.au)).2],h.dP,h.bJ,[],h.Live⟩
def jr (a b:aS) : Prop:=a.gl=b.gl∧a.aj=b.aj∧a.Ty=b.Ty
instance (a b:aS) : Decidable (jr a b):=inferInstanceAs (Decidable (_∧_))
def Fl (L:List aS) : Prop:=L.Pairwise dg
def xK {a b c:aS} (h1:dg a b) (h2:dg b c) : dg a c:=by unfold dg at *;omega
def CA (a b:aS) : dg a b∨jr a b∨dg b a:=by unfold dg jr;omega
def Kp {a b:aS} (h:dg a b) : ¬ jr a b ∧ ¬ jr b a ∧ ¬ dg b a:=by unfold dg jr at *;omega
def D5 {c t:Int} (h:nM c t L) : Fl L:=by
 have key:∀ (d i:Nat) (hj:i+d+1<L.length),dg (L[i]'(by omega)) L[i+d+1]:=by
  intro d;induction d with
  | zero=>intro i hj;exact h.next i hj
  | succ d ih=>intro i hj;exact xK (ih i (by omega)) (h.next (i+d+1) (by omega))
 unfold Fl;rw [aeB];intro i j hi hj o6;have:=key (j-i-1) i (by omega)
 have e:i+(j-i-1)+1=j:=by omega
 simp only [e] at this;exact this
def Fl.get (h:Fl L) (hj:j<L.length) (o6:i<j) : dg (L[i]'(af3 o6 hj)) L[j]:=by
 unfold Fl at h;rw [aeB] at h;exact h i j (by omega) hj o6
def br (L:List aS) (x:aS) : Nat:=L.findIdx fun l => !decide (dg l x)
def nP (L:List aS) (x:aS) : br L x<=L.length:=List.findIdx_le_length
def z6 {x:aS} (hk:k<br L x) : dg (L[k]'(afp hk (nP L x))) x:=by
 have:=List.not_of_lt_findIdx hk
 simpa using this
def Pp {x:aS} (h:br L x<L.length) : ¬ dg (L[br L x]) x:=by
 have:=List.findIdx_getElem (w:=h)
 exact of_decide_eq_false (by rw [agw] at this;exact this)
def wO {x:aS} (hi:i<=L.length) (h1:∀ (k:Nat) (h:k<L.length),k<i->dg L[k] x) (h2:∀ h:i<L.length,¬ dg L[i] x) : br L x=i:=by
 unfold br;by_cases h:i<L.length
 ·exact (List.findIdx_eq h).2 ⟨by simpa using h2 h,fun j hj=>by simpa using h1 j (by omega) hj⟩
 ·have e:i=L.length:=by omega
  subst e;rw [List.findIdx_eq_length];intro y hy;obtain ⟨k,hk,rfl⟩:=aeu hy;simpa using h1 k hk hk
def dz (L:List aS) (x:aS) : Bool:=if h:br L x<L.length then decide (jr L[br L x] x) else false
def ko {x:aS} (h:dz L x=true) : ∃ hk:br L x<L.length,jr L[br L x] x:=by
 unfold dz at h;split at h
 ·rename_i hk;exact ⟨hk,of_decide_eq_true h⟩
 ·cases h
def Pq {x:aS} (h:dz L x=false) (hk:br L x<L.length) : dg x L[br L x]:=by
 unfold dz at h;rw [dif_pos hk] at h;have h1:=of_decide_eq_false h;have h2:=Pp hk;rcases CA L[br L x] x with e|e|e
 ·exact absurd e h2
 ·exact absurd e h1
 ·exact e
def kR {x y:aS} (h:jr x y) : br L x=br L y∧dz L x=dz L y:=by
 have e:(fun l => !decide (dg l x))=(fun l:aS => !decide (dg l y)):=by
  funext l
  have:dg l x↔dg l y:=by unfold dg jr at *;omega
  simp [this]
 have e1:br L x=br L y:=by unfold br;rw [e]
 refine ⟨e1,?_⟩;unfold dz;simp only [e1];split
 ·have:jr L[br L y] x↔jr L[br L y] y:=by unfold jr at *;omega
  simp [this]
 ·rfl
def jk (L:List aS) (x:aS) : List aS:=if dz L x then L.set (br L x) x else aM L (br L x) x
def sG {x:aS} (h:dz L x=true) : jk L x=L.set (br L x) x:=by rw [jk,if_pos h]
def sH {x:aS} (h:dz L x=false) : jk L x=aM L (br L x) x:=by rw [jk,if_neg (by simp [h])]
def dh (L:List aS) (x:aS) : List Int:=if dz L x then (L.getD (br L x) x).av else []
def je {x:aS} (h:dz L x=true) (hk:br L x<L.length) : dh L x=L[br L x].av:=by
 rw [dh,if_pos h,afh,aez hk];rfl
def og {x:aS} (h:dz L x=false) : dh L x=[]:=by rw [dh,if_neg (by simp [h])]
def di (l:List α) (h:i<=l.length) (x : α) : (aM l i x).length=l.length+1:=by simp [aM];omega
def vA {l:List α} (h:i<=l.length) {x : α} (hk:k<i) : (aM l i x)[k]?=l[k]?:=by
 unfold aM;rw [aey,ae8 (by simp;omega),af4 hk]
def lR {l:List α} (h:i<=l.length) {x : α}:(aM l i x)[i]?=some x:=by
 unfold aM;rw [aey,afd (by simp;omega)];have:i-(l.take i).length=0:=by simp;omega
 rw [this];rfl
def z7 {l:List α} (h:i<=l.length) {x : α} (hk:i<=k) : (aM l i x)[k+1]?=l[k]?:=by
 unfold aM;rw [aey,afd (by simp;omega)];have:k+1-(l.take i).length=(k-i)+1:=by simp;omega
 rw [this,aeO,List.getElem?_cons_succ,af2];congr 1
 omega
def wP {l:List α} (h:i<=l.length) (x y : α) : (aM l i x).set i y=aM l i y:=by
 unfold aM;rw [aey,aey,afu _ _ (by simp;omega)];have:i-(l.take i).length=0:=by simp;omega
 rw [this];rfl
def z8 {x:aS}:(jk L x)[br L x]?=some x:=by
 cases h:dz L x
 ·rw [sH h];exact lR (nP L x)
 ·obtain ⟨hk,_⟩:=ko h;rw [sG h,afA hk]
def Fm {x:aS}:br (jk L x) x=br L x∧dz (jk L x) x=true:=by
 have hg:=z8 (L:=L) (x:=x);obtain ⟨hk,hx⟩:=aeQ.1 hg
 have e:br (jk L x) x=br L x:=by
  refine wO (by omega) (fun j hj my => ?_) (fun _ => ?_)
  ·have h0:=z6 (L:=L) (x:=x) my
   have e1:(jk L x)[j]?=L[j]?:=by
    cases h:dz L x
    ·rw [sH h];exact vA (nP L x) my
    ·rw [sG h,afy (by omega)]
   rw [aez hj,aez (afp my (nP L x))] at e1;injection e1 with e1
   rw [e1];exact h0
  ·rw [hx];unfold dg;omega
 refine ⟨e,?_⟩;unfold dz;simp only [e,dif_pos hk,hx];exact decide_eq_true ⟨rfl,rfl,rfl⟩
def Fo {x y:aS} (h:jr x y) : (jk L x).set (br L x) y=jk L y:=by
 obtain ⟨e1,e2⟩:=kR (L:=L) h;cases hh:dz L x
 ·rw [sH hh,sH (by rw [<- e2];exact hh),wP (nP L x),e1]
 ·rw [sG hh,sG (by rw [<- e2];exact hh),afY,e1]
variable {N:Nat} {r0 r1:eG}
def Marks (w:World) (b N:Nat) : Option (List Block)->Prop
 | some bs=>aR w b 187 (jd (eI bs) N false)
 | none => ∃ p,aR w b 187 (jd p N true)
def Marks.ext {s:Option (List Block)} (h:Marks w b N s) (hx:Ext w w') : Marks w' b N s:=by
 cases s with
 | none=>obtain ⟨p,h⟩:=h;exact ⟨p,aR.ext h hx⟩
 | some bs=>exact aR.ext h hx
def Marks.bad {s:Option (List Block)} (h:Marks w b N s) (hN:N=256) : w.cell? ((⟨b,0,none⟩ : Addr).add 256)=some (.bool s.isNone):=by
 subst hN;cases s with
 | none=>obtain ⟨p,h⟩:=h;exact aR.cell h (zS _ _ _)
 | some bs=>exact aR.cell h (zS _ _ _)
def Marks.gr {s:Option (List Block)} (h:Marks w b N s) (hg:w.grownBy w' (some b)) : se w w' 187:=by
 cases s with
 | none=>obtain ⟨p,h⟩:=h;exact aR.gr h hg
 | some bs=>exact aR.gr h hg
def wQ (b:Nat) (s:Option (List Block)) (x:Block) (N:Nat) (hN:N=256) (w:World) (hM:Marks w b N s) (hs:sB s) (hp : 1<=pw x.Order∧pw x.Order<=16) :
 iO prog 102 [.pointer (some ⟨b,0,none⟩),.int .i64 x.At,.int .i64 (pw x.Order)] w fun v w'=>Marks w' b N (mq s x)∧w.grownBy w' (some b):=by
 cases s with
 | none =>
   obtain ⟨p,hB⟩:=hM;refine ⟨Calls.mono (E6 b p true N hN x.At (pw x.Order) w hB ⟨by omega,hp.2⟩).out ?_⟩;rintro e w' ⟨v,he,p',Kb,wA,hg,h⟩
   refine ⟨v,he,?_,hg⟩;have:Kb=true:=by rcases h with ⟨_,h,_⟩|⟨_,h⟩<;>exact h
   subst this;exact ⟨p',wA⟩
 | some bs =>
   refine ⟨Calls.mono (E6 b (eI bs) false N hN x.At (pw x.Order) w hM ⟨by omega,hp.2⟩).out ?_⟩;rintro e w' ⟨v,he,p',Kb,wA,hg,h⟩
   refine ⟨v,he,?_,hg⟩;have MB:=tr (hs bs rfl) (b:=x) hp.1;rcases h with ⟨h1,rfl,rfl⟩|⟨h1,rfl⟩
   ·have:mq (some bs) x=some (bs++[x]):=by simp [mq,MB.1 h1]
    rw [this];show aR w' b _ _
    rw [<- ra (fun i _=>MC bs x i)];exact wA
   ·have:mq (some bs) x=none:=by
     simp only [mq];rw [if_neg (fun hf=>h1 (MB.2 hf))]
    rw [this];exact ⟨p',wA⟩
def wR (r s:dw) (a b:aS) (w:World) (ha:r.gl=a.gl∧r.aj=a.aj∧r.Ty=a.Ty) (hb:s.gl=b.gl∧s.aj=b.aj∧s.Ty=b.Ty) :
 bI prog 139 [.agg (cm r).toArray,.agg (cm s).toArray] w fun v _=>v = .bool (decide (dg a b)):=by
 refine Wj func139 ntmps139 ?_;refine Ww fun b2 w1 hw eW aq => ?_;refine SW.box rfl rfl fun b3 w2 bq cg ao => ?_
 (obtain ⟨hw,aq⟩:=cT bq hw aq);obtain ⟨a1,a2,a3⟩:=ha;obtain ⟨b1,b2',b3'⟩:=hb;have key:dg a b↔(r.gl<s.gl∨(r.gl=s.gl∧(r.aj<s.aj∨(r.aj=s.aj∧r.Ty<s.Ty)))):=by unfold dg;rw [a1,a2,a3,b1,b2',b3']
 by_cases h1:r.gl<s.gl
 ·rw [decide_eq_true (key.2 (by omega))];refine Wz ?_;all_goals first|(exfalso;omega)|exact ae.bh rfl rfl ⟨_,rfl,hw,by simp [h1]⟩
 ·by_cases h2:r.gl=s.gl
  ·by_cases h3:r.aj<s.aj
   ·rw [decide_eq_true (key.2 (by omega))];refine Wz ?_;all_goals first|(exfalso;omega)|exact ae.bh rfl rfl ⟨_,rfl,hw,by simp [h3]⟩
   ·by_cases h4:r.aj=s.aj
    ·by_cases h5:r.Ty<s.Ty
     ·rw [decide_eq_true (key.2 (by omega))];refine Wz ?_;all_goals first|(exfalso;omega)|exact ae.bh rfl rfl ⟨_,rfl,hw,by simp [h5]⟩
     ·rw [decide_eq_false (fun h=>by have:=key.1 h;omega)];refine Wz ?_;all_goals first|(exfalso;omega)|exact ae.bh rfl rfl ⟨_,rfl,hw,by simp [h5]⟩
    ·rw [decide_eq_false (fun h=>by have:=key.1 h;omega)];refine Wz ?_;all_goals first|(exfalso;omega)|exact ae.bh rfl rfl ⟨_,rfl,hw,by simp [h3]⟩
  ·rw [decide_eq_false (fun h=>by have:=key.1 h;omega)];refine Wz ?_;all_goals first|(exfalso;omega)|exact ae.bh rfl rfl ⟨_,rfl,hw,by simp [h1]⟩
structure BX (w:World) (r:jH) (h:Heap) (r0 r1:eG) (z0 z1:aj) : Prop where
 rd:Jb w r h
 eq:h.bl=[z0,z1]
 n:r.bl.n=2
 row:Sl w 4 dq r.bl.A r.bl.n [r0,r1]
 z0:Hb w r0 z0
 z1:Hb w r1 z1
def BX.ext {r:jH} {h:Heap} (a:BX w r h r0 r1 z0 z1) (hx:Ext w w') : BX w' r h r0 r1 z0 z1 :=
 ⟨a.rd.ext hx,a.eq,a.n,a.row.ext hx,a.z0.ext hx,a.z1.ext hx⟩
def BX.c0 {r:jH} {h:Heap} (a:BX w r h r0 r1 z0 z1) (j:Nat) (u:Value) (hu:(dq r0)[j]?=some u) : w.cell? (((r.bl.A.getD default).add (0*4)).add j)=some u:=a.row.cell 0 (by simp) j u hu
def BX.c1 {r:jH} {h:Heap} (a:BX w r h r0 r1 z0 z1) (j:Nat) (u:Value) (hu:(dq r1)[j]?=some u) : w.cell? (((r.bl.A.getD default).add (1*4)).add j)=some u:=a.row.cell 1 (by simp) j u hu
def z9 {l:List α} (h:l.length=2) : ∃ a b,l=[a,b]:=by
 match l,h with
 | [a,b],_=>exact ⟨a,b,rfl⟩
def Jb.two {r:jH} {h:Heap} (a:Jb w r h) (hl:h.bl.length=2) : ∃ r0 r1 z0 z1,BX w r h r0 r1 z0 z1:=by
 obtain ⟨zs,hz⟩:=a.cq;obtain ⟨z0,z1,e1⟩:=z9 hl;have l0:=hz.each.len;obtain ⟨r0,r1,e2⟩:=z9 (show zs.length=2 by omega);subst e2;have l1:=hz.row.len;have h0:=hz.each.get 0 (by simp) (by omega);have h1:=hz.each.get 1 (by simp) (by omega);simp only [e1] at h0 h1;exact ⟨r0,r1,z0,z1,a,e1,by simpa using l1.symm,hz.row,h0,h1⟩
def Kq (r:jH) (h:Heap) (r0 r1:eG) (z0 z1:aj) (x:Int) (w:World) (hr:BX w r h r0 r1 z0 z1) :
 bI prog 91 [.agg (dD r).toArray,.int .i64 x] w fun v _=>v = .int .i64 (if x<z0.To then 0 else 1):=by
 refine Wj func91 ntmps91 ?_;refine Ww fun b2 w1 hw eW aq => ?_;have hn:=hr.n;have hA:=hr.row.base;have e1:=hr.z0.pJ;by_cases hx:x<z0.To
 ·rw [if_pos hx];repeat' (first|refine Wz ?_|refine SW.st (cn (0) rfl rfl (by assumption) (by omega) (by omega)) rfl ?_|refine Wn hw (hr.c0 1 _ rfl) ?_)
  exact ae.bh rfl rfl ⟨_,rfl,hw,rfl⟩
 ·rw [if_neg hx];repeat' (first|refine Wz ?_|refine SW.st (cn (0) rfl rfl (by assumption) (by omega) (by omega)) rfl ?_|refine Wn hw (hr.c0 1 _ rfl) ?_)
  exact ae.bh rfl rfl ⟨_,rfl,hw,rfl⟩
variable {cpus:Int}
structure GB (w w':World) (b:Nat) : Prop where
 g:w.grownBy w' (some b)
def GB.refl (w:World) (b:Nat) : GB w w b:=⟨World.grownBy.refl _ _⟩
def GB.ext (h:GB w w1 b) (hx:Ext w1 w2) : GB w w2 b:=⟨bC h.g (hx.gr (some b)) (.inl rfl)⟩
def GB.step (h:GB w w1 b) (hg:w1.grownBy w2 (some b)) : GB w w2 b:=⟨bC h.g hg (.inl rfl)⟩
def Kr (b:Nat) (s:Option (List Block)) (p:Int) (N:Nat) (hN:N=256) (w:World) (hM:Marks w b N s) (hs:sB s) :
 iO prog 102 [.pointer (some ⟨b,0,none⟩),.int .i64 p,.int .i64 1] w fun v w'=>Marks w' b N (mq s (ct p))∧w.grownBy w' (some b):=by
 have h:=wQ b s (ct p) N hN w hM hs (by simp [ct,jv]);simp only [ct,jv] at h ⊢;exact h
def MR (w wE:World) (b N:Nat) (s:Option (List Block)) (h:Heap) (to:Int) (v:Value) (w':World) : Prop :=
 Ext w w'∧wE.grownBy w' (some b)∧((v = .bool true∧nM h.bJ to h.au∧Marks w' b N (bB s (a9 h.au)))∨(v = .bool false ∧ ¬ (nM h.bJ to h.au∧(bB s (a9 h.au)).isSome=true)))
structure Fp (cpus to:Int) (ls:List aS) (k:Nat) : Prop where
 head:∀ (i:Nat) (h:i<ls.length),i<k->lL cpus ls[i]
 next:∀ (i:Nat) (h:i+1<ls.length),i+1<k->dg ls[i] ls[i+1]
 kE:∀ (i:Nat) (h:i<ls.length),i<k -> ∀ p∈(ls[i]).av,(p<to↔(ls[i]).aj=0)
def Fp.nil (cpus to:Int) (ls:List aS) : Fp cpus to ls 0:=⟨fun i _ h=>by omega,fun i _ h=>by omega,fun i _ h=>by omega⟩
def Fp.all {to:Int} {ls:List aS} (h:Fp cpus to ls k) (hk:ls.length<=k) : nM cpus to ls:=⟨fun i hi=>h.head i hi (by omega),fun i hi=>h.next i hi (by omega),fun i hi=>h.kE i hi (by omega)⟩
def Fp.snoc {to:Int} {ls:List aS} (h:Fp cpus to ls k) (hk:k<ls.length) (h1:lL cpus ls[k]) (h2:∀ (h : 0<k),dg ls[k-1] ls[k]) (h3:∀ p∈(ls[k]).av,(p<to↔(ls[k]).aj=0)) : Fp cpus to ls (k+1):=by
 refine ⟨fun i hi EX => ?_,fun i hi EX => ?_,fun i hi EX => ?_⟩
 ·by_cases e:i=k
  ·subst e;exact h1
  ·exact h.head i hi (by omega)
 ·by_cases e:i+1=k
  ·subst e;exact h2 (by omega)
  ·exact h.next i hi (by omega)
 ·by_cases e:i=k
  ·subst e;exact h3
  ·exact h.kE i hi (by omega)
def Fq {s:Option (List Block)} {ls:List aS} (hk:k<ls.length) (hj:j<=(ls[k]).av.length) (h:bB (bB s (a9 (ls.take k))) (((ls[k]).av.take j).map ct)=none) : bB s (a9 ls)=none:=by
 rw [<- dx] at h
 have e:a9 ls=(a9 (ls.take k)++((ls[k]).av.take j).map ct)++(((ls[k]).av.drop j).map ct++a9 (ls.drop (k+1))):=by
  have e1:ls=ls.take (k+1)++ls.drop (k+1):=by simp
  have e2:((ls[k]).av.take j).map ct++((ls[k]).av.drop j).map ct=(ls[k]).av.map ct:=by rw [<- aeV,aex]
  have e3:a9 ls=a9 (ls.take (k+1))++a9 (ls.drop (k+1)):=by unfold a9;rw [<- aeM,<- e1]
  rw [e3,sC _ _ hk,<- e2];simp only [List.append_assoc]
 rw [e,dx,h,jn]
set_option maxHeartbeats 8000000 in
def Ks (r:jH) (h:Heap) (r0 r1:eG) (z0 z1:aj) (b N:Nat) (hN:N=256) (s:Option (List Block)) (w wE:World) (hw:Ext w wE) (EG:w.heap.size<=b) (hr:BX w r h r0 r1 z0 z1) (hM:Marks wE b N s) (RT:sB s) (ri:r.au.n<=1000000000000000000) :
 iO prog 103 [.agg (dD r).toArray,.pointer (some ⟨b,0,none⟩)] wE (MR w wE b N s h z0.To):=by
 refine dc func103 rfl ntmps103 rfl ?_;have hE:=GB.refl wE b;refine Ww fun b2 w2 bq eW aq => ?_;(obtain ⟨hw,hM,hE⟩:=cd bq hw hM hE);obtain ⟨ls,hl⟩:=hr.rd.lists;have qQ:=hr.rd.cpus;obtain ⟨BQ,Um⟩:=hl.len;have hA:=hl.row.base;refine Wz ?_
 refine CW.loop (fun k:Nat=>[(1,.pointer (some ⟨b,0,none⟩)),(2,.pointer (some ⟨b2,0,none⟩)),(10,.slice r.au.A r.au.n r.au.c),(11,.int .i64 (r.au.n:Int)),(12,.int .i64 (k:Int))])
  (fun k w'=>k<=r.au.n∧Ext w w'∧GB wE w' b∧aR w' b2 41 (dD r)∧Marks w' b N (bB s (a9 (h.au.take k)))∧Fp h.bJ z0.To h.au k) (fun k=>r.au.n-k) 0
  ⟨rfl,rfl,rfl,rfl,rfl,trivial⟩ ⟨by omega,hw,hE,aq,hM,.nil _ _ _⟩ ?_
 clear hw hE aq hM bq;rintro k w' ⟨hk,hw,hE,aq,hM,hP⟩
 by_cases gC:k<r.au.n
 ·have iR:k<ls.length:=by omega
  have Pr:k<h.au.length:=by omega
  have QG:=hl.each.get k iR Pr;have hlc:=QG.cpu;have hlz:=QG.kE;have e8:=QG.ty;have hln:=QG.bD.len;have hAp:=QG.bD.base;have wS:=QG.bD;have fP:=hl.row.all gC;have ke:=hl.row.all (i:=k-1) (show k-1<r.au.n by omega)
  have hgk:sB (bB s (a9 (h.au.take k))):=lx RT fun x hx=>by
   unfold a9 at hx;obtain ⟨y,_,hy⟩:=aeK.1 hx;obtain ⟨p,_,rfl⟩:=aeH.1 hy;simp [ct,jv]
  repeat' (first|refine Wz ?_|refine Wo hw ((fP)) ?_)
  refine SW.alloc rfl fun b6 w1 ah dv ap => ?_
  refine Wz ?_;refine Wg ap (iK.one (enc:=cm) _) fun w2 bQ hg => ?_
  have ar:=ah.own dv hg;have cQ:=hw.up dv
  obtain ⟨hw,aq,hM,hE⟩:=dJ ar hw aq hM hE;have ap:=bQ;clear bQ ah hg ar;refine Wz ?_;by_cases QH:lL r.bJ h.au[k]
  ·obtain ⟨e1,e2,e3,e4⟩:=id QH;obtain ⟨q,hq⟩ : ∃ q,decide (dg (h.au[k-1]'(by omega)) h.au[k])=q:=⟨_,rfl⟩;have RU:=hl.each.get (k-1) (by omega) (by omega)
   have cL:∀ w',bI prog 139 [.agg (cm (ls[k-1]'(by omega))).toArray,.agg (cm ls[k]).toArray] w' fun v _=>v = .bool q:=fun w'=>by
    have:=wR (ls[k-1]'(by omega)) ls[k] (h.au[k-1]'(by omega)) h.au[k] w' ⟨RU.cpu,RU.kE,RU.ty⟩ ⟨hlc,hlz,e8⟩
    rwa [hq] at this
   have uj:k=0∨(0<k∧q=true)∨(0<k∧q=false):=by cases q<;>simp<;>omega
   rw [or_comm,or_assoc] at uj;rcases uj with ⟨BG,rfl⟩|⟨BG,rfl⟩|BG
   rotate_left
   ·repeat' (first|refine Wz ?_|(first|refine CW.gG rfl ?_|(apply CW.bH mixed;(· kernel_rfl);rotate_left;intro w1 ah;obtain ⟨hw,aq,ap,hM,hE⟩:=fH ah hw aq ap hM hE;clear ah;rotate_right))|refine SW.st (cn (k-1) rfl rfl (by assumption) (by omega) (by omega)) rfl ?_|refine Wo hw ((ke)) ?_|refine SW.dI rfl rfl (fun w1 ah=>(cL _)) ?_|exact SW.eU rfl)
    exact ae.bh rfl rfl ⟨_,rfl,hw,hE.g,.inr ⟨rfl,fun hh=>by
     have:=hh.1.next (k-1) (by omega)
     simp only [show k-1+1=k by omega] at this;exact of_decide_eq_false hq this⟩⟩
   all_goals
    have hah:∀ (h0 : 0<k),dg (h.au[k-1]'(by omega)) h.au[k]:=fun h0=>by first|exact of_decide_eq_true hq|omega
    repeat' (first|refine Wz ?_|(first|refine CW.gj rfl ?_|(apply CW.bH mixed;(· kernel_rfl);rotate_left;intro w1 ah;obtain ⟨hw,aq,ap,hM,hE⟩:=fH ah hw aq ap hM hE;clear ah;rotate_right))|refine SW.st (cn (k-1) rfl rfl (by assumption) (by omega) (by omega)) rfl ?_|refine Wo hw ((ke)) ?_|refine SW.dI rfl rfl (fun w1 ah=>(cL _)) ?_|exact SW.eU rfl)
    clear cL hq fP ke
    refine CW.loop (fun j:Nat=>[(1,.pointer (some ⟨b,0,none⟩)),(2,.pointer (some ⟨b2,0,none⟩)),(6,.pointer (some ⟨b6,0,none⟩)),(10,.slice r.au.A r.au.n r.au.c),(11,.int .i64 (r.au.n:Int)),(12,.int .i64 (k:Int)),(75,.slice ls[k].av.A ls[k].av.n ls[k].av.c),(76,.int .i64 (ls[k].av.n:Int)),(77,.int .i64 (j:Int))])
     (fun j w'=>j<=ls[k].av.n∧Ext w w'∧GB wE w' b∧aR w' b2 41 (dD r)∧aR w' b6 155 (cm ls[k])∧Marks w' b N (bB (bB s (a9 (h.au.take k))) ((h.au[k].av.take j).map ct)) ∧ ∀ (i:Nat) (hi:i<h.au[k].av.length),i<j->(h.au[k].av[i]<z0.To↔h.au[k].aj=0)) (fun j=>ls[k].av.n-j) 0
     ⟨rfl,rfl,rfl,rfl,rfl,rfl,rfl,rfl,rfl,trivial⟩ ⟨by omega,hw,hE,aq,ap,hM,fun i _ h=>by omega⟩ ?_
    clear hw hE aq ap hM dv cQ;rintro j w' ⟨hj,hw,hE,aq,ap,hM,hZ⟩
    by_cases p7:j<ls[k].av.n
    ·have pZ:j<h.au[k].av.length:=by omega
     repeat' (first|refine Wz ?_|refine Wn hw (wS.one p7 rfl) ?_)
     refine SW.dK rfl rfl (Kr b _ h.au[k].av[j] N hN _ hM (lx hgk fun x hx=>by
      obtain ⟨p,_,rfl⟩:=aeH.1 hx;simp [ct,jv])) fun v w5 hv => ?_
     obtain ⟨vB,ES⟩:=hv;have hG:=hM.gr ES;have hw:=hw.own EG ES;have hE:=hE.step ES;(obtain ⟨aq,ap⟩:=cT hG aq ap)
     have e5:mq (bB (bB s (a9 (h.au.take k))) ((h.au[k].av.take j).map ct)) (ct h.au[k].av[j])=bB (bB s (a9 (h.au.take k))) ((h.au[k].av.take (j+1)).map ct):=by
      rw [aeA pZ,aeV,dx];rfl
     rw [e5] at vB;have yr:=vB.bad hN;generalize hp:h.au[k].av[j]=p
     obtain ⟨y,hy⟩ : ∃ y,(if p<z0.To then (0:Int) else 1)=y:=⟨_,rfl⟩
     have cZ:∀ w',Ext w w'->bI prog 91 [.agg (dD r).toArray,.int .i64 p] w' fun v _=>v = .int .i64 y:=fun w' hx=>by
      have:=Kq r h r0 r1 z0 z1 p w' (hr.ext hx)
      rwa [hy] at this
     cases hs:bB (bB s (a9 (h.au.take k))) ((h.au[k].av.take (j+1)).map ct) with
     | none =>
       rw [hs] at yr;repeat' (first|refine Wz ?_|((apply CW.bH mixed;(· kernel_rfl);rotate_left;intro w1 ah;obtain ⟨hw,aq,ap,vB,hE⟩:=fH ah hw aq ap vB hE;clear ah;rotate_right))|refine SW.skip rfl rfl rfl rfl ?_|refine Wl yr ?_|exact SW.eU rfl)
       exact ae.bh rfl rfl ⟨_,rfl,hw,hE.g,.inr ⟨rfl,fun hh=>by
        have:=hh.2
        rw [Fq Pr (by omega) hs] at this;cases this⟩⟩
     | some bs =>
       rw [hs] at yr;by_cases hz:y=ls[k].aj
       ·repeat' (first|refine Wz ?_|((apply CW.bH mixed;(· kernel_rfl);rotate_left;intro w1 ah;obtain ⟨hw,aq,ap,vB,hE⟩:=fH ah hw aq ap vB hE;clear ah;rotate_right))|refine SW.want rfl rfl ?_|refine Wl yr ?_|refine SW.dI rfl rfl (fun w1 ah=>(cZ _ (hw.trans ah))) ?_|exact SW.eU rfl)
        refine ae.again (j+1) ⟨rfl,rfl,rfl,rfl,rfl,rfl,rfl,rfl,rfl,trivial⟩ (by omega) ⟨by omega,hw,hE,aq,ap,vB,fun i hi o6 => ?_⟩;by_cases e:i=j
        ·subst e;rw [hp];split at hy<;>constructor<;>intro _<;>omega
        ·exact hZ i hi (by omega)
       ·repeat' (first|refine Wz ?_|((apply CW.bH mixed;(· kernel_rfl);rotate_left;intro w1 ah;obtain ⟨hw,aq,ap,vB,hE⟩:=fH ah hw aq ap vB hE;clear ah;rotate_right))|refine SW.want rfl rfl ?_|refine Wl yr ?_|refine SW.dI rfl rfl (fun w1 ah=>(cZ _ (hw.trans ah))) ?_|exact SW.eU rfl)
        exact ae.bh rfl rfl ⟨_,rfl,hw,hE.g,.inr ⟨rfl,fun hh=>by
         have:=hh.1.kE k Pr p (by rw [<- hp];exact aet _)
         split at hy<;>omega⟩⟩
    ·obtain rfl:j=ls[k].av.n:=by omega
     rw [aeF (l:=h.au[k].av) (by omega),<- dx,<- sC _ _ Pr] at hM;refine Wz ?_;refine ae.again (k+1) ⟨rfl,rfl,rfl,rfl,rfl,trivial⟩ (by omega) ⟨by omega,hw,hE,aq,hM,hP.snoc Pr (by rwa [<- qQ]) hah fun p hp => ?_⟩;obtain ⟨i,hi,rfl⟩:=aeu hp;exact hZ i hi (by omega)
  ·have ov : ¬ nM h.bJ z0.To h.au:=fun hh=>QH (by have:=hh.head k Pr;rwa [<- qQ] at this)
   have aa2 : ¬ (((0<=ls[k].gl∧ls[k].gl<r.bJ)∧(0<=ls[k].aj∧ls[k].aj<=1)∧(0<=ls[k].Ty∧ls[k].Ty<=2)∧(1<=ls[k].av.n∧ls[k].av.n<=8))):=fun hh=>QH (by unfold lL;omega)
   have kK:ls[k].gl<0∨(0<=ls[k].gl∧(r.bJ<=ls[k].gl∨(ls[k].gl<r.bJ∧(ls[k].aj<0∨(0<=ls[k].aj∧(1<ls[k].aj∨(ls[k].aj<=1∧(ls[k].Ty<0∨(0<=ls[k].Ty∧(3<=ls[k].Ty∨(ls[k].Ty<3∧(ls[k].av.n=0∨(0<ls[k].av.n∧8<ls[k].av.n))))))))))))):=by omega
   rcases kK with d|⟨d1,d|⟨d2,d|⟨d3,d|⟨d4,d|⟨d5,d|⟨d6,d|⟨d7,d⟩⟩⟩⟩⟩⟩⟩
   repeat' (first|refine Wz ?_|((apply CW.bH mixed;(· kernel_rfl);rotate_left;intro w1 ah;obtain ⟨hw,aq,ap,hM,hE⟩:=fH ah hw aq ap hM hE;clear ah;rotate_right))|exact SW.eU rfl)
   all_goals exact ae.bh rfl rfl ⟨_,rfl,hw,hE.g,.inr ⟨rfl,fun hh=>ov hh.1⟩⟩
 ·obtain rfl:k=r.au.n:=by omega
  rw [aeF (l:=h.au) (by omega)] at hM;refine Wz ?_;exact ae.bh rfl rfl ⟨_,rfl,hw,hE.g,.inl ⟨rfl,hP.all (by omega),hM⟩⟩
def xL:∀ {s:Option (List Block)},(bB s l).isSome=true -> ∀ b∈l,0<=b.At∧b.At+pw b.Order<=256:=by
 induction l with
 | nil=>intro s _ b hb;simp at hb
 | cons x l ih =>
   intro s h b hb;have h':(bB (mq s x) l).isSome=true:=h
   rcases afx.1 hb with rfl|hb
   ·cases e:mq s b with
    | none=>rw [e,jn] at h';cases h'
    | some bs=>obtain ⟨cs,_,hf,_⟩:=qg e;exact ⟨hf.1,hf.2.1⟩
   ·exact ih h' b hb
def Ji (b:Block) : Prop:=(0<=b.Order∧b.Order<=4)∧0<=b.At∧b.At % pw b.Order=0∧lf b.Ty
structure D6 (l:List Block) (k:Nat) : Prop where
 each:∀ (i:Nat) (h:i<l.length),i<k->Ji l[i]
 next:∀ (i:Nat) (h:i+1<l.length),i+1<k->l[i].At<l[i+1].At
def D6.nil (l:List Block) : D6 l 0:=⟨fun i _ h=>by omega,fun i _ h=>by omega⟩
def D6.snoc (h:D6 l k) (hk:k<l.length) (h1:Ji l[k]) (h2:∀ (h : 0<k),l[k-1].At<l[k].At) : D6 l (k+1):=by
 refine ⟨fun i hi EX => ?_,fun i hi EX => ?_⟩
 ·by_cases e:i=k
  ·subst e;exact h1
  ·exact h.each i hi (by omega)
 ·by_cases e:i+1=k
  ·subst e;exact h2 (by omega)
  ·exact h.next i hi (by omega)
def D6.ok {s:Option (List Block)} (h:D6 l k) (hk:l.length<=k) (hf:(bB s l).isSome=true) : gf l:=by
 refine ⟨fun i hi => ?_,fun i hi=>h.next i hi (by omega)⟩;obtain ⟨h1,h2,h3,h4⟩:=h.each i hi (by omega);have h5:=xL hf _ (aet hi);have h6:=cM h1.1 h1.2;exact ⟨h1,⟨h2,by omega⟩,h3,h4⟩
def Fs (n:Int) : Bool:=decide (n<0) || decide (256<n)
def MS (x:Int) (w:World) : bI prog 101 ([.int .i64 x]++[]) w fun v _=>v = .bool (Fs x):=by
 refine Wj func101 ntmps101 ?_;have hw:=Ext.refl w;have kK:x<0∨(0<=x∧(256<x∨x<=256)):=by omega
 rcases kK with d|⟨d1,d|d⟩
 repeat' (first|refine Wz ?_|fail);all_goals exact ae.bh rfl rfl ⟨_,rfl,hw,by unfold Fs;simp;omega⟩
def fV (z:aj) : Prop:=(-9223372036854775808<=z.aT∧z.aT<=9223372036854775807)∧(-9223372036854775808<=z.To∧z.To<=9223372036854775807)
def Aa (h:Heap) : Prop:=h.bl.length=2∧h.dP.length=2∧1<=h.bJ∧h.bJ<=4
instance (h:Heap) : Decidable (Aa h):=inferInstanceAs (Decidable (_∧_))
def bK.Xf {h:Heap} (a:bK h) : Aa h:=by
 obtain ⟨z0,z1,e,_⟩:=a.cq;obtain ⟨m0,m1,e',_⟩:=a.eQ;exact ⟨by rw [e];rfl,by rw [e'];rfl,a.cpus⟩
structure D7 (h:Heap) (z0 z1:aj) : Prop where
 one:bW z0
 two:bW z1
 from_:z0.aT=0
 EK:z0.To=z1.aT
 pJ:z1.To=256
 eQ:h.dP.any Fs=false
def bK.front {h:Heap} (a:bK h) (e:h.bl=[z0,z1]) : D7 h z0 z1:=by
 obtain ⟨y0,y1,e',a1,a2,a3,a4,a5,_⟩:=a.cq;rw [e] at e';simp only [List.cons.injEq,and_true] at e';obtain ⟨rfl,rfl⟩:=e';obtain ⟨m0,m1,e',b1,b2⟩:=a.eQ;exact ⟨a1,a2,a3,a4,a5,by rw [e'];simp [Fs];omega⟩
def rj (h:Heap) (z0 z1:aj) : Option (List Block):=bB (some []) (z0.ai++z1.ai)
def bK.rest {h:Heap} (a:bK h) (e:h.bl=[z0,z1]) : nM h.bJ z0.To h.au∧gf h.Live∧(bB (bB (rj h z0 z1) (a9 h.au)) h.Live).isSome=true:=by
 obtain ⟨y0,y1,e',a1,a2,a3,a4,a5,a6,a7⟩:=a.cq;rw [e] at e';simp only [List.cons.injEq,and_true] at e';obtain ⟨rfl,rfl⟩:=e';refine ⟨a6,a.live,?_⟩;rw [dx,dx] at a7;exact a7
def bK.of {h:Heap} (e:h.bl=[z0,z1]) (hd:Aa h) (hf:D7 h z0 z1) (h1:nM h.bJ z0.To h.au) (h2:gf h.Live) (h3:(bB (bB (rj h z0 z1) (a9 h.au)) h.Live).isSome=true) : bK h:=by
 refine ⟨⟨z0,z1,e,hf.one,hf.two,hf.from_,hf.EK,hf.pJ,h1,?_⟩,?_,hd.2.2,h2⟩
 ·rw [dx,dx];exact h3
 ·obtain ⟨m0,m1,em⟩:=z9 hd.2.1;have:=hf.eQ
  rw [em] at this;simp [Fs] at this;exact ⟨m0,m1,em,by omega,by omega⟩
set_option maxHeartbeats 8000000 in
def rl (r:jH) (h:Heap) (w:World) (hr:Jb w r h) (hs:h.small) (OR:∀ z∈h.bl,fV z) :
 bI prog 56 [.agg (dD r).toArray] w fun v _=>v = .int .i64 (if jo h then 0 else 8):=by
 refine Wj func56 ntmps56 ?_;refine Ww fun b1 w1 hw lD aX => ?_;have qQ:=hr.cpus;have Uk:=hr.eQ.len;obtain ⟨zs0,D8⟩:=hr.cq;obtain ⟨Xg,Hv⟩:=D8.len;clear D8 Xg zs0;by_cases hd:Aa h
 ·obtain ⟨d1,d2,d3⟩:=id hd;obtain ⟨r0,r1,z0,z1,Ab⟩:=hr.two d1;have BY:=Ab.eq;have hA:=Ab.row.base;have DZ:=OR z0 (by rw [BY];simp);have tT:=OR z1 (by rw [BY];simp);have s0:=hs.free z0 (by rw [BY];simp);have s1:=hs.free z1 (by rw [BY];simp);have eF0:=Ab.z0.from_;have eT0:=Ab.z0.pJ;have eF1:=Ab.z1.from_;have eT1:=Ab.z1.pJ;have l0:=Ab.z0.free.len;have l1:=Ab.z1.free.len;have t0:=Ab.z0.types.len;have t1:=Ab.z1.types.len;unfold fV at DZ tT;obtain ⟨q0,RV⟩ : ∃ q,fT z0=q:=⟨_,rfl⟩;obtain ⟨q1,MT⟩ : ∃ q,fT z1=q:=⟨_,rfl⟩
  have c0:∀ w',Ext w w'->bI prog 75 [.agg (dq r0).toArray] w' fun v _=>v = .int .i64 (if q0 then 0 else 8):=fun w' hx=>by
   have:=lh r0 z0 w' (Ab.z0.ext hx) (by omega) (by omega) (by omega) (by omega)
   rwa [RV] at this
  have c1:∀ w',Ext w w'->bI prog 75 [.agg (dq r1).toArray] w' fun v _=>v = .int .i64 (if q1 then 0 else 8):=fun w' hx=>by
   have:=lh r1 z1 w' (Ab.z1.ext hx) (by omega) (by omega) (by omega) (by omega)
   rwa [MT] at this
  have TB:(q0=true∧q1=true)∨(q0=false)∨(q0=true∧q1=false):=by cases q0<;>cases q1<;>simp
  rcases TB with ⟨rfl,rfl⟩|rfl|⟨rfl,rfl⟩
  all_goals simp only [if_true,Bool.false_eq_true,if_false] at c0 c1
  repeat' (first|refine Wz ?_|refine SW.st (cn (0) rfl rfl (by assumption) (by omega) (by omega)) rfl ?_|refine SW.st (cn (1) rfl rfl (by assumption) (by omega) (by omega)) rfl ?_|refine Wo hw ((Ab.c0)) ?_|refine Wo hw ((Ab.c1)) ?_|((first|refine Wk (c0 _ hw) ?_|refine Wk (c1 _ hw) ?_);intro v w1 ah hv;subst hv;obtain ⟨hw,aX⟩:=cT ah hw aX;clear ah))
  rotate_left
  ·exact ae.bh rfl rfl ⟨_,rfl,hw,by rw [nN (fun hh=>by have:=fD.2 (hh.front BY).one;rw [RV] at this;cases this)];rfl⟩
  ·exact ae.bh rfl rfl ⟨_,rfl,hw,by rw [nN (fun hh=>by have:=fD.2 (hh.front BY).two;rw [MT] at this;cases this)];rfl⟩
  clear c0 c1;have MU:=fD.1 RV;have Pb:=fD.1 MT
  have cO:∀ w',Ext w w'->bI prog 100 [.slice r.dP.A r.dP.n r.dP.c,.func (.func 101) #[] ([] : List Value).toArray] w' fun v _=>v = .bool (h.dP.any Fs):=fun w' h =>
   iY _ _ _ _ _ (hr.eQ.ext h) _ [] Fs (fun x => .int .i64 x) (fun x=>rfl) (fun x _ w1 _=>MS x w1) (by omega)
  obtain ⟨qm,Xh⟩ : ∃ q,h.dP.any Fs=q:=⟨_,rfl⟩;rw [Xh] at cO;have kK:(r0.aT=0∧r0.To=r1.aT∧r1.To=256∧qm=false)∨r0.aT≠0∨(r0.aT=0∧r0.To≠r1.aT)∨(r0.aT=0∧r0.To=r1.aT∧r1.To≠256)∨(r0.aT=0∧r0.To=r1.aT∧r1.To=256∧qm=true):=by cases qm<;>simp<;>omega
  rcases kK with ⟨d1,d2,d3,rfl⟩|d|⟨d1,d⟩|⟨d1,d2,d⟩|⟨d1,d2,d3,rfl⟩
  repeat' (first|refine Wz ?_|((apply CW.bH mixed;(· kernel_rfl);rotate_left;intro w1 ah;obtain ⟨hw,aX⟩:=cT ah hw aX;clear ah;rotate_right))|refine SW.st (cn (0) rfl rfl (by assumption) (by omega) (by omega)) rfl ?_|refine SW.st (cn (1) rfl rfl (by assumption) (by omega) (by omega)) rfl ?_|refine Wn hw (Ab.c0 0 _ rfl) ?_|refine Wn hw (Ab.c0 1 _ rfl) ?_|refine Wn hw (Ab.c1 0 _ rfl) ?_|refine Wn hw (Ab.c1 1 _ rfl) ?_|refine SW.dI rfl rfl (fun w1 ah=>(cO _ (hw.trans ah))) ?_|exact SW.eU rfl)
  rotate_left
  iterate 3 exact ae.bh rfl rfl ⟨_,rfl,hw,by rw [nN (fun hh=>by have:=hh.front BY;have:=this.from_;have:=(hh.front BY).EK;have:=(hh.front BY).pJ;omega)];rfl⟩
  ·exact ae.bh rfl rfl ⟨_,rfl,hw,by rw [nN (fun hh=>by have:=(hh.front BY).eQ;rw [Xh] at this;cases this)];rfl⟩
  have Un:D7 h z0 z1:=⟨MU,Pb,by omega,by omega,by omega,Xh⟩
  clear cO;have hn:=Ab.n
  have lH:∀ z∈h.bl,∀ b∈z.ai,0<=b.Order∧b.Order<=4:=fun z hz b hb=>by
   obtain ⟨i,hi,rfl⟩:=aeu hb;rw [BY] at hz;simp only [List.mem_cons,List.not_mem_nil,or_false] at hz;rcases hz with rfl|rfl
   ·exact ⟨(MU.eV i hi).1.1,(MU.eV i hi).1.2.1⟩
   ·exact ⟨(Pb.eV i hi).1.1,(Pb.eV i hi).1.2.1⟩
  have Zh:∀ k,sB (bB (some []) ((h.bl.take k).flatMap aj.ai)):=fun k=>lx Cs fun x hx=>by
   obtain ⟨z,hz,hx⟩:=aeK.1 hx;have:=lH z (aeX hz) x hx
   exact (cM this.1 this.2).1
  refine SW.box rfl rfl fun b3 w2 bq cg ao => ?_
  have gm:=hw.up cg
  have hM:Marks w2 b3 256 (some []):=by
   refine Eq.mp (congrArg (fun c=>aR w2 b3 187 c) ?_) ao;kernel_rfl
  clear ao;(obtain ⟨hw,aX⟩:=cT bq hw aX);repeat' (first|refine Wz ?_|fail)
  refine CW.loop (fun k:Nat=>[(1,.pointer (some ⟨b1,0,none⟩)),(3,.pointer (some ⟨b3,0,none⟩)),(81,.slice r.bl.A r.bl.n r.bl.c),(82,.int .i64 (r.bl.n:Int)),(83,.int .i64 (k:Int))])
   (fun k w'=>k<=2∧Ext w w'∧aR w' b1 41 (dD r)∧Marks w' b3 256 (bB (some []) ((h.bl.take k).flatMap aj.ai))) (fun k=>2-k) 0
   ⟨rfl,rfl,rfl,rfl,rfl,trivial⟩ ⟨by omega,hw,aX,hM⟩ ?_
  clear hw aX hM bq;rintro k w' ⟨hk,hw,aX,hM⟩
  by_cases yV:k<2
  ·have hkz:k<h.bl.length:=by omega
   have fP:=Ab.row.all (i:=k) (by omega)
   have Uo:Hb w ([r0,r1][k]'(by simpa using yV)) h.bl[k]:=by
    simp only [BY];have:k=0∨k=1:=by omega
    rcases this with rfl|rfl
    ·exact Ab.z0
    ·exact Ab.z1
   generalize hrk:([r0,r1][k]'(by simpa using yV))=rk at fP Uo
   have xE:=lH h.bl[k] (aet _);have W2:=hs.free h.bl[k] (aet _)
   have HD:(h.bl.take (k+1)).flatMap aj.ai=(h.bl.take k).flatMap aj.ai++h.bl[k].ai:=by
    rw [aeA hkz,aeM];simp
   generalize h.bl[k]=zk at Uo xE W2 HD
   have hAk:=Uo.free.base;have Kj:=Uo.free.len;repeat' (first|refine Wz ?_|refine Wo hw ((fP)) ?_)
   refine SW.alloc rfl fun b5 w1 ah gI aL => ?_
   skip;refine Wg aL (fU _) fun w2 fa hg => ?_
   have ar:=ah.own gI hg;have jR:=hw.up gI
   obtain ⟨hw,aX,hM⟩:=cd ar hw aX hM;have aL:=fa;clear fa ah hg ar;repeat' (first|refine Wz ?_|fail)
   refine CW.loop (fun j:Nat=>[(1,.pointer (some ⟨b1,0,none⟩)),(3,.pointer (some ⟨b3,0,none⟩)),(81,.slice r.bl.A r.bl.n r.bl.c),(82,.int .i64 (r.bl.n:Int)),(83,.int .i64 (k:Int)),(88,.slice rk.ai.A rk.ai.n rk.ai.c),(89,.int .i64 (rk.ai.n:Int)),(90,.int .i64 (j:Int))])
    (fun j w'=>j<=rk.ai.n∧Ext w w'∧aR w' b1 41 (dD r)∧Marks w' b3 256 (bB (bB (some []) ((h.bl.take k).flatMap aj.ai)) (zk.ai.take j))) (fun j=>rk.ai.n-j) 0
    ⟨rfl,rfl,rfl,rfl,rfl,rfl,rfl,rfl,trivial⟩ ⟨by omega,hw,aX,hM⟩ ?_
   clear hw aX hM aL gI jR;rintro j w' ⟨hj,hw,aX,hM⟩
   by_cases p7:j<rk.ai.n
   ·have pZ:j<zk.ai.length:=by omega
    obtain ⟨o1,o2⟩:=xE zk.ai[j] (aet _);have hp:=cM o1 o2;repeat' (first|refine Wz ?_|refine Wo hw ((Uo.free.all p7)) ?_)
    refine SW.alloc rfl fun b7 w1 ah iT bc => ?_
    skip;refine Wg bc (iK.one (enc:=aO) _) fun w2 bp hg => ?_
    have ar:=ah.own iT hg;have gn:=hw.up iT
    obtain ⟨hw,aX,hM⟩:=cd ar hw aX hM;have bc:=bp;clear bp ah hg ar;repeat' (first|refine Wz ?_|fail);refine CW.any 6 mixed (db (by kernel_rfl)) rfl fun w1 ah aI => ?_
    obtain ⟨hw,aX,hM,bc⟩:=dJ ah hw aX hM bc;clear ah;refine Wa ?_;refine Wu 5 aI rfl (fO (r:=pw zk.ai[j].Order) rfl rfl (by omega) (by omega) (by simp [pw]) (by omega) (by omega)) ?_;refine SA.fZ ?_;refine SW.dK rfl rfl (wQ b3 _ zk.ai[j] 256 rfl _ hM (lx (Zh k) fun x hx=>by have:=xE x (aeX hx);exact (cM this.1 this.2).1) ⟨by omega,by omega⟩) fun v w5 hv => ?_
    obtain ⟨vB,ES⟩:=hv;have hG:=hM.gr ES;have hw:=hw.own gm ES;(have aX:=aX.aJ hG rfl);rw [<- xI _ _ _ pZ] at vB;repeat' (first|refine Wz ?_|fail);exact ae.again (j+1) ⟨rfl,rfl,rfl,rfl,rfl,rfl,rfl,rfl,trivial⟩ (by omega) ⟨by omega,hw,aX,vB⟩
   ·obtain rfl:j=rk.ai.n:=by omega
    rw [aeF (l:=zk.ai) (by omega),<- dx,<- HD] at hM;repeat' (first|refine Wz ?_|fail);exact ae.again (k+1) ⟨rfl,rfl,rfl,rfl,rfl,trivial⟩ (by omega) ⟨by omega,hw,aX,hM⟩
  ·obtain rfl:k=2:=by omega
   have Xi:=Zh 2;have hms:bB (some []) ((h.bl.take 2).flatMap aj.ai)=rj h z0 z1:=by rw [BY];simp [rj]
   rw [hms] at hM Xi;repeat' (first|refine Wz ?_|fail);obtain ⟨ls,EL⟩:=hr.lists;have mx:=EL.len.2;have wT:=hs.lists;clear EL ls;refine SW.dK rfl rfl (Ks r h r0 r1 z0 z1 b3 256 rfl (rj h z0 z1) w _ hw gm Ab hM Xi (by omega)) fun v w5 hv => ?_
   obtain ⟨oX,ES,jw⟩:=hv;have hG:=hM.gr ES;have hw:=oX;(have aX:=aX.aJ hG rfl);clear hM oX ES hG;rcases jw with ⟨rfl,hL,hM⟩|⟨rfl,ov⟩
   rotate_left
   ·repeat' (first|refine Wz ?_|(refine CW.gG rfl ?_))
    exact ae.bh rfl rfl ⟨_,rfl,hw,by rw [nN (fun hh=>ov ⟨(hh.rest BY).1,kc (m:=h.Live) (by rw [dx];exact (hh.rest BY).2.2)⟩)];rfl⟩
   have Zi:sB (bB (rj h z0 z1) (a9 h.au)):=lx Xi fun x hx=>by
    unfold a9 at hx;obtain ⟨y,_,hy⟩:=aeK.1 hx;obtain ⟨p,_,rfl⟩:=aeH.1 hy;simp [ct,jv]
   have QI:bK h->(bB (bB (rj h z0 z1) (a9 h.au)) h.Live).isSome=true:=fun hh=>(hh.rest BY).2.2
   have Zj:gf h.Live->(bB (bB (rj h z0 z1) (a9 h.au)) h.Live).isSome=true->bK h:=fun a b=>bK.of BY hd Un hL a b
   generalize bB (rj h z0 z1) (a9 h.au)=S at hM Zi QI Zj
   have Ma:=hr.live;have TA:=hr.live.len;have hAv:=hr.live.base;have hsv:=hs.live;repeat' (first|refine Wz ?_|fail)
   refine CW.loop (fun k:Nat=>[(1,.pointer (some ⟨b1,0,none⟩)),(3,.pointer (some ⟨b3,0,none⟩)),(108,.slice r.Live.A r.Live.n r.Live.c),(109,.int .i64 (r.Live.n:Int)),(110,.int .i64 (k:Int))])
    (fun k w'=>k<=r.Live.n∧Ext w w'∧aR w' b1 41 (dD r)∧Marks w' b3 256 (bB S (h.Live.take k))∧D6 h.Live k) (fun k=>r.Live.n-k) 0
    ⟨rfl,rfl,rfl,rfl,rfl,trivial⟩ ⟨by omega,hw,aX,hM,.nil _⟩ ?_
   clear hw aX hM;rintro k w' ⟨hk,hw,aX,hM,hP⟩
   by_cases gC:k<r.Live.n
   ·have iR:k<h.Live.length:=by omega
    have D9:k-1<r.Live.n:=by omega
    have Ps:bK h->wG h.Live[k]∧(0<k->(h.Live[k-1]'(by omega)).At<h.Live[k].At):=fun hh=>⟨hh.live.each k iR,fun h0=>by
     have:=hh.live.next (k-1) (by omega)
     simpa only [show k-1+1=k by omega] using this⟩
    have QJ:=Ma.jF D9 (j:=0) rfl;repeat' (first|refine Wz ?_|refine Wo hw ((Ma.all gC)) ?_)
    refine SW.alloc rfl fun b9 w1 ah oz bF => ?_
    repeat' (first|refine Wz ?_|fail);refine Wg bF (iK.one (enc:=aO) _) fun w2 j5 hg => ?_
    have ar:=ah.own oz hg;have sy:=hw.up oz
    obtain ⟨hw,aX,hM⟩:=cd ar hw aX hM;have bF:=j5;clear j5 ah hg ar;repeat' (first|refine Wz ?_|fail);have j6:Ji h.Live[k]->(0<k->(h.Live[k-1]'(by omega)).At<h.Live[k].At)->D6 h.Live (k+1):=fun a b=>hP.snoc iR a fun h0=>b h0
    have HD:=xI S h.Live k iR;generalize Xj:h.Live[k]=bb at bF Ps j6 HD
    generalize Y8:(h.Live[k-1]'(by omega)).At=pv at Ps j6 QJ
    simp only [Ji,wG,lf] at Ps j6
    have hp:bb.Order<0∨4<bb.Order∨(1<=pw bb.Order∧pw bb.Order<=16):=by
     by_cases h1 : 0<=bb.Order
     ·by_cases h2:bb.Order<=4
      ·exact .inr (.inr (cM h1 h2))
      ·omega
     ·omega
    have em:bb.At<0∨bb.At.tmod (pw bb.Order)=bb.At % pw bb.Order:=by
     by_cases h1 : 0<=bb.At
     ·exact .inr (ae7 h1)
     ·omega
    have kK:bb.Order<0∨(0<=bb.Order∧(4<bb.Order∨(bb.Order<=4∧(bb.At<0∨(0<=bb.At∧(bb.At.tmod (pw bb.Order)≠0∨(bb.At.tmod (pw bb.Order)=0∧(bb.Ty<0∨(0<=bb.Ty∧(3<=bb.Ty∨(bb.Ty<3∧((0<k∧bb.At<=pv)∨k=0∨(0<k∧pv<bb.At)))))))))))) ):=by omega
    rcases kK with d|⟨d1,d|⟨d2,d|⟨d3,d|⟨d4,d|⟨d5,d|⟨d6,⟨BG,d⟩|BG|⟨BG,d⟩⟩⟩⟩⟩⟩⟩
    all_goals (apply CW.bH mixed;(· kernel_rfl);rotate_left;intro w1 ah;obtain ⟨hw,aX,bF,hM⟩:=dJ ah hw aX bF hM;clear ah;rotate_right)
    repeat' (first|refine Wz ?_|refine SW.st (cn (k-1) rfl rfl (by assumption) (by omega) (by omega)) rfl ?_|refine Wn hw QJ ?_|(refine SW.st (fO (r:=pw bb.Order) rfl rfl (by omega) (by omega) (by simp [pw]) (by omega) (by omega)) rfl ?_)|exact SW.eU rfl)
    iterate 7 exact ae.bh rfl rfl ⟨_,rfl,hw,by rw [nN (fun hh=>by have:=Ps hh;omega)];rfl⟩
    all_goals
     have j6:=j6 ⟨⟨d1,d2⟩,d3,by omega,by omega⟩ (fun h0=>by omega);refine CW.any 6 mixed (db (by kernel_rfl)) rfl fun w1 ah aI => ?_
     obtain ⟨hw,aX,hM,bF⟩:=dJ ah hw aX hM bF;clear ah;refine Wa ?_;refine Wu 5 aI rfl (fO (r:=pw bb.Order) rfl rfl (by omega) (by omega) (by simp [pw]) (by omega) (by omega)) ?_;refine SA.fZ ?_
     refine SW.dK rfl rfl (wQ b3 _ bb 256 rfl _ hM (lx Zi fun x hx=>by
      obtain ⟨i,hi,rfl⟩:=aeu hx;rw [ae3];have:=(hP.each i (by simp at hi;omega) (by simp at hi;omega)).1
      exact (cM this.1 this.2).1) ⟨by omega,by omega⟩) fun v w5 hv => ?_
     obtain ⟨vB,ES⟩:=hv;have hG:=hM.gr ES;have hw:=hw.own gm ES;(have aX:=aX.aJ hG rfl);rw [<- HD] at vB;repeat' (first|refine Wz ?_|fail);exact ae.again (k+1) ⟨rfl,rfl,rfl,rfl,rfl,trivial⟩ (by omega) ⟨by omega,hw,aX,vB,j6⟩
   ·obtain rfl:k=r.Live.n:=by omega
    rw [aeF (by omega)] at hM;have yr:=hM.bad rfl;cases hS:bB S h.Live with
    | none =>
      rw [hS] at yr;repeat' (first|refine Wz ?_|(refine CW.gG rfl ?_)|refine Wl yr ?_)
      exact ae.bh rfl rfl ⟨_,rfl,hw,by rw [nN (fun hh=>by have:=QI hh;rw [hS] at this;cases this)];rfl⟩
    | some bs =>
      rw [hS] at yr;repeat' (first|refine Wz ?_|(refine CW.gj rfl ?_)|refine Wl yr ?_)
      exact ae.bh rfl rfl ⟨_,rfl,hw,by rw [DP (Zj (hP.ok (s:=S) (by omega) (by rw [hS];rfl)) (by rw [hS];rfl))];rfl⟩
 ·rw [nN (fun hh=>hd hh.Xf)];have kK:r.bl.n≠2∨(r.bl.n=2∧(r.dP.n≠2∨(r.dP.n=2∧(r.bJ<1∨(1<=r.bJ∧4<r.bJ))))):=by unfold Aa at hd;omega
  rcases kK with d|⟨d1,d|⟨d2,d|⟨d3,d⟩⟩⟩
  repeat' (first|refine Wz ?_|fail);all_goals exact ae.bh rfl rfl ⟨_,rfl,hw,rfl⟩
end Go.Proofs.YtenhkiaaebnggaaGreatDoor
