/- Part 6 of what kmemRuns_holds leans on. -/
import Derived.Test.YtdlfabkacdgneaaGreatDoorPackKmemRuns3
import Derived.Test.YtdlfabkacdgneaaGreatDoorPackKmemRuns2
set_option maxHeartbeats 16000000
set_option linter.unusedVariables false
set_option linter.unusedSimpArgs false
set_option linter.defProp false
open Go.Proofs.Tryz
namespace Go.Proofs.YtdlfabkacdgneaaGreatDoor
open Go.RowKit
variable {α:Type} {b lo sz:Nat} {A:Option Addr} {e:TypeId} {w:World} {enc:α -> List Value}
structure aO where
 Names:List ByteArray
 ax:Int
 bd:Int
 Order:Int
 ae:List Slab
 ao:List Int
structure aj where
 Words:List Int
 Heap:Heap
 ab:List aO
def encStr(s:ByteArray):List Value:=[.string s]
instance :gG encStr 1:=⟨λ_=>rfl,λr u hu=>by simp[encStr]at hu;subst hu;rfl⟩
structure da where
 Names:jC
 ax:Int
 bd:Int
 Order:Int
 ae:jC
 ao:jC
def cr(r:da):List Value:=[r.Names.v,Iv r.ax,Iv r.bd,Iv r.Order,r.ae.v,r.ao.v]
instance :gG cr 6:=⟨λ_=>rfl,λr u hu=>by simp[cr,jC.v]at hu;rcases hu with rfl|rfl|rfl|rfl|rfl|rfl<;>rfl⟩
structure cc where
 Words:jC
 Heap:fB
 ab:jC
def ar(r:cc):List Value:=[r.Words.v,r.Heap.aK.v,r.Heap.bY.v,Iv r.Heap.bl,r.Heap.ak.v,r.Heap.Live.v,r.ab.v]
instance :gG ar 7:=⟨λ_=>rfl,λr u hu=>by simp[ar,jC.v]at hu;rcases hu with rfl|rfl|rfl|rfl|rfl|rfl|rfl<;>rfl⟩
def cc.zero:cc:=⟨.nil,.zero,.nil⟩
theorem ox(r:da):∀v∈cr r,v.oneCell'=true:=gG.one (enc:=cr) r
theorem aB(r:cc):∀v∈ar r,v.oneCell'=true:=gG.one (enc:=ar) r
theorem e7{t:Nat}{r:cc}(h:ay w b t (ar r)):∀j v,(bg r.Heap)[j]?=some v->w.cell? ((((⟨b,0,none⟩:Addr)).add 1).add j)=some v:=λj v a=>by
 rw[add_add];refine h.cell (i:=1+j) ?_
 match j,a with
 | 0,a=>exact a
 | 1,a=>exact a
 | 2,a=>exact a
 | 3,a=>exact a
 | 4,a=>exact a
 | j+5,a=>grind[bg]
theorem Own.JY{n c:Nat}{l:List α}(h:Own w lo e sz enc A n c l):n<=c:=by
 rcases h.row with⟨rfl,rfl⟩|⟨_,_,_,_,_,_,h,_⟩<;>grind
structure DO(w:World)(r:da)(c:aO):Prop where
 size:r.ax=c.ax
 per:r.bd=c.bd
 order:r.Order=c.Order
 names:Sl w 1 encStr r.Names.A r.Names.n c.Names
 av:Sl w 3 bG r.ae.A r.ae.n c.ae
 aD:Sl w 1 aT r.ao.A r.ao.n c.ao
 cap:r.ao.n<=r.ao.c
structure lf(w:World)(lo:Nat)(r:da)(c:aO):Prop where
 size:r.ax=c.ax
 per:r.bd=c.bd
 order:r.Order=c.Order
 names:Own w lo 9 1 encStr r.Names.A r.Names.n r.Names.c c.Names
 av:Own w lo 60 3 bG r.ae.A r.ae.n r.ae.c c.ae
 aD:Own w lo 3 1 aT r.ao.A r.ao.n r.ao.c c.ao
section
variable {w w':World}{lo nn t:Nat}{r:da}{c:aO}
theorem DO.ext(h:DO w r c)(a:Ext w w'):DO w' r c:=⟨h.size,h.per,h.order,h.names.ext a,h.av.ext a,h.aD.ext a,h.cap⟩
theorem lf.ext(h:lf w lo r c)(a:Ext w w'):lf w' lo r c:=⟨h.size,h.per,h.order,h.names.ext a,h.av.ext a,h.aD.ext a⟩
theorem lf.low(h:lf w lo r c)(a:nn<=lo):lf w nn r c:=⟨h.size,h.per,h.order,h.names.low a,h.av.low a,h.aD.low a⟩
theorem lf.rd(h:lf w lo r c):DO w r c:=⟨h.size,h.per,h.order,h.names.sl,h.av.sl,h.aD.sl,h.aD.JY⟩
theorem lf.aQ(h:lf w lo r c)(b:oe w w' t)(a:(Nat.beq t 9||(Nat.beq t 60||Nat.beq t 3))=false):lf w' lo r c:=by
 simp only[Bool.or_eq_false_iff]at a;exact⟨h.size,h.per,h.order,h.names.aQ b a.1,h.av.aQ b a.2.1,h.aD.aQ b a.2.2⟩
end
structure FD(w:World)(s:jC)(cs:List da)(l:List aO):Prop where
 row:Sl w 6 cr s.A s.n cs
 each:dR (DO w) cs l
 cap:s.n<=s.c
structure dJ(w:World)(lo:Nat)(s:jC)(cs:List da)(l:List aO):Prop where
 row:Own w lo 58 6 cr s.A s.n s.c cs
 each:dR (lf w lo) cs l
section
variable {w w':World}{lo nn t:Nat}{s:jC}{cs:List da}{l:List aO}
theorem FD.ext(h:FD w s cs l)(a:Ext w w'):FD w' s cs l:=⟨h.row.ext a,h.each.mono λ_ _ h=>h.ext a,h.cap⟩
theorem dJ.ext(h:dJ w lo s cs l)(a:Ext w w'):dJ w' lo s cs l:=⟨h.row.ext a,h.each.mono λ_ _ h=>h.ext a⟩
theorem dJ.low(h:dJ w lo s cs l)(a:nn<=lo):dJ w nn s cs l:=⟨h.row.low a,h.each.mono λ_ _ h=>h.low a⟩
theorem dJ.rd(h:dJ w lo s cs l):FD w s cs l:=⟨h.row.sl,h.each.mono λ_ _ h=>h.rd,h.row.JY⟩
theorem dJ.aQ(h:dJ w lo s cs l)(b:oe w w' t)(a:(Nat.beq t 58||(Nat.beq t 9||(Nat.beq t 60||Nat.beq t 3)))=false):dJ w' lo s cs l:=by
 rw[Qo]at a;exact⟨h.row.aQ b a.1,h.each.mono λ_ _ h=>h.aQ b a.2⟩
theorem dJ.nil(w:World)(lo:Nat):dJ w lo .nil [] []:=⟨Own.cq _ _ _ _ _ _,.nil⟩
theorem FD.len(h:FD w s cs l):cs.length=s.n∧l.length=s.n:=⟨h.row.len,by rw[<-h.each.len,h.row.len]⟩
theorem dJ.dm{vs:List Value}(h:dJ w lo s cs l)(d:ay w b 58 vs)(c:w.grownBy w' (some b))(a:∀k,aN s.A s.c=some k->k<nn)(f:nn<=b):dJ w' lo s cs l:=
 ⟨h.row.grown c (.inr (λe=>by have:=a _ e;omega)),h.each.mono λ_ _ h=>h.aQ (d.gr c) Z⟩
end
structure mB(w:World)(r:cc)(s:aj):Prop where
 words:Sl w 1 aT r.Words.A r.Words.n s.Words
 heap:AQ w r.Heap s.Heap
 aV:∃cs,FD w r.ab cs s.ab
structure gK(w:World)(lo:Nat)(r:cc)(s:aj):Prop where
 words:Own w lo 3 1 aT r.Words.A r.Words.n r.Words.c s.Words
 heap:ik w lo r.Heap s.Heap
 aV:∃cs,dJ w lo r.ab cs s.ab
section
variable {w w':World}{lo nn t:Nat}{r:cc}{s:aj}
theorem mB.ext(h:mB w r s)(a:Ext w w'):mB w' r s:=by
 obtain⟨cs,b⟩:=h.aV;exact⟨h.words.ext a,h.heap.ext a,⟨cs,b.ext a⟩⟩
theorem gK.ext(h:gK w lo r s)(a:Ext w w'):gK w' lo r s:=by
 obtain⟨cs,b⟩:=h.aV;exact⟨h.words.ext a,h.heap.ext a,⟨cs,b.ext a⟩⟩
theorem gK.low(h:gK w lo r s)(a:nn<=lo):gK w nn r s:=by
 obtain⟨cs,b⟩:=h.aV;exact⟨h.words.low a,h.heap.low a,⟨cs,b.low a⟩⟩
theorem gK.rd(h:gK w lo r s):mB w r s:=by
 obtain⟨cs,a⟩:=h.aV;exact⟨h.words.sl,h.heap.rd,⟨cs,a.rd⟩⟩
end
structure aO.small(c:aO):Prop where
 names:c.Names.length*16<=140737488355328
 av:c.ae.length*24<=140737488355328
 aD:c.ao.length*8<=140737488355328
structure aj.small(s:aj):Prop where
 words:s.Words.length*8<=140737488355328
 heap:s.Heap.small
 aV:s.ab.length*96<=140737488355328
 each:∀c∈s.ab,c.small
instance :Bs prog 9:=⟨by kernel_rfl⟩
theorem MR:prog.underlying 5=some (.int .u8):=by kernel_rfl
theorem sh(A:Option Addr)(n c:Nat)(l:List UInt8)(w:World)(b:Sl w 1 CI A n l)(f:FuncId)(cap:List Value)(p:UInt8->Bool)(d:UInt8->Value)(e:∀x,d x=(if 1=1 then(CI x)[0]?.getD undef else .agg (CI x).toArray))
 (u:∀x∈l,∀g,Ext w g->aS prog f ([d x]++cap) g λv _=>v= .bool (p x)) (C:n<=9223372036854775807) (D:Body prog f:=by exact j0):
 aS prog 200 [.slice A n c,.func (.func f) #[] cap.toArray] w λv _=>v=Iv (idxOf p l):=by
 refine Wj func200 ntmps200 ?_;have a:=Ext.refl w;have E:=b.base;refine Wz ?_;refine CW.loop (λk:Nat=>[(0,.slice A n c),(1,.func (.func f) #[] cap.toArray),(7,Iv (n:Int)),(8,Iv (k:Int))]) (λk g=>k<=n∧Ext w g∧∀j(o:j<l.length),j<k->p l[j]=false) (λk=>n-k) 0 ⟨rfl,rfl,rfl,rfl,trivial⟩ ⟨by omega,a,λj _ h=>by omega⟩ ?_;rintro k g ⟨y,a,q⟩;by_cases i:k<n
 ·have z:=e (l[k]'(b.lt i));have m:=u (l[k]'(b.lt i)) (Pf _);rw[z]at m;repeat'(first|refine Wz ?_|refine Wn a (b.one i rfl) ?_)
  refine SW.nv rfl rfl rfl (m _ a) λv F r B=>?_;subst B;have a:=a.trans r;cases t:p (l[k]'(b.lt i))
  ·refine Wz ?_;refine ah.again (k+1) ⟨Z,Z,Z,Z,trivial⟩ Y ⟨by omega,a,λj o h=>?_⟩;by_cases s:j=k
   ·subst s;exact t
   exact q j o Y
  refine Wz ?_;exact ah.aF Z Z ⟨_,Z,a,by rw[jA (b.lt i) t q]⟩
 refine Wz ?_;exact ah.aF Z Z ⟨_,Z,a,by rw[(iv (λj o=>q j o (by have:=b.len;omega))).1]⟩
theorem jG(A:Option Addr)(n c:Nat)(l:List Slab)(w:World)(b:Sl w 3 bG A n l)(f:FuncId)(cap:List Value)(p:Slab->Bool)(d:Slab->Value)(e:∀x,d x=(if 3=1 then(bG x)[0]?.getD undef else .agg (bG x).toArray))
 (u:∀x∈l,∀g,Ext w g->aS prog f ([d x]++cap) g λv _=>v= .bool (p x)) (C:n<=9223372036854775807) (D:Body prog f:=by exact j0):
 aS prog 212 [.slice A n c,.func (.func f) #[] cap.toArray] w λv _=>v=Iv (idxOf p l):=by
 refine Wj func212 ntmps212 ?_;have a:=Ext.refl w;have E:=b.base;refine Wz ?_;refine CW.loop (λk:Nat=>[(0,.slice A n c),(1,.func (.func f) #[] cap.toArray),(7,Iv (n:Int)),(8,Iv (k:Int))]) (λk g=>k<=n∧Ext w g∧∀j(o:j<l.length),j<k->p l[j]=false) (λk=>n-k) 0 ⟨rfl,rfl,rfl,rfl,trivial⟩ ⟨by omega,a,λj _ h=>by omega⟩ ?_;rintro k g ⟨y,a,q⟩;by_cases i:k<n
 ·have z:=e (l[k]'(b.lt i));have m:=u (l[k]'(b.lt i)) (Pf _);rw[z]at m;repeat'(first|refine Wz ?_|refine Wo a ((b.all i)) ?_)
  refine SW.nv rfl rfl rfl (m _ a) λv F r B=>?_;subst B;have a:=a.trans r;cases t:p (l[k]'(b.lt i))
  ·refine Wz ?_;refine ah.again (k+1) ⟨Z,Z,Z,Z,trivial⟩ Y ⟨by omega,a,λj o h=>?_⟩;by_cases s:j=k
   ·subst s;exact t
   exact q j o Y
  refine Wz ?_;exact ah.aF Z Z ⟨_,Z,a,by rw[jA (b.lt i) t q]⟩
 refine Wz ?_;exact ah.aF Z Z ⟨_,Z,a,by rw[(iv (λj o=>q j o (by have:=b.len;omega))).1]⟩
theorem kI(A:Option Addr)(n c:Nat)(l:List da)(w:World)(b:Sl w 6 cr A n l)(f:FuncId)(cap:List Value)(p:da->Bool)(d:da->Value)(e:∀x,d x=(if 6=1 then(cr x)[0]?.getD undef else .agg (cr x).toArray))
 (u:∀x∈l,∀g,Ext w g->aS prog f ([d x]++cap) g λv _=>v= .bool (p x)) (C:n<=9223372036854775807) (D:Body prog f:=by exact j0):
 aS prog 64 [.slice A n c,.func (.func f) #[] cap.toArray] w λv _=>v=Iv (idxOf p l):=by
 refine Wj func64 ntmps64 ?_;have a:=Ext.refl w;have E:=b.base;refine Wz ?_;refine CW.loop (λk:Nat=>[(0,.slice A n c),(1,.func (.func f) #[] cap.toArray),(7,Iv (n:Int)),(8,Iv (k:Int))]) (λk g=>k<=n∧Ext w g∧∀j(o:j<l.length),j<k->p l[j]=false) (λk=>n-k) 0 ⟨rfl,rfl,rfl,rfl,trivial⟩ ⟨by omega,a,λj _ h=>by omega⟩ ?_;rintro k g ⟨y,a,q⟩;by_cases i:k<n
 ·have z:=e (l[k]'(b.lt i));have m:=u (l[k]'(b.lt i)) (Pf _);rw[z]at m;repeat'(first|refine Wz ?_|refine Wo a ((b.all i)) ?_)
  refine SW.nv rfl rfl rfl (m _ a) λv F r B=>?_;subst B;have a:=a.trans r;cases t:p (l[k]'(b.lt i))
  ·refine Wz ?_;refine ah.again (k+1) ⟨Z,Z,Z,Z,trivial⟩ Y ⟨by omega,a,λj o h=>?_⟩;by_cases s:j=k
   ·subst s;exact t
   exact q j o Y
  refine Wz ?_;exact ah.aF Z Z ⟨_,Z,a,by rw[jA (b.lt i) t q]⟩
 refine Wz ?_;exact ah.aF Z Z ⟨_,Z,a,by rw[(iv (λj o=>q j o (by have:=b.len;omega))).1]⟩
theorem pJ(A:Option Addr)(n c:Nat)(l:List UInt8)(w:World)(i:Sl w 1 CI A n l)(f:FuncId)(cap:List Value)(p:UInt8->Bool)(a:UInt8->Value)(b:∀x,a x=(if 1=1 then(CI x)[0]?.getD undef else .agg (CI x).toArray))
 (j:∀x∈l,∀g,Ext w g->aS prog f ([a x]++cap) g λv _=>v= .bool (p x)) (k:n<=9223372036854775807) (q:Body prog f:=by exact j0):
 aS prog 132 [.slice A n c,.func (.func f) #[] cap.toArray] w λv _=>v= .bool (l.any p):=by
 refine Wj func132 ntmps132 ?_;have d:=Ext.refl w;repeat'(first|refine Wz ?_|(refine Wc (sh _ _ _ _ _ (i.ext d) f cap p a b (λx m h o=>j x m h (d.trans o)) k) λh e=>?_;have d:=d.trans e))
 exact ah.aF rfl rfl ⟨_,rfl,d,by rw[iN]⟩
theorem lN(A:Option Addr)(n c:Nat)(l:List da)(w:World)(i:Sl w 6 cr A n l)(f:FuncId)(cap:List Value)(p:da->Bool)(a:da->Value)(b:∀x,a x=(if 6=1 then(cr x)[0]?.getD undef else .agg (cr x).toArray))
 (j:∀x∈l,∀g,Ext w g->aS prog f ([a x]++cap) g λv _=>v= .bool (p x)) (k:n<=9223372036854775807) (q:Body prog f:=by exact j0):
 aS prog 130 [.slice A n c,.func (.func f) #[] cap.toArray] w λv _=>v= .bool (l.any p):=by
 refine Wj func130 ntmps130 ?_;have d:=Ext.refl w;repeat'(first|refine Wz ?_|(refine Wc (kI _ _ _ _ _ (i.ext d) f cap p a b (λx m h o=>j x m h (d.trans o)) k) λh e=>?_;have d:=d.trans e))
 exact ah.aF rfl rfl ⟨_,rfl,d,by rw[iN]⟩
def nr(b:UInt8):Bool:=(decide ((b.toNat:Int)<97)||decide (122<(b.toNat:Int))) && (decide ((b.toNat:Int)<48)||decide (57<(b.toNat:Int)))
def dW(s:ByteArray):Bool:=decide (1<=(s.size:Int)∧(s.size:Int)<=8) && !(s.data.toList.any nr)
theorem LL{s:ByteArray}(h:1<=s.size∧s.size<=8)(k:s.data.toList.any nr=false):dW s=true:=by
 unfold dW<;>grind
theorem FE{s:ByteArray}(h:¬(1<=s.size∧s.size<=8)):dW s=false:=by
 unfold dW<;>grind
theorem Bt{s:ByteArray}(k:s.data.toList.any nr=true):dW s=false:=by
 unfold dW<;>grind
theorem JZ(b:UInt8)(w:World):aS prog 133 ([.int .u8 b.toNat]++[]) w λv _=>v= .bool (nr b):=by
 refine Wj func133 ntmps133 ?_;have c:=Ext.refl w;unfold nr;obtain⟨z,e⟩:∃z:Int,(b.toNat:Int)=z:=⟨_,rfl⟩;rw[e];by_cases d:z<97
 ·by_cases a:z<48
  ·refine Wz ?_;exact ah.aF rfl rfl ⟨_,rfl,c,by simp[d,a]<;>omega⟩
  refine Wz ?_;exact ah.aF rfl rfl ⟨_,rfl,c,by simp[d,a]<;>omega⟩
 by_cases a:122<z
 ·refine Wz ?_;exact ah.aF rfl rfl ⟨_,rfl,c,by simp[d,a]<;>omega⟩
 refine Wz ?_;exact ah.aF rfl rfl ⟨_,rfl,c,by simp[d,a]<;>omega⟩
theorem DP(s:ByteArray)(w:World)(o:s.size<=140737488351232):aS prog 62 [.string s] w λv _=>v= .bool (dW s):=by
 refine Wj func62 ntmps62 ?_;have a:=Ext.refl w;by_cases f:s=⟨#[]⟩
 ·subst f;repeat'(first|refine Wz ?_|refine SW.dP rfl rfl rfl (λh=>?_) (λh=>?_)|(refine SW.st (jt rfl rfl) rfl ?_))
  all_goals first|(exfalso;simp_all;done)|skip
  exact ah.aF rfl rfl ⟨_,rfl,a,rfl⟩
 by_cases l:s.size<=8
 ·have m:1<=s.size:=by
   rcases Ps s.size with h|h
   ·exact absurd (by cases s;simp[ByteArray.size]at h;subst h;rfl) f
   exact h
  have d:decide (s=⟨#[]⟩)=false:=decide_eq_false f;repeat'(first|refine Wz ?_|(refine SW.st ((jt rfl rfl).eq (congrArg Value.bool d)) rfl ?_)|refine SW.st (lA rfl) rfl ?_)
  refine SW.HT (e:=5) MR rfl rfl λb c j g hb n=>?_;have a:=a.trans g;refine Wc (pJ _ _ _ _ _ n _ [] nr (λx=> .int .u8 x.toNat) (λx=>Z) (λx _ j _=>JZ x j) Y) λp i=>?_;have a:=a.trans i;refine Wz ?_;refine ah.aF Z Z ⟨_,Z,a,?_⟩;cases k:s.data.toList.any nr
  ·rw[LL ⟨m,l⟩ k];rfl
  rw[Bt k];rfl
 have d:decide (s=⟨#[]⟩)=false:=decide_eq_false f;rw[FE Y];repeat'(first|refine Wz ?_|(refine SW.st ((jt Z Z).eq (congrArg Value.bool d)) Z ?_)|refine SW.st (lA Z) Z ?_)
 exact ah.aF Z Z ⟨_,Z,a,Z⟩
theorem u7(s:ByteArray)(w:World)(y:s.size<=140737488351232):aS prog 100 [.string s] w λv _=>v= .bool (dW s):=by
 refine Wj func100 ntmps100 ?_;have c:=Ext.refl w;refine Wz ?_;have p:s.data.toList.length=s.size:=Array.length_toList;refine CW.loop (λk:Nat=>[(0,.string s),(3,Iv (k:Int))]) (λk m=>k<=s.size∧Ext w m∧∀(i:Nat)(h:i<s.data.toList.length),i<k->nr s.data.toList[i]=false) (λk=>s.size-k) 0 ⟨rfl,rfl,trivial⟩ ⟨by omega,c,λi h h'=>by omega⟩ ?_;rintro k m ⟨A,c,n⟩;by_cases a:k<s.size
 ·have g:k<s.data.toList.length:=Y;have B:s[k]'a=s.data.toList[k]:=rfl;obtain⟨q,j⟩:=bq (nr s.data.toList[k]);obtain⟨z,o⟩:∃z:Int,((s.data.toList[k]).toNat:Int)=z:=⟨_,rfl⟩;have d:(((s[k]'a).toNat:Nat):Int)=z:=o;have b:=j;unfold nr at b;rw[o]at b;cases q
  ·have r:(97<=z∧z<=122)∨(48<=z∧z<=57):=by
    simp at b;omega
   repeat'(first|refine Wz ?_|(refine CW.bo rfl ?_)|refine SW.dP rfl rfl rfl (λh=>?_) (λh=>?_)|refine SW.st (lA rfl) rfl ?_|(refine SW.st ((vZ k rfl rfl rfl a).eq (congrArg (Value.int .u8) d)) rfl ?_))
   all_goals try omega
   all_goals exact ah.again (k+1) ⟨rfl,rfl,trivial⟩ Y ⟨by omega,c,λi h h'=>by
    by_cases e:i=k
    ·subst e;exact j
    exact n i h Y⟩
  have r:¬((97<=z∧z<=122)∨(48<=z∧z<=57)):=by
   simp at b;omega
  have l:dW s=false:=Bt (Pn.2 ⟨_,Pf g,j⟩);rw[l];repeat'(first|refine Wz ?_|(refine CW.bQ rfl ?_)|refine SW.dP rfl rfl rfl (λh=>?_) (λh=>?_)|refine SW.st (lA rfl) rfl ?_|(refine SW.st ((vZ k rfl rfl rfl a).eq (congrArg (Value.int .u8) d)) rfl ?_))
  all_goals try omega
  all_goals exact ah.aF rfl rfl ⟨_,rfl,c,rfl⟩
 have l:s.data.toList.any nr=false:=by
  rw[PA];intro x t;obtain⟨i,u,rfl⟩:=Pg t;rw[n i u Y];simp
 repeat'(first|refine Wz ?_|(refine Wc (bE _ _ _ _) λC f=>?_;have c:=c.trans f)|refine SW.st (lA rfl) rfl ?_)
 refine ah.aF rfl rfl ⟨_,rfl,c,?_⟩;unfold dW;rw[l];simp
theorem C3(A:Option Addr)(n c:Nat)(l:List ByteArray)(w:World)(d:Sl w 1 encStr A n l)(o:n*16<=140737488355328):aS prog 31 [.slice A n c] w (tZ w 9 1 encStr n l):=by
 refine Wj func31 ntmps31 ?_;have a:=Ext.refl w;refine Wz ?_;refine SW.st (sM rfl rfl) rfl ?_;repeat'(first|refine Wz ?_|(refine CW.cond rfl (λh=>?_) (λh=>?_)))
 ·have e:n=0:=by
   rcases Ps n with f|f
   ·exact f
   have:=d.base f;simp_all
  subst e;have:l=[]:=PB d.len;subst this;exact ah.aF rfl rfl ⟨_,rfl,a,none,0,rfl,Own.cq _ _ _ _ _ _⟩
 refine SW.Cv rfl λb i g hb=>?_;have a:=a.trans g;refine Wz ?_;refine SW.qZ (Qk n) (Qb l) (Own.cq i w.heap.size _ _ encStr (some ⟨b,0,none⟩)) (d.ext a) a.size Z Z Z Y Y λj c2 p k m=>?_;have a:=au a m (Ph _) (by simp[aN]);refine Wz ?_;exact ah.aF Z Z ⟨_,Z,a,j,c2,Z,k⟩
variable {s:aj} {nn:Nat}
def apart(a b:jC):Prop:=∀k,aN a.A a.c=some k->aN b.A b.c≠some k
theorem mD{a b:jC}{l:List α}(h:Own w lo e sz enc a.A a.n a.c l)(hb:∀k,aN b.A b.c=some k->w.heap.size<=k):apart a b:=λk c d=>by
 have:=h.lt_size k c;grind
structure kr(u v:da):Prop where
 names:apart u.Names v.Names
 av:apart u.ae v.ae
 aD:apart u.ao v.ao
structure uK(words:jC)(cs:List da):Prop where
 pair:cs.Pairwise kr
 words:∀u∈cs,apart words u.ao
theorem uK.nil(x:jC):uK x []:=⟨.nil,λ_ h=>by grind⟩
theorem uK.snoc{x:jC}{cs:List da}{v:da}(h:uK x cs)(d:∀u∈cs,kr u v)(e:apart x v.ao):uK x (cs++[v]):=by
 refine⟨PN.2 ⟨h.pair,by simp,λa f b hb=>?_⟩,λu c=>?_⟩
 ·grind
 rcases Px.1 c with c|c
 ·exact h.words u c
 grind
structure Hb(w:World)(lo:Nat)(r:cc)(s:aj)(cs:List da):Prop where
 words:Own w lo 3 1 aT r.Words.A r.Words.n r.Words.c s.Words
 heap:ik w lo r.Heap s.Heap
 aV:dJ w lo r.ab cs s.ab
 sep:uK r.Words cs
theorem Hb.low{r:cc}{cs:List da}(h:Hb w lo r s cs)(a:nn<=lo):Hb w nn r s cs:=⟨h.words.low a,h.heap.low a,h.aV.low a,h.sep⟩
theorem dJ.mem{s:jC}{cs:List da}{l:List aO}(h:dJ w lo s cs l){u:da}(b:u∈cs):∃c,lf w lo u c:=by
 obtain⟨i,a,rfl⟩:=Pg b;exact⟨_,h.each.get i a (by rw[<-h.each.len];exact a)⟩
theorem dJ.Of{s:jC}{cs:List da}{l:List aO}(h:dJ w lo s cs l){b:jC}(hb:∀k,aN b.A b.c=some k->w.heap.size<=k):∀u∈cs,apart u.Names b:=λu a=>by
 obtain⟨c,d⟩:=h.mem a;exact mD d.names hb
theorem dJ.Og{s:jC}{cs:List da}{l:List aO}(h:dJ w lo s cs l){b:jC}(hb:∀k,aN b.A b.c=some k->w.heap.size<=k):∀u∈cs,apart u.ae b:=λu a=>by
 obtain⟨c,d⟩:=h.mem a;exact mD d.av hb
theorem dJ.Oh{s:jC}{cs:List da}{l:List aO}(h:dJ w lo s cs l){b:jC}(hb:∀k,aN b.A b.c=some k->w.heap.size<=k):∀u∈cs,apart u.ao b:=λu a=>by
 obtain⟨c,d⟩:=h.mem a;exact mD d.aD hb
set_option maxRecDepth 100000
open Go.ChangeShapes Go.WideShapes Go.ChangeAt Go.RowKit Go.Deep Go.Joins
variable {P:Program} {en:α -> List Value} {Good:α -> Prop}
section
variable {H:Type}{enc:TypeId×Value->H}{W:World}{base:Nat}{spare:Nat->Bool}{held:Bool}{fuel:Nat}{cs:List Value}{x:DataW H×List MemPlace}
theorem qy:∀{l:List (DataW H)}{d:DataW H},d∈l->∀n∈d.weights P e,n∈DataW.weightsAll P e l
 | a::r,d,h,n,hn=>by
   simp only[DataW.weightsAll,List.mem_append];rcases Qr.1 h with rfl|h
   ·exact .inl hn
   exact .inr (qy h n hn)
theorem Kb{t e:Nat}[S:bL prog t e sz](L:prog.cellsOf e=sz)(w:prog.bytesOf e=b)
 (z:∀fuel cs x,DataW.trod enc prog W base spare held fuel e cs=some x->(∀y∈x.1.weights prog e,y<=reachBytes)->∃a:α,cs=en a∧Good a) (h:DataW.trod enc prog W base spare held fuel t cs=some x) (J:∀y∈x.1.weights prog t,y<=reachBytes):
 ∃A n c l,cs=[.slice A n c]∧Sl W sz en A n l∧n*b<=140737488351232∧∀a∈l,Good a:=by
 rcases open_slice S.mg h with⟨s,V⟩|⟨a,d,cap,m,k,D,X,s,hb,hl,hm,B,M,N⟩
 ·exact⟨none,0,0,[],s,Sl.cq _ _ _ _,by simp,by simp⟩
 have O:d<=m:=by rw[B];split<;>omega
 have p:x.1= .slice ((List.range d).map D) ((List.range (m-d)).map λj=>D (d+j)):=by rw[M]
 have C:d*b<=140737488351232:=by
  have:=J ((((List.range d).map D).length+((List.range (m-d)).map λj=>D (d+j)).length)*prog.bytesOf e) (by rw[p];simp[DataW.weights,S.mg]);rw[w]at this;simp only[reachBytes]at this;refine Pj (PC _ ?_) this;simp
 have o:∀i,i<d->∃q:α,Good q∧∀j u,(en q)[j]?=some u->W.cell? ((a.add (i*sz)).add j)=some u:=λi E=>by
  obtain⟨cs',F,P⟩:=N i Y
  obtain⟨q,rfl,Q⟩:=z _ _ _ P (λy R=>by
   apply J;rw[p];simp only[DataW.weights,S.mg,List.mem_cons,List.mem_append];exact .inr (.inl (qy (Pw.2 ⟨i,by simpa using E,Z⟩) y R)))
  obtain⟨_,G,r⟩:=World.cells?_some F;rw[L]at G r;refine⟨q,Q,λj u v=>?_⟩
  have hj:j<(en q).length:=by
   rcases PJ j (en q).length with h|h
   ·exact h
   simp[List.getElem?_eq_none h]at v
  rw[r j Y];exact v
 by_cases T:d=0
 ·subst T;exact⟨some a,0,cap,[],s,Sl.cq _ _ _ _,by simp,by simp⟩
 have H:∃f:Nat->α,∀i,i<d->Good (f i)∧∀j u,(en (f i))[j]?=some u->W.cell? ((a.add (i*sz)).add j)=some u:=by
  have I:Nonempty α:=⟨(o 0 Y).choose⟩;exact⟨λi=>if h:i<d then(o i h).choose else Classical.choice I,λi h=>by simp only[h,dif_pos];exact(o i h).choose_spec⟩
 obtain⟨f,K⟩:=H;refine⟨some a,d,cap,(List.range d).map f,s,⟨by simp,λ_=>Z,λi g j u v=>?_⟩,C,?_⟩
 ·simp at g;exact(K i g).2 j u (by simpa using v)
 intro q U;obtain⟨i,g,rfl⟩:=Pw.1 U;exact(K i (by simpa using g)).1
end
set_option maxRecDepth 100000
open Go.ChangeShapes Go.WideShapes Go.ChangeAt Go.RowKit Go.Deep Go.Joins
section
variable {H:Type}{enc:TypeId×Value->H}{W:World}{base:Nat}{spare:Nat->Bool}{held:Bool}{fuel:Nat}{cs:List Value}{x:DataW H×List MemPlace}
theorem LR:∀fuel cs x,DataW.trod enc prog W base spare held fuel 9 cs=some x->(∀y∈x.1.weights prog 9,y<=reachBytes)->∃s:ByteArray,cs=encStr s∧s.size<=140737488351232:=by
 intro fuel cs x h a;obtain⟨s,rfl,rfl,_⟩:=DataW.trod_string Tryz.underlying9 h;refine⟨s,Z,?_⟩;have:=a s.data.toList.length (by simp[DataW.weights]);simp only[reachBytes]at this;simpa using this
end
theorem uQ(u:da)(c:aO)(t:Int)(w:World)(f:DO w u c)(y:u.ao.n<=9223372036854775807):
 aS prog 121 [.agg (cr u).toArray,Iv t] w λv _=>v= .bool (decide (t∈c.ao)):=by
 refine Wj func121 ntmps121 ?_;refine Ww λn z b o a=>?_;have A:=f.aD.base;have s:=f.aD.len;have p:=f.aD;refine Wz ?_
 refine CW.loop (λk:Nat=>[(1,Iv t),(2,Pt n),(5,Iv (k:Int))]) (λk g=>k<=u.ao.n∧Ext w g∧ay g n 58 (cr u)∧∀(i:Nat)(h:i<c.ao.length),i<k->c.ao[i]≠t)
  (λk=>u.ao.n-k) 0 ⟨Z,Z,Z,trivial⟩ ⟨by omega,b,a,λi h j=>by omega⟩ ?_
 rintro k g ⟨B,b,a,q⟩;by_cases d:k<u.ao.n
 ·have l:k<c.ao.length:=Y;by_cases r:c.ao[k]=t
  ·repeat'(first|refine Wz ?_|refine Wn b (p.one d (congrArg aT (rfl:c.ao[k]=c.ao[k]))) ?_)
   all_goals try omega
   exact ah.aF Z Z ⟨_,Z,b,by rw[decide_eq_true (r▸Pf l)]⟩
  repeat'(first|refine Wz ?_|refine Wn b (p.one d (congrArg aT (rfl:c.ao[k]=c.ao[k]))) ?_)
  all_goals try omega
  refine ah.again (k+1) ⟨Z,Z,Z,trivial⟩ Y ⟨by omega,b,a,λi h' j=>?_⟩;by_cases m:i=k
  ·subst m;exact r
  exact q i h' Y
 refine Wz ?_;refine ah.aF Z Z ⟨_,Z,b,?_⟩;rw[decide_eq_false];intro x;obtain⟨i,j,e⟩:=Pg x;exact q i j Y e
variable {y:Operand} {t ty:TypeId}
section
variable {P:Program}{L:Env}{w:World}{d:Option Nat}{T:TypeId}{pos:String}{af:Array Edge}{g:Option (Nat×Bool)}
theorem Kw{x:Operand}{a:ByteArray}(e:cg L x=some (.string a))(f:cg L y=some (.string a)):St P ⟨d,.binOp .neq t x y ty,T,pos,af,g⟩ L w (.bool false):=
 ⟨λ_ A b c _=>by
  have h:=b.eval e;have i:=b.eval f;generalize A.eval=ρ at*
  have j:(binOp .neq t (.string a) (.string a)).run P c= .ok (.bool false) c:=by
   simp_all[binOp,Op.stringOp,pure]
  simp_all[execOp,eqGuard]⟩
theorem LW{k:TypeId}[c:wy P t k]{x:Operand}(xs:List Int)(b:cg L x=some (.agg (xs.map (Value.int .i64)).toArray))(e:cg L y=some (.agg (xs.map (Value.int .i64)).toArray))(a:Nat.beq xs.length k=true):
 St P ⟨d,.binOp .neq t x y ty,T,pos,af,g⟩ L w (.bool false):=(JI xs xs b e a a).eq fy
end
def Slab.Fp(r:Slab):List Int:=[r.At,r.ai,r.bR]
theorem xT(r q:cc)(s:aj)(w:World)(C:mB w r s)(hb:mB w q s)(D:s.small):
 aS prog 7 [.agg (ar r).toArray,.agg (ar q).toArray] w λv _=>v= .bool true:=by
 refine Wj func7 ntmps7 ?_;refine Ww λt E c L a=>?_;refine SW.box Z Z λu M I N b=>?_;obtain⟨c,a⟩:=bk I c a;obtain⟨cs,F⟩:=C.aV;obtain⟨cs',n⟩:=hb.aV;obtain⟨X,z2⟩:=F.len;obtain⟨z3,z4⟩:=n.len;have s1:=D.words;have s3:=D.aV;have m1:=C.words.len
 have O:∀d,Ext w d->aS prog 13 [.slice r.Words.A r.Words.n r.Words.c,.slice q.Words.A q.Words.n q.Words.c] d λv _=>v= .bool true:=λd p=>by
  have:=jV _ _ _ _ r.Words.c q.Words.c _ _ d (C.words.ext p) (hb.words.ext p) Y;simpa using this
 have P:∀d,Ext w d->aS prog 14 [.agg (bg r.Heap).toArray,.agg (bg q.Heap).toArray] d λv _=>v= .bool true:=λd p=>CJ _ _ _ d (C.heap.ext p) (hb.heap.ext p) D.heap;repeat'(first|refine Wz ?_|(refine CW.bo Z ?_)|refine SW.want Z Z ?_|refine Wm ((e7 a)) ?_|refine Wm ((e7 b)) ?_|((first|refine Wk (O _ c) ?_|refine Wk (P _ c) ?_);intro v E h U;subst U;obtain⟨c,a,b⟩:=aY h c a b))
 all_goals try omega
 refine CW.loop (λk:Nat=>[(2,Pt t),(3,Pt u),(5,Iv (k:Int))]) (λk d=>k<=r.ab.n∧Ext w d∧ay d t 37 (ar r)∧ay d u 37 (ar q)) (λk=>r.ab.n-k) 0
  ⟨Z,Z,Z,trivial⟩ ⟨by omega,c,a,b⟩ ?_
 rintro k d ⟨hk,c,a,b⟩;have hA:=F.row.base;have hB:=n.row.base;by_cases J:k<r.ab.n
 ·have x:k<q.ab.n:=Y;have i:=F.each.get k Y Y;have f:=n.each.get k Y Y;have K:=D.each _ (Pf (show k<s.ab.length by omega));have q1:=i.names.len;have q2:=i.av.len;have q3:=i.aD.len;have V:=f.names.len;have W:=f.av.len;have q4:=K.names;have q5:=K.av;have q6:=K.aD;have g1:=i.size;have g2:=i.per;have g3:=i.order;have g4:=f.size;have g5:=f.per;have g6:=f.order
  have Q:∀d,Ext w d->aS prog 13 [.slice cs[k].ao.A cs[k].ao.n cs[k].ao.c,.slice cs'[k].ao.A cs'[k].ao.n cs'[k].ao.c] d λv _=>v= .bool true:=λd p=>by
   have:=jV _ _ _ _ cs[k].ao.c cs'[k].ao.c _ _ d (i.aD.ext p) (f.aD.ext p) Y;simpa using this
  repeat'(first|refine Wz ?_|refine Wo c ((F.row.all J)) ?_)
  refine Wr (ox _) λG M l y e=>?_;have R:=c.up y;obtain⟨c,a,b⟩:=aY l c a b;repeat'(first|refine Wz ?_|refine Wo c ((n.row.all x)) ?_)
  refine Wr (ox _) λH M l z g=>?_;have S:=c.up z;obtain⟨c,a,b,e⟩:=cG l c a b e;repeat'(first|refine Wz ?_|(refine CW.bo Z ?_)|(refine Wc (Q _ c) λE h=>?_;obtain⟨c,a,b,e,g⟩:=dz h c a b e g))
  all_goals try omega
  refine CW.loop (λj:Nat=>[(2,Pt t),(3,Pt u),(5,Iv (k:Int)),(6,Pt G),(7,Pt H),(8,Iv (j:Int))])
   (λj d=>j<=cs[k].Names.n∧Ext w d∧ay d t 37 (ar r)∧ay d u 37 (ar q)∧ay d G 58 (cr cs[k])∧ay d H 58 (cr cs'[k])) (λj=>cs[k].Names.n-j) 0
   ⟨Z,Z,Z,Z,Z,Z,trivial⟩ ⟨by omega,c,a,b,e,g⟩ ?_
  rintro j d ⟨T,c,a,b,e,g⟩;have A:=i.names.base;have B:=f.names.base;by_cases o:j<cs[k].Names.n
  ·have m:j<cs'[k].Names.n:=Y;repeat'(first|refine Wz ?_|refine fq ?_|refine Wn c (i.names.one o Z) ?_|refine Wn c (f.names.one m Z) ?_|(refine SW.st (Kw Z Z) Z ?_)|(refine SW.br λE h=>?_;obtain⟨c,a,b,e,g⟩:=dz h c a b e g))
   exact ah.again (j+1) ⟨Z,Z,Z,Z,Z,Z,trivial⟩ Y ⟨by omega,c,a,b,e,g⟩
  refine Wz ?_
  refine CW.loop (λj:Nat=>[(2,Pt t),(3,Pt u),(5,Iv (k:Int)),(6,Pt G),(7,Pt H),(9,Iv (j:Int))])
   (λj d=>j<=cs[k].ae.n∧Ext w d∧ay d t 37 (ar r)∧ay d u 37 (ar q)∧ay d G 58 (cr cs[k])∧ay d H 58 (cr cs'[k])) (λj=>cs[k].ae.n-j) 0
   ⟨Z,Z,Z,Z,Z,Z,trivial⟩ ⟨by omega,c,a,b,e,g⟩ ?_
  rintro j d ⟨T,c,a,b,e,g⟩;have A:=i.av.base;have B:=f.av.base;by_cases o:j<cs[k].ae.n
  ·have m:j<cs'[k].ae.n:=Y;repeat'(first|refine Wz ?_|refine fq ?_|refine Wo c ((i.av.all o)) ?_|refine Wo c ((f.av.all m)) ?_|(refine SW.st (LW (Slab.Fp (s.ab[k]).ae[j]) Z Z Z) Z ?_)|(refine SW.br λE h=>?_;obtain⟨c,a,b,e,g⟩:=dz h c a b e g))
   exact ah.again (j+1) ⟨Z,Z,Z,Z,Z,Z,trivial⟩ Y ⟨by omega,c,a,b,e,g⟩
  refine Wz ?_;exact ah.again (k+1) ⟨Z,Z,Z,trivial⟩ Y ⟨by omega,c,a,b⟩
 refine Wz ?_;exact ah.aF Z Z ⟨_,Z,c,Z⟩
variable {w':World}
theorem gK.aQ{t:Nat}{r:cc}(h:gK w lo r s)(b:oe w w' t)(a:(Nat.beq t 3||(Nat.beq t 129||(Nat.beq t 98||(Nat.beq t 100||(Nat.beq t 58||(Nat.beq t 9||Nat.beq t 60))))))=false):gK w' lo r s:=by
 simp only[Bool.or_eq_false_iff]at a;obtain⟨c,d,e,f,g,i,j⟩:=a;obtain⟨cs,k⟩:=h.aV;exact⟨h.words.aQ b c,h.heap.aQ b (by simp[c,d,e,f]),⟨cs,k.aQ b (by simp[c,g,i,j])⟩⟩
variable {k:Nat}
theorem xI{l:List Region}(a:k<l.length)(i:Int):dq (l.take (k+1)) i=(dq (l.take k) i||(decide ((l[k]).aE<=i) && decide (i<(l[k]).aE+(l[k]).ax))):=by
 unfold dq;rw[Pk a,Re];grind
theorem MW:marksOf (λi=>dq [] i) 256=List.replicate 256 false:=by
 apply PK (by rw[DF,QK]);intro j a b;rw[nD,List.getElem_replicate]
 rfl
theorem xJ(A:Option Addr)(n c:Nat)(l:List Region)(w:World)(C:Sl w 2 eV A n l)(D:∀r∈l,r.ok)(S:n<=9223372036854775807):
 aS prog 57 [.slice A n c] w λv q=>∃B d,v= .slice B 256 d∧Own q w.heap.size 4 1 pb B 256 d (marksOf (λi=>dq l i) 256):=by
 refine Wj func57 ntmps57 ?_;have a:=Ext.refl w;have T:=C.base;refine Wz ?_;refine SW.make (enc:=pb) (k:=256) false rfl rfl rfl Y Y rfl λB d E m u=>?_;have F:=a.size;have a:=a.trans m;have u:=Own.low u F;have M:=u.sl.base;refine Wz ?_
 refine CW.loop (λk:Nat=>[(3,.slice B 256 d),(8,.slice A n c),(9,Iv (n:Int)),(10,Iv (k:Int))])
  (λk q=>k<=n∧Ext w q∧Own q w.heap.size 4 1 pb B 256 d (marksOf (λi=>dq (l.take k) i) 256)) (λk=>n-k) 0 ⟨Z,Z,Z,Z,trivial⟩ ⟨by omega,a,by
    have e:marksOf (λi=>dq (l.take 0) i) 256=List.replicate 256 false:=MW;rw[e];exact u⟩ ?_
 rintro k q ⟨U,a,o⟩;by_cases x:k<n
 ·have y:=C.lt x;have p:=D (l[k]) (Pf y);obtain⟨f,J⟩:=Pm p.1;obtain⟨s,N⟩:=Pm (show 0<=(l[k]).ax by have:=p.2.1;omega);have K:=p.2.2.2;repeat'(first|refine Wz ?_|refine Wo a ((C.all x)) ?_)
  refine SW.alloc Z λb E m hb G=>?_;have H:=a.up hb;obtain⟨a,o⟩:=bk m a o;skip;refine Wg G (gG.one (enc:=eV) _) λV g t=>?_;have a:=a.own H t;have o:=o.grown t (.inr (o.cB G Z));refine Wz ?_
  refine CW.loop (λj:Nat=>[(3,.slice B 256 d),(5,Pt b),(6,Iv ((f+j:Nat):Int)),(8,.slice A n c),(9,Iv (n:Int)),(10,Iv (k:Int))])
   (λj q=>j<=s∧Ext w q∧ay q b 108 (eV (l[k]))∧Own q w.heap.size 4 1 pb B 256 d (marksOf (λi=>dq (l.take k) i||(decide (f<=i) && decide (i<f+j))) 256)) (λj=>s-j) 0
   ⟨Z,Z,by rw[J];rfl,Z,Z,Z,trivial⟩ ⟨by omega,a,g,by
    have e:marksOf (λi=>dq (l.take k) i||(decide (f<=i) && decide (i<f+0))) 256=marksOf (λi=>dq (l.take k) i) 256:=iw λi _=>by
     have:(decide (f<=i) && decide (i<f+0))=false:=by
      rcases PJ i f with h|h
      ·rw[decide_eq_false (by omega:¬f<=i)];rfl
      rw[decide_eq_false (by omega:¬i<f+0),Bool.and_false]
     rw[this,Bool.or_false]
    rw[e];exact o⟩ ?_
  rintro j q ⟨W,a,g,o⟩;by_cases O:j<s
  ·repeat'(first|refine Wz ?_|(refine Wc (wB p _) λE m=>?_;obtain⟨a,g,o⟩:=aY m a g o))
   refine SW.eY (f+j) 0 true o Z Z Z Y Y (by rw[add_zero]) Z λX z t=>?_;have a:=au a t (Ph _) o.az;have g:=g.grown t (λe=>o.cB g Z e.symm);rw[pZ]at z;refine Wz ?_;refine ah.again (j+1) ⟨Z,Z,Z,Z,Z,Z,trivial⟩ Y ⟨by omega,a,g,?_⟩
   have e:marksOf (λi=>dq (l.take k) i||(decide (f<=i) && decide (i<f+(j+1)))) 256=marksOf (λi=>if i=f+j then true else dq (l.take k) i||(decide (f<=i) && decide (i<f+j))) 256:=iw λi _=>by
    by_cases L:i=f+j
    ·subst L;have P:f<=f+j:=Y;have Q:f+j<f+(j+1):=Y;simp[P,Q]
    have I:decide (i<f+(j+1))=decide (i<f+j):=by rw[decide_eq_decide];omega
    simp[L,I]
   rw[e];exact z
  obtain rfl:j=s:=Y;repeat'(first|refine Wz ?_|(refine Wc (wB p _) λE m=>?_;obtain⟨a,g,o⟩:=aY m a g o))
  refine ah.again (k+1) ⟨Z,Z,Z,Z,trivial⟩ Y ⟨by omega,a,?_⟩
  have e:marksOf (λi=>dq (l.take (k+1)) i) 256=marksOf (λi=>dq (l.take k) i||(decide (f<=i) && decide (i<f+j))) 256:=iw λi _=>by
   rw[xI y,J,N];have R:decide (((f:Nat):Int)<=(i:Int))=decide (f<=i):=by rw[decide_eq_decide];omega
   have I:decide ((i:Int)<((f:Nat):Int)+((j:Nat):Int))=decide (i<f+j):=by rw[decide_eq_decide];omega
   rw[R,I]
  rw[e];exact o
 refine Wz ?_;obtain rfl:k=n:=Y;refine ah.aF Z Z ⟨_,Z,a,B,d,Z,?_⟩;rwa[Pl (by have:=C.len;omega)]at o
def CZ(lo:Nat)(l:List Region)(v:Value)(w:World):Prop:=∃A c,v= .slice A l.length c∧Own w lo 108 2 eV A l.length c l
theorem ay.NX{r:Region}{vs:List Value}(h:ay w b t vs)(e:vs=eV r):Sl w 2 eV (some ⟨b,0,none⟩) 1 [r]:=by grind[ay.la]
theorem C0(A:Option Addr)(c N:Nat)(hN:N=256)(p:Nat->Bool)(w:World)(S:Sl w 1 pb A N (marksOf p N)):
 aS prog 58 [.slice A N c] w (CZ w.heap.size (runs p N)):=by
 refine Wj func58 ntmps58 ?_;have d:=Ext.refl w;have hA:=S.base;have u:∀k,k<N->w.cell? ((A.getD default).add (k*1))=some (.bool (p k)):=λk G=>S.one G (by rw[nD];rfl);refine Wz ?_
 refine CW.loop (λs:Nat×Option Addr×Nat=>[(3,.slice s.2.1 (runs p s.1).length s.2.2),(7,.slice A N c),(8,Iv (N:Int)),(9,Iv (s.1:Int))])
  (λs H=>s.1<=N∧Ext w H∧Own H w.heap.size 108 2 eV s.2.1 (runs p s.1).length s.2.2 (runs p s.1)) (λs=>N-s.1) (0,none,0) ⟨Z,Z,Z,Z,trivial⟩ ⟨by omega,d,Own.cq _ _ _ _ _ _⟩ ?_
 rintro⟨k,I,J⟩ H ⟨G,d,f⟩;simp only at G f⊢;have m:=re p k;have j:=m.len;by_cases K:k<N
 ·obtain⟨U,t⟩:=bq (p k);have z:=u k K;rw[t]at z;cases U
  ·have e:runs p (k+1)=runs p k:=by simp[runs,t]
   repeat'(first|refine Wz ?_|(refine CW.bQ Z ?_)|refine SW.st (bX d Z z) Z ?_)
   refine ah.again (k+1,I,J) ⟨by rw[e];rfl,Z,Z,Z,trivial⟩ dD ⟨by simp only;omega,d,by simp only;rw[e];exact f⟩
  by_cases B:0<k∧p (k-1)=true
  ·obtain⟨a,r,C,V⟩:=m.last B.1 B.2;have e:runs p (k+1)=a++[⟨r.aE,r.ax+1⟩]:=by simp[runs,t,B,C,lK]
   have n:=m.Mo r (by rw[C];simp);have o:r.ok:=⟨n.1,n.2.1,by omega,by omega⟩;rw[C]at f j⊢;have q:(a++[r]).length=a.length+1:=by simp
   rw[q]at f j;rw[q];have D:=f.sl.base;have l:(a++[r])[a.length]'fy=r:=by simp
   have h:=f.sl.all (i:=a.length) Y;rw[l]at h;have L:(a++[r]).set a.length ⟨r.aE,r.ax+1⟩=a++[⟨r.aE,r.ax+1⟩]:=by simp
   refine CW.seq ?_;repeat'(first|refine Wz ?_|(refine CW.bo Z ?_)|refine SW.st (aU (a.length) Z Z ig Y Y) Z ?_|refine SW.st (bX d Z z) Z ?_)
   refine SW.st (cv Z Z h) Z ?_;repeat'(first|refine Wz ?_|refine SW.st (aU (a.length) Z Z ig Y Y) Z ?_|(refine SW.call Z Z (wB o _) ?_;intro v M g O;subst O;have d:=d.trans g;have f:=f.ext g))
   have h:=f.sl.all (i:=a.length) Y;rw[l]at h;refine SW.st (aJ Z (h 1 (Iv r.ax) Z)) Z ?_;repeat'(first|refine Wz ?_|refine SW.st (aU (a.length) Z Z ig Y Y) Z ?_)
   refine SW.eY a.length 1 ⟨r.aE,r.ax+1⟩ f Z Z Z Y Y Z (by rw[l];rfl) λT E F=>?_;have d:=au d F (Ph _) f.az;refine Wz ?_;refine ah.again (k+1,I,J) ⟨by simp only[e];simp[get];rfl,Z,Z,Z,trivial⟩ dD ⟨by simp only;omega,d,?_⟩;simp only[e];rw[L]at E;simpa using E
  have e:runs p (k+1)=runs p k++[⟨(k:Int),1⟩]:=by
   simp only[runs,t,if_true];rw[if_neg B]
  have P:∀r∈runs p k,r.aE+r.ax<(k:Int):=m.below λW=>by
   cases X:p (k-1)with
   | false=>rfl
   | true=>exact absurd ⟨W,X⟩ B
  have D:=f.sl.base;rcases List.eq_nil_or_concat (runs p k)with hn|⟨a,r,C⟩
  ·rw[hn]at f j e⊢;simp only[List.length_nil];repeat'(first|refine Wz ?_|(refine CW.bo Z ?_)|refine SW.st (bX d Z z) Z ?_)
   refine SW.bz Z Z Z Z Z λb M g hb Q=>?_;have d:=d.trans g;have f:=f.ext g;refine SW.append f (ay.NX (r:=⟨(k:Int),1⟩) Q Z) d.size Z Z Z fy fy λR c2 T x F=>?_;have d:=au d F (Ph _) f.az;refine Wz ?_;refine ah.again (k+1,R,c2) ⟨by simp only[e];rfl,Z,Z,Z,trivial⟩ dD ⟨by simp only;omega,d,?_⟩;simp only[e];exact x
  have y:runs p k=a++[r]:=by simpa using C
  have n:=m.Mo r (by rw[y];simp);have o:r.ok:=⟨n.1,n.2.1,by omega,by omega⟩;have za:=P r (by rw[y];simp);rw[y]at f j e⊢;have q:(a++[r]).length=a.length+1:=by simp
  rw[q]at f j;rw[q];have D:=f.sl.base;have l:(a++[r])[a.length]'fy=r:=by simp
  have h:=f.sl.all (i:=a.length) Y;rw[l]at h;repeat'(first|refine Wz ?_|(refine CW.bo Z ?_)|refine SW.st (aU (a.length) Z Z ig Y Y) Z ?_|refine SW.st (bX d Z z) Z ?_)
  refine SW.st (cv Z Z h) Z ?_;repeat'(first|refine Wz ?_|(refine SW.call Z Z (wB o _) ?_;intro v M g O;subst O;have d:=d.trans g;have f:=f.ext g))
  refine SW.bz Z Z Z Z Z λb M g hb Q=>?_;have d:=d.trans g;have f:=f.ext g;refine SW.append f (ay.NX (r:=⟨(k:Int),1⟩) Q Z) d.size Z Z Z Y Y λR c2 T x F=>?_;have d:=au d F (Ph _) f.az;refine Wz ?_;refine ah.again (k+1,R,c2) ⟨by simp only[e];simp[get];rfl,Z,Z,Z,trivial⟩ dD ⟨by simp only;omega,d,?_⟩;simp only[e];simpa using x
 refine Wz ?_;obtain rfl:k=N:=Y;exact ah.aF Z Z ⟨_,Z,d,I,J,Z,f⟩
theorem nV(A:Option Addr)(n c:Nat)(l:List Region)(x:Int)(w:World)(g:Sl w 2 eV A n l)(i:∀r∈l,r.ok)(z:n<=9223372036854775807):
 aS prog 95 [.slice A n c,Iv x] w λv _=>v= .bool (dq l x):=by
 refine Wj func95 ntmps95 ?_;have b:=Ext.refl w;have B:=g.base;refine Wz ?_;refine CW.loop (λk:Nat=>[(0,.slice A n c),(1,Iv x),(5,Iv (k:Int))]) (λk o=>k<=n∧Ext w o∧dq (l.take k) x=false) (λk=>n-k) 0 ⟨rfl,rfl,rfl,trivial⟩ ⟨by omega,b,rfl⟩ ?_;rintro k o ⟨C,b,m⟩;by_cases d:k<n
 ·have e:=g.lt d;have a:=i (l[k]) (Pf e);have D:=a.1;have E:=a.2.1;have F:=a.2.2.2;have p:=g.dp d (j:=0) (u:=Iv (l[k]).aE) rfl;have q:=g.dp d (j:=1) (u:=Iv (l[k]).ax) rfl;have s:=xI e x;repeat'(first|refine Wz ?_|(first|refine CW.og rfl (λh=>?_) (λh=>?_)|(apply CW.dF mixed;(·kernel_rfl);rotate_left;intro t f;have b:=b.trans f;rotate_right))|refine Wn b p ?_|refine Wn b q ?_|refine SW.ba rfl rfl (λt f=>(bE _ _ _ _)) ?_|exact SW.br rfl)
  ·refine ah.aF rfl rfl ⟨_,rfl,b,?_⟩;congr 1
   symm
   unfold dq;rw[Pn];exact⟨l[k],Pf e,by simp;omega⟩
  refine ah.again (k+1) ⟨rfl,rfl,rfl,trivial⟩ Y ⟨by omega,b,?_⟩;rw[s,m,Bool.false_or];by_cases y:(l[k]).aE<=x
  ·have:¬x<(l[k]).aE+(l[k]).ax:=Y;simp[this]
  simp[y]
 refine Wz ?_;refine ah.aF rfl rfl ⟨_,rfl,b,?_⟩;rw[Pl (by have:=g.len;omega)]at m;rw[m]
theorem Ir(g:FuncId)(cap:List Value)(N:Nat)(hN:N=256)(p:Nat->Bool)(w:World)
 (C:∀(z:Int)(j:World),0<=z->z<256->Ext w j->aS prog g ([Iv z]++cap) j λu _=>u= .bool (p z.toNat)) (L:Body prog g:=by exact j0):
 aS prog 93 [.func (.func g) #[] cap.toArray] w (CZ w.heap.size (runs p N)):=by
 refine Wj func93 ntmps93 ?_;have d:=Ext.refl w;refine Wz ?_
 refine CW.loop (λs:Nat×Option Addr×Nat=>[(0,.func (.func g) #[] cap.toArray),(3,.slice s.2.1 (runs p s.1).length s.2.2),(4,Iv (s.1:Int))])
  (λs j=>s.1<=N∧Ext w j∧Own j w.heap.size 108 2 eV s.2.1 (runs p s.1).length s.2.2 (runs p s.1)) (λs=>N-s.1) (0,none,0) ⟨rfl,rfl,rfl,trivial⟩ ⟨by omega,d,Own.cq _ _ _ _ _ _⟩ ?_
 rintro⟨k,D,E⟩ j ⟨O,d,f⟩;simp only at O f⊢;have t:=re p k;have n:=t.len;by_cases P:k<N
 ·obtain⟨M,l⟩:=bq (p k)
  have F:∀j,Ext w j->aS prog g ([Iv (k:Int)]++cap) j λu _=>u= .bool M:=λj h=>by
   have:=C (k:Int) j Y Y h;rwa[Int.toNat_natCast,l]at this
  cases M
  ·have e:runs p (k+1)=runs p k:=by simp[runs,l]
   repeat'(first|refine Wz ?_|(refine CW.bQ Z ?_)|(refine SW.nv Z Z Z (F _ d) ?_;intro v y c m;subst m;obtain⟨d,f⟩:=bk c d f))
   refine ah.again (k+1,D,E) ⟨Z,by simp only[e];rfl,Z,trivial⟩ dD ⟨by simp only;omega,d,by simp only;rw[e];exact f⟩
  by_cases x:0<k∧p (k-1)=true
  ·obtain⟨a,r,G,Q⟩:=t.last x.1 x.2;have e:runs p (k+1)=a++[⟨r.aE,r.ax+1⟩]:=by simp[runs,l,x,G,lK]
   have R:=t.Mo r (by rw[G];simp)
   have H:∀j,Ext w j->aS prog g ([Iv ((k:Int)-1)]++cap) j λu _=>u= .bool true:=λj h=>by
    have:=C ((k:Int)-1) j Y Y h;rwa[show((k:Int)-1).toNat=k-1 by omega,x.2]at this
   have S:=x.1;rw[G]at f n⊢;have A:(a++[r]).length=a.length+1:=by simp
   rw[A]at f n;rw[A];have T:=f.sl.base;have o:(a++[r])[a.length]'fy=r:=by simp
   have I:(a++[r]).set a.length ⟨r.aE,r.ax+1⟩=a++[⟨r.aE,r.ax+1⟩]:=by simp
   repeat'(first|refine Wz ?_|(refine CW.bo Z ?_)|refine SW.st (aU (a.length) Z Z ig Y Y) Z ?_|(refine SW.nv Z Z Z (F _ d) ?_;intro v y c m;subst m;obtain⟨d,f⟩:=bk c d f)|(refine SW.nv Z Z Z (H _ d) ?_;intro v y c m;subst m;obtain⟨d,f⟩:=bk c d f))
   have q:=f.sl.all (i:=a.length) Y;rw[o]at q;refine Wl (q 1 (Iv r.ax) Z) ?_;repeat'(first|refine Wz ?_|refine SW.st (aU (a.length) Z Z ig Y Y) Z ?_)
   refine SW.eY a.length 1 ⟨r.aE,r.ax+1⟩ f Z Z Z Y Y Z (by rw[o];rfl) λU B J=>?_;have d:=au d J (Ph _) f.az;refine Wz ?_;refine ah.again (k+1,D,E) ⟨Z,by simp only[e];simp[get];rfl,Z,trivial⟩ dD ⟨by simp only;omega,d,?_⟩;simp only[e];rw[I]at B;simpa using B
  have e:runs p (k+1)=runs p k++[⟨(k:Int),1⟩]:=by
   simp only[runs,l,if_true];rw[if_neg x]
  by_cases V:k=0
  all_goals
   have H:0<k->∀j,Ext w j->aS prog g ([Iv ((k:Int)-1)]++cap) j λu _=>u= .bool false:=λW j h=>by
    have:=C ((k:Int)-1) j Y Y h
    have X:p (k-1)=false:=by
     cases hh:p (k-1)with
     | false=>rfl
     | true=>exact absurd ⟨W,hh⟩ x
    rwa[show((k:Int)-1).toNat=k-1 by omega,X]at this
   repeat'(first|refine Wz ?_|(refine CW.bo Z ?_)|(refine SW.nv Z Z Z (F _ d) ?_;intro v y c m;subst m;obtain⟨d,f⟩:=bk c d f)|(refine SW.nv Z Z Z (H Y _ d) ?_;intro v y c m;subst m;obtain⟨d,f⟩:=bk c d f))
   refine SW.bz Z Z Z Z Z λb y c hb L=>?_;obtain⟨d,f⟩:=bk c d f;refine SW.append f (ay.NX (r:=⟨(k:Int),1⟩) L Z) d.size Z Z Z Y Y λA2 c2 U K J=>?_;have d:=au d J (Ph _) f.az;refine Wz ?_;refine ah.again (k+1,A2,c2) ⟨Z,by simp only[e];simp[get];rfl,Z,trivial⟩ dD ⟨by simp only;omega,d,?_⟩;simp only[e];simpa using K
 refine Wz ?_;obtain rfl:k=N:=Y;exact ah.aF Z Z ⟨_,Z,d,D,E,Z,f⟩
variable {β:Type} {N d m Oe:Nat} {B:Option Addr} {e':TypeId} {Nt:β -> List Value}
theorem Own.MX{c:Nat}{l:List α}{h:List β}
 (i:Own w lo e sz enc A m c l) (f:Own w' nn e' Oe Nt B k d h) (j:w.heap.size<=nn):(aN A c=none∨aN A c≠aN B d)∧(aN B d=none∨aN B d≠aN A c):=by
 rcases i.row with⟨_,rfl⟩|⟨s,g,n,rfl,_,o,_⟩
 ·refine⟨.inl (by simp[aN]),?_⟩;rcases f.row with⟨_,rfl⟩|⟨p,q,a,rfl,_,b,_⟩
  all_goals grind[aN,Nat.pos_iff_ne_zero]
 have t:g<w.heap.size:=(Pr.1 o).1;rcases f.row with⟨_,rfl⟩|⟨p,q,a,rfl,r,b,_⟩
 all_goals grind[aN,Nat.pos_iff_ne_zero]
def k8(x y:List Region)(i:Nat):Bool:=dq x i && !dq y i
theorem En{x y:List Region}(h:nJ x y=true):(∀r∈x,r.ok)∧(∀r∈y,r.ok):=by
 simp only[nJ,Bool.and_eq_true,oV]at h
 have a:∀l:List Region,g9 l->∀r∈l,r.ok:=λl b r c=>by
  obtain⟨i,d,rfl⟩:=Pg c;exact(b.2 i d).1
 grind
noncomputable def iK(N:Nat)(x y:List Region):Int×List Region:=if nJ x y then(0,runs (k8 x y) N)else(8,[])
def BH(lo:Nat)(r:Int×List Region)(v:Value)(w:World):Prop:=∃A c,v= .tuple #[.slice A r.2.length c,Iv r.1]∧Own w lo 108 2 eV A r.2.length c r.2
theorem uG{x y:List Region}(h:nJ x y=true):iK N x y=(0,runs (k8 x y) N):=by simp[iK,h]
theorem uH{x y:List Region}(h:nJ x y=false):iK N x y=(8,[]):=by simp[iK,h]
theorem FR(A:Option Addr)(n c:Nat)(B:Option Addr)(m d:Nat)(x y:List Region)(N:Nat)(Q:N=256)(w:World)(hx:Sl w 2 eV A n x)(hy:Sl w 2 eV B m y)(hn:n<=9223372036854775807)(hm:m<=9223372036854775807):
 aS prog 15 [.agg (ia A n c B m d).toArray] w (BH w.heap.size (iK N x y)):=by
 refine Wj func15 ntmps15 ?_;refine Ww λb R a hb s=>?_;obtain⟨q,I⟩:=bq (nJ x y);have E:∀g,Ext w g->aS prog 56 [.agg (ia A n c B m d).toArray] g λv _=>v=Iv (if q then 0 else 8):=λg h=>by have:=BG A n c B m d x y g (hx.ext h) (hy.ext h) hn hm;rwa[I]at this
 cases q
 ·simp only[Bool.false_eq_true,if_false]at E;rw[uH I];repeat'(first|refine Wz ?_|(refine Wc (E _ a) λR l=>?_;obtain⟨a,s⟩:=bk l a s))
  exact ah.cf Z Z Z ⟨_,Z,a,none,0,Z,Own.cq _ _ _ _ _ _⟩
 simp only[if_true]at E;rw[uG I];obtain⟨S,T⟩:=En I;repeat'(first|refine Wz ?_|(refine Wc (E _ a) λR l=>?_;obtain⟨a,s⟩:=bk l a s))
 refine CW.cut (λJ g=>∃M o p r,eA J [(5,.slice M 256 o),(6,.slice p 256 r)]∧Ext w g∧Own g w.heap.size 4 1 pb M 256 o (marksOf (λi=>dq x i) 256)∧Own g w.heap.size 4 1 pb p 256 r (marksOf (λi=>dq y i) 256)∧(aN p r=none∨aN p r≠aN M o)) ?_ ?_
 ·refine CW.any 6 mixed (cy bm) Z λR l zf=>?_;obtain⟨a,s⟩:=bk l a s;refine Wa ?_;refine SA.bD 2 ?_;refine Wk (xJ _ _ _ _ _ (hx.ext a) S hn) λv w2 t F=>?_;obtain⟨M,o,rfl,j⟩:=F;have j:=j.low a.size;obtain⟨a,s⟩:=bk t a s;refine SW.nil (ah.sa t ?_);refine SA.bD 5 ?_;refine Wk (xJ _ _ _ _ _ (hy.ext a) T hm) λv U t F=>?_;obtain⟨p,r,rfl,f⟩:=F;have z:=(j.MX f (Ph _)).2;have f:=f.low a.size;obtain⟨j,a,s⟩:=aY t j a s;refine SW.nil (ah.sa t ?_);refine SA.fH ?_;refine Wz ?_;exact ah.cut (K:=λJ g=>∃M o p r,eA J [(5,.slice M 256 o),(6,.slice p 256 r)]∧Ext w g∧Own g w.heap.size 4 1 pb M 256 o (marksOf (λi=>dq x i) 256)∧Own g w.heap.size 4 1 pb p 256 r (marksOf (λi=>dq y i) 256)∧(aN p r=none∨aN p r≠aN M o)) ⟨M,o,p,r,⟨Z,Z,trivial⟩,a,j,f,z⟩
 rintro J g ⟨M,o,p,r,hs,a,j,f,z⟩;refine ah.sub hs ?_;have zg:=j.sl.base;have ze:=f.sl.base;have e0:marksOf (λi=>dq x i) 256=marksOf (λi=>if i<0 then k8 x y i else dq x i) 256:=iw λi _=>by rw[if_neg Y]
 rw[e0]at j;refine Wz ?_
 refine CW.loop (λk:Nat=>[(5,.slice M 256 o),(6,.slice p 256 r),(20,Iv 256),(21,Iv (k:Int))])
  (λk g=>k<=256∧Ext w g∧Own g w.heap.size 4 1 pb M 256 o (marksOf (λi=>if i<k then k8 x y i else dq x i) 256)∧Own g w.heap.size 4 1 pb p 256 r (marksOf (λi=>dq y i) 256)) (λk=>256-k) 0 ⟨Z,Z,Z,Z,trivial⟩ ⟨by omega,a,j,f⟩ ?_
 rintro k g ⟨hk,a,j,f⟩;by_cases u:k<256
 ·obtain⟨L,G⟩:=bq (dq x k);obtain⟨O,H⟩:=bq (dq y k);have V:g.cell? ((M.getD default).add (k*1))=some (.bool L):=j.sl.one u (by rw[nD,if_neg Y,G];rfl);have P:g.cell? ((p.getD default).add (k*1))=some (.bool O):=f.sl.one u (by rw[nD,H];rfl);have hf:k8 x y k=(L && !O):=by simp[k8,G,H]
  have e1:marksOf (λi=>if i<k+1 then k8 x y i else dq x i) 256=marksOf (λi=>if i=k then(L && !O)else if i<k then k8 x y i else dq x i) 256:=iw λi _=>by
   by_cases W:i=k
   ·subst W;rw[if_pos Y,if_pos Z,hf]
   rw[if_neg W];by_cases P:i<k
   ·rw[if_pos Y,if_pos P]
   rw[if_neg Y,if_neg P]
  cases L<;>cases O
  all_goals
   repeat'(first|refine Wz ?_|refine Wl V ?_|refine Wl P ?_)
   first
    | refine SW.eY k 0 true j rfl rfl rfl u Y (by rw[add_zero]) rfl λU C X=>?_
    | refine SW.eY k 0 false j rfl rfl rfl u Y (by rw[add_zero]) rfl λU C X=>?_
   have a:=au a X (Ph _) j.az;have f:=f.grown X z;rw[pZ]at C;refine Wz ?_;exact ah.again (k+1) ⟨Z,Z,Z,Z,trivial⟩ Y ⟨by omega,a,by rw[e1];exact C,f⟩
 have e:marksOf (λi=>if i<k then k8 x y i else dq x i) 256=marksOf (k8 x y) 256:=iw λi W=>by rw[if_pos Y]
 rw[e]at j
 have D:∀g,Sl g 1 pb M 256 (marksOf (k8 x y) 256)->aS prog 58 [.slice M 256 o] g (CZ g.heap.size (runs (k8 x y) N)):=λg h=>by
  have za:Sl g 1 pb M N (marksOf (k8 x y) N):=by rw[Q];exact h
  have V:=C0 M o N Q (k8 x y) _ za;rwa[show Value.slice M N o= .slice M 256 o by rw[Q]]at V
 refine Wz ?_;refine Wk (D _ j.sl) λv U zb F=>?_;obtain⟨A2,c2,rfl,zc⟩:=F;have zd:=a.size;have a:=a.trans zb;refine Wz ?_;exact ah.cf Z Z Z ⟨_,Z,a,A2,c2,Z,zc.low zd⟩
theorem Ey(A:Option Addr)(n c:Nat)(B:Option Addr)(m d:Nat)(x y:List Region)(z:Int)(b:Nat)(w:World)(l:ay w b 24 (ia A n c B m d))(q:Sl w 2 eV A n x)(s:Sl w 2 eV B m y)(j:∀r∈x,r.ok)(k:∀r∈y,r.ok)
 (t:n<=9223372036854775807) (C:m<=9223372036854775807):aS prog 94 ([Iv z]++[Pt b]) w λu _=>u= .bool (dq x z && !dq y z):=by
 refine Wj func94 ntmps94 ?_;have e:=Ext.refl w;obtain⟨o,f⟩:=bq (dq x z);obtain⟨p,g⟩:=bq (dq y z);have D:∀a,Ext w a->aS prog 95 [.slice A n c,Iv z] a λv _=>v= .bool o:=λa h=>by have:=nV A n c x z a (q.ext h) j t;rwa[f]at this
 have E:∀a,Ext w a->aS prog 95 [.slice B m d,Iv z] a λv _=>v= .bool p:=λa h=>by have:=nV B m d y z a (s.ext h) k C;rwa[g]at this
 rw[f,g];cases o<;>cases p
 all_goals
  repeat'(first|refine Wz ?_|((first|refine Wk (D _ e) ?_|refine Wk (E _ e) ?_);intro v G i F;subst F;obtain⟨e,l⟩:=bk i e l))
  exact ah.aF Z Z ⟨_,Z,e,Z⟩
theorem C4(A:Option Addr)(n c:Nat)(B:Option Addr)(m d:Nat)(x y:List Region)(N:Nat)(K:N=256)(w:World)(D:Sl w 2 eV A n x)(E:Sl w 2 eV B m y)(F:n<=9223372036854775807)(G:m<=9223372036854775807):
 aS prog 33 [.agg (ia A n c B m d).toArray] w (BH w.heap.size (iK N x y)):=by
 refine Wj func33 ntmps33 ?_;refine Ww λb H a hb i=>?_;obtain⟨q,j⟩:=bq (nJ x y);have I:∀g,Ext w g->aS prog 92 [.agg (ia A n c B m d).toArray] g λv _=>v= .bool q:=λg h=>by have:=Em A n c B m d x y g (D.ext h) (E.ext h) F G;rwa[j]at this
 cases q
 ·rw[uH j];repeat'(first|refine Wz ?_|(refine CW.bQ Z ?_)|(refine Wc (I _ a) λH f=>?_;obtain⟨a,i⟩:=bk f a i))
  exact ah.cf Z Z Z ⟨_,Z,a,none,0,Z,Own.cq _ _ _ _ _ _⟩
 rw[uG j];obtain⟨l,o⟩:=En j;repeat'(first|refine Wz ?_|(refine CW.bo Z ?_)|(refine Wc (I _ a) λH f=>?_;obtain⟨a,i⟩:=bk f a i))
 refine SW.st (gH (vs:=[Pt b]) Z) Z ?_
 have L:∀k,Ext w k->ay k b 24 (ia A n c B m d)->∀(z:Int)(g:World),0<=z->z<256->Ext k g->aS prog 94 ([Iv z]++[Pt b]) g λu _=>u= .bool (k8 x y z.toNat):=λk J p z g M Q r=>by
  have:=Ey A n c B m d x y z b g (p.ext r) (D.ext (J.trans r)) (E.ext (J.trans r)) l o F G;have e:(dq x z && !dq y z)=k8 x y z.toNat:=by unfold k8;rw[Int.toNat_of_nonneg M]
  rwa[e]at this
 refine Wk (Ir 94 [Pt b] N K (k8 x y) _ (L _ a i)) λv R s O=>?_;obtain⟨P,c2,rfl,t⟩:=O;have C:=a.size;have a:=a.trans s;refine Wz ?_;exact ah.cf Z Z Z ⟨_,Z,a,P,c2,Z,t.low C⟩
end Go.Proofs.YtdlfabkacdgneaaGreatDoor
