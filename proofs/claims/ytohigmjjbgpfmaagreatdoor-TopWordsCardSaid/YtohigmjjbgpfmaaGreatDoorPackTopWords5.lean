/- Part 5 of what topWords_holds leans on. -/
import Derived.Test.YtohigmjjbgpfmaaGreatDoorPackTopWords4
import Derived.Great.BuildSlice
import Derived.ArgAppend
import Derived.SizedLaws
import Derived.JoinedCond
import Derived.Deep.Slices
import Derived.Deep.Fields
import Derived.Lib.SmallJoins
set_option linter.unusedVariables false
set_option linter.unusedSimpArgs false
set_option linter.defProp false
open Go.Proofs.Tryz
namespace Go.Proofs.YtohigmjjbgpfmaaGreatDoor
open Go.RowKit Go.Maps
variable {n:ByteArray} {b:Nat}
def nl (s:ByteArray) : Lit := .string s.data.toList
def xE (z:Int) : Lit := .int .i64 z
def tq (l:List ByteArray) (n:ByteArray) : Bool:=l.any fun m=>decide (m=n)
theorem jz {l:List ByteArray}:tq l n=true↔n∈l:=by
 unfold tq;rw [ade];exact ⟨fun ⟨m,h,e⟩=>of_decide_eq_true e ▸ h,fun h=>⟨n,h,decide_eq_true rfl⟩⟩
theorem LO (l:List ByteArray) (n:ByteArray) : ((l.map nl).any fun y=>y.sameKey (nl n))=tq l n:=by
 rw [aeN,ade,jz];constructor
 ·rintro ⟨y,hy,hs⟩
  obtain ⟨m,hm,rfl⟩:=adk.1 hy;have:=WideAt.sameKey_eq hs
  simp only [nl,Lit.string.injEq] at this
  have e:m=n:=by
   cases m;cases n
   simpa using this
  rw [<- e];exact hm
 ·intro h;exact ⟨nl n,adk.2 ⟨n,h,rfl⟩,WideAt.sameKey_self trivial⟩
theorem LP (l:List Int) (n:Int) : ((l.map xE).any fun y=>y.sameKey (xE n))=decide (n∈l):=by
 rw [aeN,ade,decide_eq_true_iff];constructor
 ·rintro ⟨y,hy,hs⟩
  obtain ⟨m,hm,rfl⟩:=adk.1 hy;have:=WideAt.sameKey_eq hs
  simp only [xE,Lit.int.injEq] at this;rw [<- this.2];exact hm
 ·intro h;exact ⟨xE n,adk.2 ⟨n,h,rfl⟩,WideAt.sameKey_self trivial⟩
theorem nq:prog.underlying 9=some .string:=by kernel_rfl
theorem nr:prog.underlying 3=some (.int .i64):=by kernel_rfl
theorem sc:prog.underlying 4=some .bool:=by kernel_rfl
theorem zw:prog.underlying 163=some (.map 9 4):=by kernel_rfl
theorem EB:prog.underlying 164=some (.map 3 4):=by kernel_rfl
theorem BG (w:World) : (zeroValue 4).run prog w = .ok (.bool false) w:=by
 obtain ⟨inf,hi,hz,hs,xU⟩:=ee prog 4 (z := .bool false) (sz:=1) (bytes:=1);simp [zeroValue,typeInfo,hi,hz]
theorem jZ (s:ByteArray) (h:s.size<=140737488351232) : Go.keyOf prog 9 (.string s)=some (nl s):=by
 simp [Go.keyOf,mapKey,nl];unfold maxLen;omega
theorem keyOf_int {z:Int} (h : -9223372036854775808<=z∧z<=9223372036854775807) : Go.keyOf prog 3 (.int .i64 z)=some (xE z):=keyOf_int_mk nr (by
 have h1:IntKind.i64.min = -9223372036854775808:=by decide
 have h2:IntKind.i64.max=9223372036854775807:=by decide
 simp [Lit.wf,h1,h2];omega)
section
variable {L:Env} {w:World} {d:Option Nat} {T:TypeId} {pos:String} {af:Array Edge} {g:Option (Nat×Bool)}
theorem u5 {l:List ByteArray} {m x:Operand} (hB:pM w prog 9 4 b (l.map nl)) (hn:n.size<=140737488351232) (hm:cK L m=some (.map (some b))) (hx:cK L x=some (.string n)) :
 St prog ⟨d,.lookup 163 m x false,T,pos,af,g⟩ L w (.bool (tq l n)) :=
 (zv hB (string_keyed nq) zw sc BG hm hx (jZ n hn)).eq (by rw [LO])
theorem EC {l:List Int} {n:Int} {m x:Operand} (hB:pM w prog 3 4 b (l.map xE)) (hn : -9223372036854775808<=n∧n<=9223372036854775807) (hm:cK L m=some (.map (some b))) (hx:cK L x=some (.int .i64 n)) :
 St prog ⟨d,.lookup 164 m x false,T,pos,af,g⟩ L w (.bool (decide (n∈l))) :=
 (zv hB (int_keyed nr) EB sc BG hm hx (keyOf_int hn)).eq (by rw [LP])
end
theorem Jw (d:dN) (b6:Nat) (q:dN) (w:World) (h6:aS w b6 107 (fK q)) :
 bI prog 84 ([.agg (fK d).toArray]++[.pointer (some ⟨b6,0,none⟩)]) w fun v _=>v = .bool (decide (d.aA=q.aA)):=by
 refine aE func84 rfl ntmps84 rfl ?_;refine CW.seq (CW.region (SW.box rfl rfl fun b1 w1 hw lc aW => ?_));have h6:=h6.ext hw;refine Wz ?_;exact ae.bj rfl rfl ⟨_,rfl,hw,rfl⟩
structure ah.cV (s:ah) : Prop where
 small:s.small
 cr:∀ z∈s.Heap.bp,fF z
 aD:∀ c∈s.aa,∀ x∈c.ab,-9223372036854775808<=x.At∧x.At<=9223372036854775807
 names:∀ c∈s.aa,∀ n∈c.Names,n.size<=140737488351232
theorem zx (cs:List aQ) (h:∀ c∈cs,c.small) : (bl cs).length<=cs.length*8796093022208:=by
 induction cs with
 | nil=>simp [bl]
 | cons c r ih =>
   have h1:=(h c (by simp)).names;have h2:=ih (fun x hx=>h x (by simp [hx]));simp only [bl,List.flatMap_cons,List.length_append,List.length_cons] at h2 ⊢;omega
theorem zy (cs:List aQ) (h:∀ c∈cs,c.small) : (aK cs).length<=cs.length*8796093022208:=by
 induction cs with
 | nil=>simp [aK]
 | cons c r ih =>
   have h1:=(h c (by simp)).aD;have h2:=ih (fun x hx=>h x (by simp [hx]));simp only [aK,List.flatMap_cons,List.length_append,List.length_cons,List.length_map] at h2 ⊢;omega
set_option maxHeartbeats 4000000 in
theorem mf (r:db) (s:ah) (w:World) (hr:AM w r s) (hf:s.cV) :
 bI prog 46 [.agg (aP r).toArray] w fun v _=>v = .int .i64 (if fQ s then 0 else 8):=by
 refine aE func46 rfl ntmps46 rfl ?_;refine CW.seq (CW.region (SW.box rfl rfl fun b1 w1 hw lc aW => ?_));obtain ⟨cs,hc⟩:=hr.br;obtain ⟨z1,z2⟩:=hc.len;have wl:=hr.words.len;have hs:=hf.small;have m3:=hs.br;have N3:=hc.cap;obtain ⟨q,hq⟩ : ∃ q,iX s.Heap=q:=⟨_,rfl⟩
 have c1:∀ w',Ext w w'->bI prog 61 [.agg (dC r.Heap).toArray] w' fun v _=>v = .int .i64 (if q then 0 else 8):=fun w' hx=>by
  have:=qF r.Heap s.Heap w' (hr.heap.ext hx) hs.heap hf.cr
  rwa [hq] at this
 by_cases sd:s.Words.length=4096∧q=true∧s.aa.length<=20
 ·obtain ⟨g1,g2,g3⟩:=sd;subst g2;have hH:=cn.1 hq;simp only [if_true] at c1;repeat' (first|refine Wz ?_|refine Wm ((me aW)) ?_|(refine Wk (c1 _ hw) ?_;intro v w1 ai hv;subst hv;obtain ⟨hw,aW⟩:=cX ai hw aW;clear ai))
  all_goals try omega
  clear c1;refine SW.makeMap 9 4 rfl fun bN w3 nL Td hN => ?_
  have X0:=hw.up Td
  have NT:=aW.lt;(obtain ⟨hw,aW⟩:=cX nL hw aW);refine SW.makeMap 3 4 rfl fun bS w4 ko Te hS => ?_
  have ZN:=hw.up Te
  have NU:=hN.lt;(obtain ⟨hw,aW,hN⟩:=cj ko hw aW hN);have Tf:b1≠bN:=by omega
  have VM:b1≠bS:=by omega
  have QN:bN≠bS:=by omega
  clear NT NU Td Te;refine Wz ?_
  refine CW.loop (fun k:Nat=>[(1,.pointer (some ⟨b1,0,none⟩)),(3,.map (some bN)),(4,.map (some bS)),(30,.slice r.aa.A r.aa.n r.aa.c),(31,.int .i64 (r.aa.n:Int)),(32,.int .i64 (k:Int))])
   (fun k w'=>k<=r.aa.n∧Ext w w'∧aS w' b1 44 (aP r)∧pM w' prog 9 4 bN ((bl (s.aa.take k)).map nl)∧pM w' prog 3 4 bS ((aK (s.aa.take k)).map xE) ∧ ∀ (i:Nat) (h:i<s.aa.length),i<k->sP s i h) (fun k=>r.aa.n-k) 0
   ⟨rfl,rfl,rfl,rfl,rfl,rfl,trivial⟩ ⟨by omega,hw,aW,hN,hS,fun i h h'=>by omega⟩ ?_
  clear hw aW hN hS;rintro k w' ⟨hk,hw,aW,hN,hS,hI⟩
  have hA:=hc.row.base;by_cases gh:k<r.aa.n
  ·have NC:k<cs.length:=by omega
   have iw:k<s.aa.length:=by omega
   have jU:=hc.each.get k NC iw;have sm:=hs.each _ (ac0 iw);have fS:=hf.aD _ (ac0 iw);have fN:=hf.names _ (ac0 iw);have q1:=jU.names.len;have q2:=jU.aD.len;have q4:=sm.names;have q5:=sm.aD;have bn:=zx (s.aa.take k) (fun c hc=>hs.each c (adu hc));have bs:=zy (s.aa.take k) (fun c hc=>hs.each c (adu hc));rw [aeG] at bn bs;repeat' (first|refine Wz ?_|refine Wo hw ((hc.row.all gh)) ?_)
   have VN:=hN.lt;have VO:=hS.lt;refine SW.alloc rfl fun b6 w1 ai dt aq => ?_
   refine Wz ?_;refine SW.ag aq rfl rfl rfl rfl (BA _) fun w2 bP hg => ?_
   have ar:=ai.own dt hg;have cG:=hw.up dt
   obtain ⟨hw,aW,hN,hS⟩:=dG ar hw aW hN hS;have aq:=bP;clear bP ai hg ar;have Tg:bN≠b6:=by omega
   have ZO:bS≠b6:=by omega
   clear VN VO;obtain ⟨qc,VP⟩ : ∃ qc,ph s s.aa[k]=qc:=⟨_,rfl⟩
   have cC:∀ w',Ext w w'->bI prog 82 [.agg (aP r).toArray,.agg (fK cs[k]).toArray] w' fun v _=>v = .bool qc:=fun w' hx=>by
    have:=Ju r s cs[k] s.aa[k] w' (hr.ext hx) (jU.ext hx) hs sm hH fS
    rwa [VP] at this
   cases qc
   ·have hF:fQ s=false:=v5 fun hm=>by
     have:=zq (hm.each k iw).may
     rw [VP] at this;cases this
    rw [hF];repeat' (first|refine Wz ?_|refine SW.skip rfl rfl rfl rfl ?_|(refine Wk (cC _ hw) ?_;intro v w1 ai hv;subst hv;obtain ⟨hw,aW,aq,hN,hS⟩:=fI ai hw aW aq hN hS;clear ai))
    exact ae.bj rfl rfl ⟨_,rfl,hw,rfl⟩
   ·have PI:=GG.1 VP;obtain ⟨y,hy⟩ : ∃ y,((cs.take k).any fun d=>decide (d.aA=cs[k].aA))=y:=⟨_,rfl⟩
    have cD:∀ w',Ext w w'->aS w' b6 107 (fK cs[k])->bI prog 83 [.slice r.aa.A k r.aa.c,.func (.func 84) #[] [.pointer (some ⟨b6,0,none⟩)].toArray] w' fun v _=>v = .bool y:=fun w' hx h6=>by
     have:=mF r.aa.A k r.aa.c (cs.take k) w' ((hc.row.ext hx).pre (show k<=r.aa.n by omega)) 84 [.pointer (some ⟨b6,0,none⟩)] (fun d=>decide (d.aA=cs[k].aA)) (fun d => .agg (fK d).toArray) (fun x=>rfl)
      (fun x _ w1 lf=>Jw x b6 cs[k] w1 (h6.ext lf)) (by omega)
     rwa [hy] at this
    cases y
    ·have oy:∀ (j:Nat) (hj:j<k),(s.aa[j]'(by omega)).aA≠s.aa[k].aA:=fun j hj e=>by
      rw [ado] at hy;refine hy cs[j] (ad0.2 ⟨j,by omega,rfl⟩) ?_;have e1:=(hc.each.get j (by omega) (by omega)).size;have e2:=jU.size;exact decide_eq_true (by rw [e1,e2];exact e)
     repeat' (first|refine Wz ?_|refine SW.want rfl rfl ?_|((first|refine Wk (cC _ hw) ?_|refine Wk (cD _ hw aq) ?_);intro v w1 ai hv;subst hv;obtain ⟨hw,aW,aq,hN,hS⟩:=fI ai hw aW aq hN hS;clear ai)|(refine SW.st (dk (k:=k) rfl rfl (by omega)) rfl ?_)|(refine SW.st (jg (vs:=[.pointer (some ⟨b6,0,none⟩)]) rfl) rfl ?_))
     obtain ⟨acc,Ok⟩ : ∃ acc,bl (s.aa.take k)=acc:=⟨_,rfl⟩;rw [Ok] at hN bn;obtain ⟨PJ,Ol⟩ : ∃ PJ,aK (s.aa.take k)=PJ:=⟨_,rfl⟩;rw [Ol] at hS bs;clear cC cD
     refine CW.loop (fun j:Nat=>[(1,.pointer (some ⟨b1,0,none⟩)),(3,.map (some bN)),(4,.map (some bS)),(6,.pointer (some ⟨b6,0,none⟩)),(30,.slice r.aa.A r.aa.n r.aa.c),(31,.int .i64 (r.aa.n:Int)),(32,.int .i64 (k:Int)),(50,.slice cs[k].Names.A cs[k].Names.n cs[k].Names.c),(51,.int .i64 (cs[k].Names.n:Int)),(52,.int .i64 (j:Int))])
      (fun j w'=>j<=cs[k].Names.n∧Ext w w'∧aS w' b1 44 (aP r)∧aS w' b6 107 (fK cs[k])∧pM w' prog 9 4 bN ((acc++s.aa[k].Names.take j).map nl)∧pM w' prog 3 4 bS (PJ.map xE) ∧
        ∀ (i:Nat) (h:i<s.aa[k].Names.length),i<j->gn s.aa[k].Names[i]=true∧s.aa[k].Names[i]∉acc++s.aa[k].Names.take i∧(0<i->eA (s.aa[k].Names[i-1]'(by omega)) s.aa[k].Names[i]=true)) (fun j=>cs[k].Names.n-j) 0
      ⟨rfl,rfl,rfl,rfl,rfl,rfl,rfl,rfl,rfl,rfl,trivial⟩ ⟨by omega,hw,aW,aq,by simpa using hN,hS,fun i h h'=>by omega⟩ ?_
     clear hw aW hN hS aq;rintro j w' ⟨hj,hw,aW,aq,hN,hS,hJ⟩
     have oO:=jU.names.base;by_cases pB:j<cs[k].Names.n
     ·have pA:j<s.aa[k].Names.length:=by omega
      obtain ⟨nm,se⟩ : ∃ nm,s.aa[k].Names[j]=nm:=⟨_,rfl⟩;have gN:=jU.names.one pB (u := .string nm) (by rw [<- se];rfl);have QO:nm.size<=140737488351232:=by rw [<- se];exact fN _ (ac0 pA)
      obtain ⟨qn,VQ⟩ : ∃ qn,gn nm=qn:=⟨_,rfl⟩;obtain ⟨qh,QP⟩ : ∃ qh,tq (acc++s.aa[k].Names.take j) nm=qh:=⟨_,rfl⟩
      have Th:∀ w',bI prog 47 [.string nm] w' fun v _=>v = .bool qn:=fun w'=>by
       have:=Ek nm w' QO
       rwa [VQ] at this
      have LQ:(qn=false∨qh=true ∨ ∃ N7 : 0<j,eA (s.aa[k].Names[j-1]'(by omega)) nm=false)->fQ s=false:=fun h=>v5 fun hm=>by
       have h1:=(hm.each k iw).names.each j pA;rw [se,Ok] at h1;rcases h with h|h|⟨N7,h⟩
       ·rw [VQ,h] at h1;exact absurd h1.1 (by simp)
       ·exact h1.2.1 (jz.1 (by rw [QP,h]))
       ·rw [h1.2.2 N7] at h;cases h
      cases qn
      ·rw [LQ (.inl rfl)];repeat' (first|refine Wz ?_|refine SW.skip rfl rfl rfl rfl ?_|refine Wn hw gN ?_|(refine Wk (Th _) ?_;intro v w1 ai hv;subst hv;obtain ⟨hw,aW,aq,hN,hS⟩:=fI ai hw aW aq hN hS;clear ai))
       exact ae.bj rfl rfl ⟨_,rfl,hw,rfl⟩
      ·cases qh
       ·have go:∀ (PK : 0<j->eA (s.aa[k].Names[j-1]'(by omega)) nm=true) (i:Nat) (h:i<s.aa[k].Names.length),i<j+1->gn s.aa[k].Names[i]=true∧s.aa[k].Names[i]∉acc++s.aa[k].Names.take i∧(0<i->eA (s.aa[k].Names[i-1]'(by omega)) s.aa[k].Names[i]=true):=fun PK i h h'=>by
         by_cases ei:i=j
         ·subst ei;rw [se];exact ⟨VQ,(fun hm=>by rw [jz.2 hm] at QP;cases QP),PK⟩
         ·exact hJ i h (by omega)
        rcases adj j with N7|N7
        ·repeat' (first|refine Wz ?_|refine SW.want rfl rfl ?_|refine Wn hw gN ?_|(refine Wk (Th _) ?_;intro v w1 ai hv;subst hv;obtain ⟨hw,aW,aq,hN,hS⟩:=fI ai hw aW aq hN hS;clear ai)|(refine SW.st ((u5 hN QO rfl rfl).eq (congrArg Value.bool QP)) rfl ?_))
         all_goals try omega
         refine SW.GI hN (string_keyed nq) zw sc (by simp only [List.length_map,List.length_append,List.length_take];unfold maxLen;omega) rfl rfl rfl (jZ nm QO) trivial fun w5 Ti hg => ?_
         have hw:=hw.own X0 hg;have aW:=aW.grown hg (by simpa using Tf);have aq:=aq.grown hg (by simpa using Tg.symm);have hS:=hS.grown hg (by simpa using QN.symm);have eN:(acc++s.aa[k].Names.take j).map nl++[nl nm]=(acc++s.aa[k].Names.take (j+1)).map nl:=by rw [ac5 pA,se];simp
         rw [eN] at Ti;refine Wz ?_;exact ae.again (j+1) ⟨rfl,rfl,rfl,rfl,rfl,rfl,rfl,rfl,rfl,rfl,trivial⟩ (by omega) ⟨by omega,hw,aW,aq,Ti,hS,go (fun h=>by omega)⟩
        ·obtain ⟨ql,Tj⟩ : ∃ ql,(!eA (s.aa[k].Names[j-1]'(by omega)) nm)=ql:=⟨_,rfl⟩;have gP:=jU.names.one (show j-1<cs[k].Names.n by omega) (u := .string (s.aa[k].Names[j-1]'(by omega))) rfl;cases ql
         ·repeat' (first|refine Wz ?_|refine SW.want rfl rfl ?_|refine SW.st (cm (j-1) rfl rfl (by assumption) (by omega) (by omega)) rfl ?_|refine Wn hw gN ?_|refine Wn hw gP ?_|(refine Wk (Th _) ?_;intro v w1 ai hv;subst hv;obtain ⟨hw,aW,aq,hN,hS⟩:=fI ai hw aW aq hN hS;clear ai)|(refine SW.st ((u5 hN QO rfl rfl).eq (congrArg Value.bool QP)) rfl ?_)|(refine SW.st ((Ej rfl rfl).eq (congrArg Value.bool Tj)) rfl ?_))
          all_goals try omega
          refine SW.GI hN (string_keyed nq) zw sc (by simp only [List.length_map,List.length_append,List.length_take];unfold maxLen;omega) rfl rfl rfl (jZ nm QO) trivial fun w5 Ti hg => ?_
          have hw:=hw.own X0 hg;have aW:=aW.grown hg (by simpa using Tf);have aq:=aq.grown hg (by simpa using Tg.symm);have hS:=hS.grown hg (by simpa using QN.symm);have eN:(acc++s.aa[k].Names.take j).map nl++[nl nm]=(acc++s.aa[k].Names.take (j+1)).map nl:=by rw [ac5 pA,se];simp
          rw [eN] at Ti;refine Wz ?_;exact ae.again (j+1) ⟨rfl,rfl,rfl,rfl,rfl,rfl,rfl,rfl,rfl,rfl,trivial⟩ (by omega) ⟨by omega,hw,aW,aq,Ti,hS,go (fun _=>by simpa using Tj)⟩
         ·rw [LQ (.inr (.inr ⟨N7,by simpa using Tj⟩))];repeat' (first|refine Wz ?_|refine SW.want rfl rfl ?_|refine SW.st (cm (j-1) rfl rfl (by assumption) (by omega) (by omega)) rfl ?_|refine Wn hw gN ?_|refine Wn hw gP ?_|(refine Wk (Th _) ?_;intro v w1 ai hv;subst hv;obtain ⟨hw,aW,aq,hN,hS⟩:=fI ai hw aW aq hN hS;clear ai)|(refine SW.st ((u5 hN QO rfl rfl).eq (congrArg Value.bool QP)) rfl ?_)|(refine SW.st ((Ej rfl rfl).eq (congrArg Value.bool Tj)) rfl ?_))
          all_goals try omega
          exact ae.bj rfl rfl ⟨_,rfl,hw,rfl⟩
       ·rw [LQ (.inr (.inl rfl))];repeat' (first|refine Wz ?_|refine SW.want rfl rfl ?_|refine Wn hw gN ?_|(refine Wk (Th _) ?_;intro v w1 ai hv;subst hv;obtain ⟨hw,aW,aq,hN,hS⟩:=fI ai hw aW aq hN hS;clear ai)|(refine SW.st ((u5 hN QO rfl rfl).eq (congrArg Value.bool QP)) rfl ?_))
        exact ae.bj rfl rfl ⟨_,rfl,hw,rfl⟩
     ·have VR:yf (bl (s.aa.take k)) s.aa[k].Names:=⟨fun i h=>by rw [Ok];exact hJ i h (by omega)⟩
      rw [adf (by omega)] at hN;refine Wz ?_;clear hJ hj pB oO
      refine CW.loop (fun j:Nat=>[(1,.pointer (some ⟨b1,0,none⟩)),(3,.map (some bN)),(4,.map (some bS)),(30,.slice r.aa.A r.aa.n r.aa.c),(31,.int .i64 (r.aa.n:Int)),(32,.int .i64 (k:Int)),(83,.slice cs[k].ab.A cs[k].ab.n cs[k].ab.c),(84,.int .i64 (cs[k].ab.n:Int)),(85,.int .i64 (j:Int))])
       (fun j w'=>j<=cs[k].ab.n∧Ext w w'∧aS w' b1 44 (aP r)∧pM w' prog 9 4 bN ((acc++s.aa[k].Names).map nl)∧pM w' prog 3 4 bS ((PJ++(s.aa[k].ab.take j).map fun x=>x.At).map xE) ∧
         ∀ (i:Nat) (h:i<s.aa[k].ab.length),i<j->s.aa[k].ab[i].At∉PJ++(s.aa[k].ab.take i).map fun x=>x.At) (fun j=>cs[k].ab.n-j) 0
       ⟨rfl,rfl,rfl,rfl,rfl,rfl,rfl,rfl,rfl,trivial⟩ ⟨by omega,hw,aW,hN,by simpa using hS,fun i h h'=>by omega⟩ ?_
      clear hw aW hN hS aq;rintro j w' ⟨hj,hw,aW,hN,hS,hJ⟩
      have oO:=jU.aD.base;by_cases pB:j<cs[k].ab.n
      ·have pA:j<s.aa[k].ab.length:=by omega
       obtain ⟨x,hx⟩ : ∃ x,s.aa[k].ab[j]=x:=⟨_,rfl⟩;have gS:=jU.aD.all pB;rw [hx] at gS;have fx : -9223372036854775808<=x.At∧x.At<=9223372036854775807:=by rw [<- hx];exact fS _ (ac0 pA)
       repeat' (first|refine Wz ?_|refine Wo hw gS ?_)
       refine SW.alloc rfl fun oB w1 ai mG aC => ?_
       skip;refine SW.ag aC rfl rfl rfl rfl (im.one (enc:=bf) _) fun w2 bA hg => ?_
       have ar:=ai.own mG hg;have gK:=hw.up mG
       obtain ⟨hw,aW,hN,hS⟩:=dG ar hw aW hN hS;have aC:=bA;clear bA ai hg ar;by_cases mS:x.At∈PJ++(s.aa[k].ab.take j).map fun x=>x.At
       ·have VT:=decide_eq_true mS
        rw [v5 fun hm=>by
         have:=(hm.each k iw).aD j pA
         rw [hx,Ol] at this;exact this mS]
        repeat' (first|refine Wz ?_|(refine SW.st ((EC hS fx rfl rfl).eq (congrArg Value.bool VT)) rfl ?_))
        exact ae.bj rfl rfl ⟨_,rfl,hw,rfl⟩
       ·have VT:=decide_eq_false mS;repeat' (first|refine Wz ?_|(refine SW.st ((EC hS fx rfl rfl).eq (congrArg Value.bool VT)) rfl ?_))
        refine SW.GI hS (int_keyed nr) EB sc (by simp only [List.length_map,List.length_append,List.length_take];unfold maxLen;omega) rfl rfl rfl (keyOf_int fx) trivial fun w5 Jx hg => ?_
        have hw:=hw.own ZN hg;have aW:=aW.grown hg (by simpa using VM);have hN:=hN.grown hg (by simpa using QN);have eN:(PJ++(s.aa[k].ab.take j).map fun x=>x.At).map xE++[xE x.At]=(PJ++(s.aa[k].ab.take (j+1)).map fun x=>x.At).map xE:=by rw [ac5 pA,hx];simp
        rw [eN] at Jx;refine Wz ?_
        exact ae.again (j+1) ⟨rfl,rfl,rfl,rfl,rfl,rfl,rfl,rfl,rfl,trivial⟩ (by omega) ⟨by omega,hw,aW,hN,Jx,fun i h h'=>by
         by_cases ei:i=j
         ·subst ei;rw [hx];exact mS
         ·exact hJ i h (by omega)⟩
      ·rw [adf (by omega),<- Ol,<- rn s.aa k iw] at hS;rw [<- Ok,<- rm s.aa k iw] at hN;refine Wz ?_
       exact ae.again (k+1) ⟨rfl,rfl,rfl,rfl,rfl,rfl,trivial⟩ (by omega) ⟨by omega,hw,aW,hN,hS,fun i h h'=>by
        by_cases ei:i=k
        ·subst ei;exact ⟨PI,oy,VR,fun i h=>by rw [Ol];exact hJ i h (by omega)⟩
        ·exact hI i h (by omega)⟩
    ·have hF:fQ s=false:=v5 fun hm=>by
      obtain ⟨d,hd,he⟩:=ade.1 hy;obtain ⟨j,hj,rfl⟩:=ad0.1 hd;have e1:=(hc.each.get j (by omega) (by omega)).size;have e2:=jU.size;have:=of_decide_eq_true he
      exact (hm.each k iw).size j (by omega) (by rw [<- e1,<- e2];exact this)
     rw [hF];repeat' (first|refine Wz ?_|refine SW.want rfl rfl ?_|((first|refine Wk (cC _ hw) ?_|refine Wk (cD _ hw aq) ?_);intro v w1 ai hv;subst hv;obtain ⟨hw,aW,aq,hN,hS⟩:=fI ai hw aW aq hN hS;clear ai)|(refine SW.st (dk (k:=k) rfl rfl (by omega)) rfl ?_)|(refine SW.st (jg (vs:=[.pointer (some ⟨b6,0,none⟩)]) rfl) rfl ?_))
     exact ae.bj rfl rfl ⟨_,rfl,hw,rfl⟩
  ·rw [nX ⟨g1,hH,g3,fun i h=>hI i h (by omega)⟩];refine Wz ?_;exact ae.bj rfl rfl ⟨_,rfl,hw,rfl⟩
 ·have hF:fQ s=false:=v5 fun hm=>sd ⟨hm.words,by rw [<- hq];exact CU hm.heap,hm.most⟩
  rw [hF];cases q
  all_goals simp only [if_true,Bool.false_eq_true,if_false] at c1
  all_goals simp only [true_and,Bool.false_eq_true,false_and,and_false,not_false_eq_true] at sd
  ·rcases (show s.Words.length≠4096∨s.Words.length=4096 by omega) with g|g
   all_goals
    repeat' (first|refine Wz ?_|refine Wm ((me aW)) ?_|(refine Wk (c1 _ hw) ?_;intro v w1 ai hv;subst hv;obtain ⟨hw,aW⟩:=cX ai hw aW;clear ai))
    all_goals try omega
    exact ae.bj rfl rfl ⟨_,rfl,hw,rfl⟩
  ·rcases (show s.Words.length≠4096∨(s.Words.length=4096∧20<s.aa.length) by omega) with g|g
   all_goals
    repeat' (first|refine Wz ?_|refine Wm ((me aW)) ?_|(refine Wk (c1 _ hw) ?_;intro v w1 ai hv;subst hv;obtain ⟨hw,aW⟩:=cX ai hw aW;clear ai))
    all_goals try omega
    exact ae.bj rfl rfl ⟨_,rfl,hw,rfl⟩
variable {α β:Type} {a:Int} {c:aQ} {s:ah} {l:List Block} {i:Nat}
theorem zA:∀ (n:Nat) (l:List Nat),l.Nodup->(∀ x∈l,x<n)->l.length<=n
 | 0,l,_,h=>by
   cases l with
   | nil=>simp
   | cons a r=>exact absurd (h a (by simp)) (by omega)
 | n+1,l,hd,h=>by
   have h1:=zA n (l.erase n) (hd.erase n) (fun x hx=>by
    have:=hd.mem_erase_iff.1 hx
    have:=h x this.2
    omega)
   have h2:l.length<=(l.erase n).length+1:=by
    rw [List.length_erase];split<;>omega
   omega
theorem BH {f : α -> β} {l:List α} (hd:l.Nodup) (hf:∀ x∈l,∀ y∈l,f x=f y->x=y) : (l.map f).Nodup:=by
 induction l with
 | nil=>simp
 | cons a r ih =>
   rw [ad1] at hd;rw [aei,ad1];refine ⟨fun h => ?_,ih hd.2 fun x hx y hy=>hf x (by simp [hx]) y (by simp [hy])⟩;obtain ⟨b,hb,e⟩:=adk.1 h;have:=hf b (by simp [hb]) a (by simp) e
   subst this;exact hd.1 hb
theorem qK {acc l:List α} (h:acc.Nodup) : ∀ (j:Nat),(∀ (k:Nat) (hk:k<l.length),k<j->l[k]∉acc++l.take k)->(acc++l.take j).Nodup
 | 0,_=>by simpa using h
 | j+1,hi=>by
   have ih:=qK (l:=l) h j (fun k hk hj=>hi k hk (by omega));by_cases hj:j<l.length
   ·rw [ac5 hj,<- ac6,adN];refine ⟨ih,by simp,fun a ha b hb e => ?_⟩;simp at hb;subst hb e;exact hi j hj (by omega) ha
   ·rw [adf (by omega)];rwa [adf (by omega)] at ih
def Df (b:UInt8) : Nat:=if b.toNat<97 then b.toNat-47 else b.toNat-86
def rp:List UInt8->Nat
 | []=>0
 | b::r=>Df b+37*rp r
theorem u6 {b:UInt8} (h:tj b=false) : 1<=Df b∧Df b<=36:=by
 unfold tj at h;simp at h;unfold Df;split<;>omega
theorem LR {b c:UInt8} (h:tj b=false) (k:tj c=false) (e:Df b=Df c) : b=c:=by
 unfold tj at h k;simp at h k;unfold Df at e;apply UInt8.toNat_inj.1;split at e<;>split at e<;>omega
theorem ED:∀ (l:List UInt8),(∀ b∈l,tj b=false)->rp l<37 ^ l.length
 | [],_=>by simp [rp]
 | b::r,h=>by
   have h1:=u6 (h b (by simp));have h2:=ED r (fun x hx=>h x (by simp [hx]));simp only [rp,List.length_cons,Nat.pow_succ];omega
theorem BI:∀ (l m:List UInt8),(∀ b∈l,tj b=false)->(∀ b∈m,tj b=false)->rp l=rp m->l=m
 | [],[],_,_,_=>rfl
 | [],c::t,_,k,e=>by
   have:=u6 (k c (by simp))
   simp only [rp] at e;omega
 | b::r,[],h,_,e=>by
   have:=u6 (h b (by simp))
   simp only [rp] at e;omega
 | b::r,c::t,h,k,e=>by
   have h1:=u6 (h b (by simp));have h2:=u6 (k c (by simp));simp only [rp] at e;have e1:Df b=Df c:=by omega
   have e2:rp r=rp t:=by omega
   rw [LR (h b (by simp)) (k c (by simp)) e1,BI r t (fun x hx=>h x (by simp [hx])) (fun x hx=>k x (by simp [hx])) e2]
theorem v9 {s:ByteArray}:gn s=true↔(1<=s.size∧s.size<=8) ∧ ∀ b∈s.data.toList,tj b=false:=by
 unfold gn;rw [adG,decide_eq_true_iff,ae1,ado];constructor
 ·rintro ⟨h,k⟩
  exact ⟨by omega,fun b hb=>by simpa using k b hb⟩
 ·rintro ⟨h,k⟩
  exact ⟨by omega,fun b hb=>by simp [k b hb]⟩
theorem EE {l:List ByteArray} (hd:l.Nodup) (hv:∀ n∈l,gn n=true) : l.length<=3512479453921:=by
 have h:=zA 3512479453921 (l.map fun n=>rp n.data.toList) (BH hd fun x hx y hy e => ?_) (fun z hz => ?_)
 ·simpa using h
 ·have h1:=BI _ _ (v9.1 (hv x hx)).2 (v9.1 (hv y hy)).2 e;cases x;cases y
  simpa using h1
 ·obtain ⟨n,hn,rfl⟩:=adk.1 hz;obtain ⟨h1,h2⟩:=v9.1 (hv n hn);have h3:=ED _ h2;have h4:n.data.toList.length<=8:=by rw [aea];exact h1.2
  have h5 : 37 ^ n.data.toList.length<=37 ^ 8:=Nat.pow_le_pow_right (by omega) h4
  exact adX h3 h5
theorem Om (h:fP l) (hf:bO l a=true) : 0<=a∧a<=255:=by
 obtain ⟨hm,e⟩:=jx hf;have:=(h.each _ hm).2.1
 omega
theorem uZ.at_ {h:i<c.ab.length} (hm:uZ s c i h) (hH:bJ s.Heap) (ho : 0<=c.Order) : bO s.Heap.Live c.ab[i].At=true∧0<=c.ab[i].At∧c.ab[i].At<=255:=by
 have hf:bO s.Heap.Live c.ab[i].At=true:=by
  cases hf:bO s.Heap.Live c.ab[i].At
  ·have:=hm.live
   rw [Dd hf] at this;omega
  ·rfl
 exact ⟨hf,Om hH.live hf⟩
theorem eV.oP (hm:eV s c) (hH:bJ s.Heap) : ∀ x∈c.ab,0<=x.At∧x.At<=255:=fun x hx=>by
 obtain ⟨i,hi,rfl⟩:=ac1 hx;exact ((hm.aD i hi).at_ hH (cd hm.lay).2.1.1).2
theorem EF (hH:bJ s.Heap) : ∀ (k:Nat),k<=s.aa.length->(∀ (i:Nat) (h:i<s.aa.length),i<k->sP s i h) ->
 ((bl (s.aa.take k)).Nodup ∧ ∀ n∈bl (s.aa.take k),gn n=true)∧((aK (s.aa.take k)).Nodup ∧ ∀ a∈aK (s.aa.take k),0<=a∧a<=255)
 | 0,_,_=>by simp [bl,aK]
 | k+1,hk,hI=>by
   obtain ⟨⟨h1,h2⟩,h3,h4⟩:=EF hH k (by omega) (fun i h h'=>hI i h (by omega));have hc:=hI k (by omega) (by omega);rw [rm _ _ (by omega),rn _ _ (by omega)];refine ⟨⟨?_,fun n hn => ?_⟩,?_,fun a ha => ?_⟩
   ·have:=qK (l:=(s.aa[k]'(by omega)).Names) h1 (s.aa[k]'(by omega)).Names.length (fun i hi _=>(hc.names.each i hi).2.1)
    rwa [adS] at this
   ·rcases ac9.1 hn with hn|hn
    ·exact h2 n hn
    ·obtain ⟨i,hi,rfl⟩:=ac1 hn;exact (hc.names.each i hi).1
   ·have:=qK (l:=(s.aa[k]'(by omega)).ab.map fun x=>x.At) h3 (s.aa[k]'(by omega)).ab.length (fun i hi _=>by
     have:=hc.aD i (by simpa using hi)
     simpa [List.map_take] using this)
    rwa [<- List.map_take,adS] at this
   ·rcases ac9.1 ha with ha|ha
    ·exact h4 a ha
    ·obtain ⟨x,hx,rfl⟩:=adk.1 ha;exact hc.may.oP hH x hx
open Go.RowKit
variable {af:Array Edge} {ops:Array Oper} {Q:Exit->Act->World->Prop} {bytes c2 dd k lo m sz:Nat} {y:Operand} {A X:Option Addr} {P:Program} {T e t:TypeId} {w:World} {enc:α -> List Value}
section
variable {P:Program} {n:Nat} {ops:Array Oper} {Q:Exit->Act->World->Prop} {rest:List Oper} {L:Env} {w:World} {d:Nat} {T:TypeId} {pos:String} {af:Array Edge}
end
section
variable {α:Type} {P:Program} {w:World} {lo:Nat} {t e:TypeId} {z:Value} {sz bytes:Nat} {enc : α -> List Value} {A X:Option Addr} {n c m d:Nat} {l ys:List α}
theorem EG [S:bz P t e sz] [T:dn P e z sz bytes] [E:im enc sz] (ty:TypeId) (hO:Own w lo e sz enc A n c l) (hS:Sl w sz enc X m ys) (dz:lo<=w.heap.size) (DU : 0<m)
 (hb:(n+m)*bytes<=140737488355328) (hm:n+m<=maxLen) :
 ∃ A' c' w',(Builtin.append_ #[t,t] ty #[.slice A n c,.slice X m d]).run P w = .ok (.slice A' (n+m) c') w' ∧
  ((A'=A∧c'=c∧Own w' lo e sz enc A (n+m) c (l++ys)∧w.grownBy w' (aI A c))∨(Own w' w.heap.size e sz enc A' (n+m) c' (l++ys)∧w.grownBy w' none)):=by
 obtain ⟨i,hi,hz,hs,xU⟩:=ee P e (z:=z) (sz:=sz) (bytes:=bytes);have KO:(ys.flatMap enc).length=m*sz:=by rw [aV,hS.len]
 have oY:∀ u∈ys.flatMap enc,u.oneCell'=true:=fun u hu=>by
  obtain ⟨x,_,hx⟩:=adm.1 hu;exact E.one x u hx
 have Qm:(l++ys).flatMap enc=l.flatMap enc++ys.flatMap enc:=adi
 have mv:(l++ys).length=n+m:=by rw [adb,hO.len,hS.len]
 obtain ⟨ad,rfl⟩:=adw.1 (hS.base DU);have uG:=dr T.pos hS;have VU:(l.flatMap enc).length=n*sz:=by rw [aV,hO.len]
 have uv:∀ b,A=some b->c<n+m->(∀ j u,(l.flatMap enc)[j]?=some u->w.cell? (b.add j)=some u) ->
  ∃ A' c' w',(Builtin.append_ #[t,t] ty #[.slice A n c,.slice (some ad) m d]).run P w = .ok (.slice A' (n+m) c') w'∧(Own w' w.heap.size e sz enc A' (n+m) c' (l++ys)∧w.grownBy w' none):=by
  rintro b rfl eQ hold;obtain ⟨v',w',hr,h2,h3⟩:=run_append_arg_grows (P:=P) w t ty e i z sz bytes S.ou hi hz hs xU T.zc T.pos b n c (l.flatMap enc) VU hold ad m d (ys.flatMap enc) KO uG eQ hm hb;rw [<- Qm] at h2;obtain ⟨A',c',rfl,ho⟩:=Own.sK h2 mv;exact ⟨A',c',w',hr,ho,h3⟩
 rcases hO.row with ⟨rfl,rfl⟩|⟨hc,g,jO,rfl,Pn,dA,qo,xv,DV,tR⟩
 ·have hl:l=[]:=adl hO.len
  subst hl;cases A with
  | none =>
    obtain ⟨v',w',hr,h2,h3,_⟩:=run_append_own (P:=P) w w.heap.size t ty e i z sz bytes S.ou hi hz hs xU T.zc T.pos (.slice none 0 0) 0 [] (World.ownsRow_nil _ _ _ _) ad m d (ys.flatMap enc) KO uG oY hm hb (ac3 _);obtain ⟨A',c',rfl,ho⟩:=Own.sK (m:=0+m) (l:=[]++ys) (enc:=enc) (by simpa using h2) (by simpa using hS.len);exact ⟨A',c',w',hr,.inr ⟨ho,by simpa [Value.ownBlock] using h3⟩⟩
  | some b =>
    obtain ⟨A',c',w',hr,h⟩:=uv b rfl (by omega) (by simp);exact ⟨A',c',w',hr,.inr h⟩
 ·by_cases kn:n+m<=c
  ·obtain ⟨A',c',w',hr,h1,h2⟩:=rP (P:=P) (t:=t) ty hO hS (d:=d) dz hb hm;have qf:=run_append_room (P:=P) w t ty e i S.ou hi g n c jO dA ad m d (ys.flatMap enc) (by rw [hs];exact KO) uG oY kn (by rw [hs,KO,DV,<- adQ];exact adt _ kn);have he:=hr.symm.trans qf;injection he with he _
   injection he with e1 _ e3
   subst e1 e3;exact ⟨_,_,w',hr,.inl ⟨rfl,rfl,h1,h2⟩⟩
  ·obtain ⟨A',c',w',hr,h⟩:=uv ⟨g,0,none⟩ rfl (by omega) ((hO.owns hc).cells (g:=g) (by simp [Value.ownBlock]));exact ⟨A',c',w',hr,.inr h⟩
end
theorem SW.yg {n:Nat} {rest:List Oper} {L:Env} {pos:String} {z:Value} {c:Nat} {l ys:List α} [bz P t e sz] [dn P e z sz bytes] [im enc sz] {x:Operand}
 (hO:Own w lo e sz enc A k c l) (hS:Sl w sz enc X m ys) (dz:lo<=w.heap.size) (DU : 0<m) (hx:cK L x=some (.slice A k c)) (hy:cK L y=some (.slice X m c2)) (hn:Nat.blt dd n=true)
 (hb:(k+m)*bytes<=140737488355328) (hm:k+m<=9223372036854775807)
 (h:∀ A' c' w',((A'=A∧c'=c∧Own w' lo e sz enc A (k+m) c (l++ys)∧w.grownBy w' (aI A c))∨(Own w' w.heap.size e sz enc A' (k+m) c' (l++ys)∧w.grownBy w' none))->SW P n ops (.gL Q) rest ((dd,.slice A' (k+m) c')::L) w') :
 SW P n ops (.gL Q) (⟨some dd,.call ⟨.builtin .append,#[x,y],#[t,t]⟩,T,pos,af,none⟩::rest) L w :=
 ⟨fun a ha=>by
  obtain ⟨A',c',w',hr,h1⟩:=EG (P:=P) (t:=t) T hO hS (d:=c2) dz DU hb (by simp only [maxLen];omega);simp only [swp,wpList,Region.wanted,if_true];refine .inl ?_;unfold Oper.wp
  have:(execOp a.eval ⟨some dd,.call ⟨.builtin .append,#[x,y],#[t,t]⟩,T,pos,af,none⟩).run P w = .ok (.value (.slice A' (k+m) c')) w':=by
   simp [execOp,resolve,invoke,builtin,ha.eval hx,ha.eval hy,hr]
  rw [this,Oper.upon_value];exact (h A' c' w' h1).out _ (ha.put hn _)⟩
set_option maxHeartbeats 4000000 in
theorem zB (A:Option Addr) (n c lo:Nat) (l:List du) (w:World) (hO:Own w lo 159 4 ck A n c l) (i:Nat) (hi:i<=n) (x:du) (b:Nat) (hB:aS w b 159 (ck x)) (bL:aI A c≠some b) (hn:(n+1)*48<=140737488355328) (dz:lo<=w.heap.size) :
 iI prog 143 [.slice A n c,.int .i64 (i:Int),.slice (some ⟨b,0,none⟩) 1 1] w fun v w' => ∃ A' c',v = .slice A' (n+1) c'∧Own w' lo 159 4 ck A' (n+1) c' (aM l i x)∧w.grownBy w' (aI A c) ∧ ∀ k,aI A' c'=some k->aI A c=some k∨w.heap.size<=k:=by
 refine dh func143 rfl ntmps143 rfl ?_;have hle:=hO.le;have mv:=hO.len;have hA:=hO.sl.base;have hw:=Ext.refl w;have lf:Sl w 4 ck (some ⟨b,0,none⟩) 1 [x]:=aS.vF hB
 have nF:(ck x).length=4:=rfl
 have oZ:∀ q:List du,(q.flatMap ck).length=q.length*4:=fun q=>aV q
 have oY:∀ (q:List du) (v:Value),v∈q.flatMap ck->v.oneCell'=true:=fun q v hv=>by
  obtain ⟨u,_,hu⟩:=adm.1 hv;exact im.one (enc:=ck) u v hu
 by_cases cQ:i=n
 ·subst cQ;repeat' (first|refine Wz ?_|(refine SW.st (bc (k:=i) rfl rfl (by omega) (by omega)) rfl ?_))
  all_goals try omega
  refine SW.yg hO lf dz (by omega) rfl rfl rfl (by omega) (by omega) fun A2 c2 w2 wX => ?_
  have jT:Own w2 lo 159 4 ck A2 (i+1) c2 (l++[x])∧w.grownBy w2 (aI A c) ∧ ∀ k,aI A2 c2=some k->aI A c=some k∨w.heap.size<=k:=by
   rcases wX with ⟨rfl,rfl,h1,h2⟩|⟨h1,h2⟩
   ·exact ⟨h1,h2,fun k e => .inl e⟩
   ·exact ⟨h1.low dz,(aF (Ext.refl w) h2 (ac3 _) (fun k e=>by cases e)).gr _,fun k e => .inr (h1.ba k e)⟩
  obtain ⟨bh,hg,kg⟩:=jT;refine Wz ?_;refine ae.bj rfl rfl ⟨_,rfl,A2,c2,rfl,?_,hg,kg⟩;have e:aM l i x=l++[x]:=by unfold aM;rw [adf (by omega),aec (by omega)];simp
  rw [e];exact bh
 ·by_cases kn:n+1<=c
  ·obtain ⟨g,rest,rfl,h1,h2,h3,h4,h5,h6⟩:=hO.opened (by omega);have DL:g≠b:=fun e=>bL (by rw [h6,e])
   have es:l.flatMap ck++rest=(l.take i).flatMap ck++((l.drop i).flatMap ck++rest):=by rw [<- ac6,<- adi,ac4]
   have e1:((l.take i).flatMap ck).length=i*4:=by rw [oZ];simp;omega
   have e2:((l.drop i).flatMap ck).length=(n-i)*4:=by rw [oZ];simp [mv]
   have lL:=hO.sl.drop i c (by omega) (by omega);rw [if_neg (by omega)] at lL;rw [es] at h2
   have I5:∀ w',Ext w w'->(Extern.SlicesOverlaps.overlaps #[38,38] #[4] #[.slice (some ⟨b,0,none⟩) 1 1,.slice (if c=i+1 then (some ⟨g,0,none⟩) else (some (⟨g,0,none⟩ : Addr)).map (·.add ((i+1)*4))) (n+1-(i+1)) (c-(i+1))]).run prog w' = .ok (.bool false) w':=fun w' hx=>by
    rw [if_neg (by omega),aeL,cU];have b1:=hB.ext hx;have b2:=h2.ext hx;unfold aS at b1 b2
    exact Lib.run_overlaps_apart w' 38 4 159 (bz.ou (t:=38)) 4 (fun w0=>run_sizeOf (bz.size (t:=38)) w0) ⟨b,0,none⟩ ⟨g,(i+1)*4,none⟩ 1 1 _ _ (fun e=>DL e.symm) 159 159 (ck x).toArray.size ((l.take i).flatMap ck++((l.drop i).flatMap ck++rest)).toArray.size
     (by simp only [World.shape?,b1]) (by simp only [World.shape?,b2]) (by simp [e1,e2];omega) (by simp [World.frozen?,b1]) (by simp [World.frozen?,b1])
   repeat' (first|refine Wz ?_|(refine CW.gj rfl ?_)|(refine SW.st (bc (k:=i) rfl rfl (by omega) (by omega)) rfl ?_)|(refine SW.st (dk (k:=n+1) rfl rfl (by omega)) rfl ?_)|(refine SW.st (bc (k:=i+1) rfl rfl (by omega) (by omega)) rfl ?_)|(refine SW.entry func165 (by kernel_rfl) (by kernel_rfl) (by kernel_rfl) (e:=Extern.SlicesOverlaps.overlaps #[38,38] #[4]) (by kernel_rfl) rfl rfl (I5 _ hw) ?_))
   all_goals try omega
   have oy:((n-i)+1)*4<=((l.drop i).flatMap ck++rest).length:=by rw [adb,e2];omega
   have e4:(l.drop i).flatMap ck++rest=((l.drop i).flatMap ck++rest).take 4++(((l.drop i).flatMap ck++rest).drop 4).take ((n-i)*4)++((l.drop i).flatMap ck++rest).drop (4+(n-i)*4):=by
    rw [ac6,<- ad6,ac4,ac4]
   generalize Gd:((l.drop i).flatMap ck++rest).take 4=D1 at e4
   generalize Ge:(((l.drop i).flatMap ck++rest).drop 4).take ((n-i)*4)=D2 at e4
   generalize Gf:((l.drop i).flatMap ck++rest).drop (4+(n-i)*4)=D3 at e4
   have f1:D1.length=4:=by rw [<- Gd];simp only [List.length_take];omega
   have f2:D2.length=(n-i)*4:=by rw [<- Ge];simp only [List.length_take,List.length_drop];omega
   have f3:D3.length+4=rest.length:=by rw [<- Gf];simp only [List.length_drop,List.length_append,e2];omega
   rw [e4] at h2;refine CW.any 8 mixed (dg (by kernel_rfl)) rfl fun w1 ai aJ => ?_
   obtain ⟨hw,hO,hB,h2⟩:=dG ai hw hO hB h2;clear ai;refine Wa ?_;refine Wu 4 aJ rfl (bc (k:=i+1) rfl rfl (by omega) (by omega)) ?_;refine Wa ?_;refine Wu 7 aJ rfl (bc (k:=i) rfl rfl (by omega) (by omega)) ?_;refine SA.done (by kernel_rfl) ?_;refine SW.copy (k:=n-i) ((i+1)*4) ((l.drop i).flatMap ck) h2 rfl rfl rfl (by omega) e2 (by simp only [List.length_append,e1,e2,f1,f2];omega) (fun h0=>⟨by rw [if_neg (by omega)];simp [cU],(⟨g,0,none⟩ : Addr).add (i*4),by rw [if_neg (by omega)];rfl,fun j v hv=>dr (by omega) (lL.ext hw) j v hv⟩) (oY _) fun w3 nc qo => ?_
   have g1:=eU ((l.take i).flatMap ck++D1) D2 D3 ((l.drop i).flatMap ck) (by rw [e2,f2]) (o:=(i+1)*4) (by rw [adb,e1,f1];omega);have g0:(l.take i).flatMap ck++(D1++D2++D3)=(l.take i).flatMap ck++D1++D2++D3:=by simp only [List.append_assoc]
   rw [g0,g1] at nc;have Gc:=bQ (hw.gr (aI (some ⟨g,0,none⟩) c)) qo (.inl h6.symm);have Qw:=hB.grown qo (by simpa using fun e=>DL e.symm);repeat' (first|refine Wz ?_|(refine SW.st (bc (k:=i) rfl rfl (by omega) (by omega)) rfl ?_))
   refine SW.copy (k:=1) (i*4) (ck x) nc rfl rfl rfl (by omega) nF (by simp only [List.length_append,e1,e2,f1,nF];omega) (fun h0=>⟨by rw [if_neg (by omega)];simp [cU],⟨b,0,none⟩,rfl,fun j v hv=>Qw.cell hv⟩) (im.one (enc:=ck) x) fun w4 nP xv => ?_
   have g2:=eU ((l.take i).flatMap ck) D1 ((l.drop i).flatMap ck++D3) (ck x) (by rw [nF,f1]) (o:=i*4) e1.symm;have g3:(l.take i).flatMap ck++D1++(l.drop i).flatMap ck++D3=(l.take i).flatMap ck++D1++((l.drop i).flatMap ck++D3):=by simp only [List.append_assoc]
   have g4:(l.take i).flatMap ck++ck x++((l.drop i).flatMap ck++D3)=(aM l i x).flatMap ck++D3:=by unfold aM;simp only [List.flatMap_append,List.flatMap_cons,List.flatMap_nil,List.append_nil,List.append_assoc]
   rw [g3,g2,g4] at nP;have D8:=Own.closed (n:=n+1) (c:=c) (l:=aM l i x) (by unfold aM;simp;omega) nP (by omega) kn (by omega) h5 h1;have dY:=bQ Gc xv (.inl h6.symm);refine Wz ?_;exact ae.bj rfl rfl ⟨_,rfl,_,_,rfl,D8,dY,fun k e => .inl e⟩
  ·have R3:c=n:=by omega
   have lL:=hO.sl.drop i c (by omega) (by omega);have AU:=hO.sl.pre (i:=i) (by omega);repeat' (first|refine Wz ?_|(refine SW.st (bc (k:=i) rfl rfl (by omega) (by omega)) rfl ?_)|(refine SW.st (dk (k:=i) rfl rfl (by omega)) rfl ?_))
   all_goals try omega
   refine SW.xX (k:=n+1-i) AU Tryz.underlying3 rfl rfl (by omega) rfl (by omega) (by omega) (by omega) (by omega) fun g rest c2 w2 bt dA h2 h3 h4 h5 => ?_
   have e1:((l.take i).flatMap ck).length=i*4:=by rw [oZ];simp;omega
   have e2:((l.drop i).flatMap ck).length=(n-i)*4:=by rw [oZ];simp [mv]
   have oy:((n-i)+1)*4<=rest.length:=by omega
   have e4:rest=rest.take 4++(rest.drop 4).take ((n-i)*4)++rest.drop (4+(n-i)*4):=by
    rw [ac6,<- ad6,ac4,ac4]
   generalize Gd:rest.take 4=D1 at e4
   generalize Ge:(rest.drop 4).take ((n-i)*4)=D2 at e4
   generalize Gf:rest.drop (4+(n-i)*4)=D3 at e4
   have f1:D1.length=4:=by rw [<- Gd];simp only [List.length_take];omega
   have f2:D2.length=(n-i)*4:=by rw [<- Ge];simp only [List.length_take,List.length_drop];omega
   have f3:D3.length+((n-i)+1)*4=rest.length:=by rw [<- Gf];simp only [List.length_drop];omega
   rw [e4] at h2;have gg:aI A c≠some g:=fun e=>by have:=hO.lt_size _ e;omega
   have DL:b≠g:=by have:=hB.lt;omega
   obtain ⟨lL,hB,hw⟩:=cj bt lL hB hw;repeat' (first|refine Wz ?_|(refine SW.st (bc (k:=i) rfl rfl (by omega) (by omega)) rfl ?_))
   refine SW.copy (k:=1) (i*4) (ck x) h2 rfl rfl rfl (by omega) nF (by simp only [List.length_append,e1,f1,f2,nF];omega) (fun h0=>⟨by rw [if_neg (by omega)];simp [cU],⟨b,0,none⟩,rfl,fun j v hv=>hB.cell hv⟩) (im.one (enc:=ck) x) fun w3 nc qo => ?_
   have g2:=eU ((l.take i).flatMap ck) D1 (D2++D3) (ck x) (by rw [nF,f1]) (o:=i*4) e1.symm;have g3:(l.take i).flatMap ck++(D1++D2++D3)=(l.take i).flatMap ck++D1++(D2++D3):=by simp only [List.append_assoc]
   rw [g3,g2] at nc;have Lm:Ext w w3:=hw.own dA qo
   have lh:Sl w3 4 ck (if c=i then A else A.map (·.add (i*4))) (n-i) (l.drop i):=(hO.sl.drop i c (by omega) (by omega)).ext Lm
   have hw:=Lm;refine Wz ?_;refine CW.any 8 mixed (dg (by kernel_rfl)) rfl fun w1 ai aJ => ?_
   obtain ⟨hw,nc,lh⟩:=cj ai hw nc lh;clear ai;refine Wa ?_;refine Wu 4 aJ rfl (bc (k:=i+1) rfl rfl (by omega) (by omega)) ?_;refine Wa ?_;refine Wu 7 aJ rfl (bc (k:=i) rfl rfl (by omega) (by omega)) ?_;refine SA.done (by kernel_rfl) ?_;refine SW.copy (k:=n-i) ((i+1)*4) ((l.drop i).flatMap ck) nc rfl rfl rfl (by omega) e2 (by simp only [List.length_append,e1,e2,f2,nF];omega) (fun h0=>⟨by rw [if_neg (by omega)];simp [cU],(if c=i then A else A.map (·.add (i*4))).getD default,?_,fun j v hv=>dr (by omega) lh j v hv⟩) (oY _) fun w4 nP xv => ?_
   ·obtain ⟨a,ha⟩:=adw.1 (lh.base h0);rw [ha];rfl
   ·have g4:=eU ((l.take i).flatMap ck++ck x) D2 D3 ((l.drop i).flatMap ck) (by rw [e2,f2]) (o:=(i+1)*4) (by rw [adb,e1,nF];omega);have g5:(l.take i).flatMap ck++ck x++(D2++D3)=(l.take i).flatMap ck++ck x++D2++D3:=by simp only [List.append_assoc]
    have g6:(l.take i).flatMap ck++ck x++(l.drop i).flatMap ck++D3=(aM l i x).flatMap ck++D3:=by unfold aM;simp only [List.flatMap_append,List.flatMap_cons,List.flatMap_nil,List.append_nil,List.append_assoc]
    rw [g5,g4,g6] at nP;have D8:=Own.closed (n:=n+1) (c:=c2) (lo:=lo) (l:=aM l i x) (by unfold aM;simp;omega) nP (by omega) (by omega) (by omega) h5 (by omega);have ko:Ext w w4:=hw.own dA xv
    have e9:i+(n+1-i)=n+1:=by omega
    refine Wz ?_;rw [e9]
    exact ae.bj rfl rfl ⟨_,rfl,_,_,rfl,D8,ko.gr _,fun k e => .inr (by
     have:k=g:=by
      unfold aI at e;split at e
      ·cases e
      ·simpa using e.symm
     omega)⟩
theorem SW.pN {n:Nat} {rest:List Oper} {L:Env} {pos:String} [E:im enc sz] {c:Nat} {l:List α} [G:fu P t sz] {x:Operand} (k:Nat) (x' : α)
 (hO:Own w lo e sz enc A m c l) (hx:cK L x=some (.pointer (some ((A.getD default).add (k*sz))))) (hy:cK L y=some (.agg (enc x').toArray)) (hk:k<m)
 (h:∀ w',Own w' lo e sz enc A m c (l.set k x')->w.grownBy w' (aI A c)->SW P n ops (.gL Q) rest L w') : SW P n ops (.gL Q) (⟨none,.store t x y,T,pos,af,none⟩::rest) L w :=
 ⟨fun a ha=>by
  have hc : 0<c:=by have:=hO.le;omega
  obtain ⟨g,r,rfl,dz,hB,hr,ZP,ZQ,how⟩:=hO.opened hc;have iw:k<l.length:=by rw [hO.len];exact hk
  have px:(k+1)*sz<=m*sz:=adt _ hk
  rw [adQ,Nat.one_mul] at px;have oZ:(l.flatMap enc).length=m*sz:=by rw [aV,hO.len]
  have e0:(((some (⟨g,0,none⟩ : Addr)).getD default).add (k*sz))=⟨g,k*sz,none⟩:=cU g _
  rw [e0] at hx;have el:l=l.take k++[l[k]]++l.drop (k+1):=by simp
  have hX:((l.take k).flatMap enc).length=k*sz:=by rw [aV,aeG,Nat.min_eq_left (by omega)]
  have e1:l.flatMap enc++r=(l.take k).flatMap enc++enc l[k]++((l.drop (k+1)).flatMap enc++r):=by
   have e3:l.flatMap enc=(l.take k++[l[k]]++l.drop (k+1)).flatMap enc:=by rw [<- el]
   rw [e3,adi,adi];simp only [List.flatMap_cons,List.flatMap_nil,List.append_nil,List.append_assoc]
  have AH:=run_storeCells_at P g (k*sz) e (enc x') 0 (l.flatMap enc++r).toArray w hB (by simp only [List.size_toArray,List.length_append,oZ,E.len];omega) (E.one x')
  have e2:((l.flatMap enc++r).toArray.toList.take (k*sz+0)++enc x'++(l.flatMap enc++r).toArray.toList.drop (k*sz+0+(enc x').length))=(l.set k x').flatMap enc++r:=by
   have:=eU ((l.take k).flatMap enc) (enc l[k]) ((l.drop (k+1)).flatMap enc++r) (enc x') (by rw [E.len,E.len]) hX.symm
   rw [<- e1] at this;unfold lay at this;simp only [Nat.add_zero];rw [this,adW,if_pos iw];simp
  rw [e2] at AH;simp only [swp,wpList,Region.wanted,if_true];refine .inl ?_;unfold Oper.wp
  have sb:(execOp a.eval ⟨none,.store t x y,T,pos,af,none⟩).run P w = .ok .skip (w.setRow g ((l.set k x').flatMap enc++r).toArray):=by
   simp [execOp,ha.eval hx,ha.eval hy,Instr.storeAt,Instr.sureAddr,storeVar,Value.cells,run_sizeOf G.size,E.len,AH]
  rw [sb,Oper.upon_skip];obtain ⟨vI,KQ⟩:=ia (cs:=(l.set k x').flatMap enc++r) hB;refine (h _ (Own.closed (by rw [adz];exact hO.len) vI hr ZP hc ZQ dz) ?_).out _ ha;rw [how];exact KQ⟩
variable {z:ak}
structure gu (w:World) (lo g c:Nat) (u0 u1:dZ) (s:ak×ak) : Prop where
 row:Own w lo 117 4 dp (some ⟨g,0,none⟩) 2 c [u0,u1]
 z0:iA w lo u0 s.1
 z1:iA w lo u1 s.2
 Ij:lo<=g
 pos : 0<c
section
variable {w w':World} {lo ov g c t:Nat} {u0 u1:dZ} {s:ak×ak}
theorem gu.ext (h:gu w lo g c u0 u1 s) (hx:Ext w w') : gu w' lo g c u0 u1 s:=⟨h.row.ext hx,h.z0.ext hx,h.z1.ext hx,h.Ij,h.pos⟩
theorem gu.aN (h:gu w lo g c u0 u1 s) (hG:rF w w' t) (bL:(Nat.beq t 117 || (Nat.beq t 3 || Nat.beq t 147))=false) : gu w' lo g c u0 u1 s:=by
 rw [aew] at bL;exact ⟨h.row.aN hG bL.1,h.z0.aN hG bL.2,h.z1.aN hG bL.2,h.Ij,h.pos⟩
theorem gu.own (h:gu w lo g c u0 u1 s) : aI (some (⟨g,0,none⟩ : Addr)) c=some g:=by simp [aI,Nat.pos_iff_ne_zero.1 h.pos]
theorem gu.gr (h:gu w lo g c u0 u1 s) (hg:w.grownBy w' (some g)) : rF w w' 117:=h.row.gr (by rw [h.own];exact hg)
theorem sR {u:dZ} (h:iA w lo u z) (hz:bU z) : (u.aj.n+1)*24<=140737488355328∧u.Types.n*8<=140737488355328∧(0<=u.aU∧u.aU<=256)∧(0<=u.To∧u.To<=256):=by
 have e1:=h.free.sl.len;have e2:=h.types.sl.len;have e3:=h.from_;have e4:=h.o8;have hl:=kq hz;obtain ⟨o1,o2,o3,o4,o5⟩:=hz.ok;refine ⟨ac2 (adt 24 (show u.aj.n+1<=258 by omega)) (by decide),by omega,by omega,by omega⟩
end
theorem we (r:ju) (u0 u1:dZ) (p:Int) (w:World) (hz:Sl w 4 dp r.bp.A r.bp.n [u0,u1]) :
 bI prog 96 [.agg (dC r).toArray,.int .i64 p] w fun v _=>v = .int .i64 (if p<u0.To then 0 else 1):=by
 refine aE func96 rfl ntmps96 rfl ?_;refine CW.seq (CW.region (SW.box rfl rfl fun b1 w1 hw lc aW => ?_));have hA:=hz.base;have hn : 2=r.bp.n:=hz.len
 have h0 : 0<r.bp.n:=by omega
 have f0:=hz.jL h0 (j:=1) (u := .int .i64 u0.To) rfl;repeat' (first|refine Wz ?_|(refine CW.uA rfl (fun h => ?_) (fun h => ?_))|refine Wn hw f0 ?_)
 all_goals
  refine ae.bj rfl rfl ⟨_,rfl,hw,?_⟩
  first|(rw [if_pos (by omega)])|(rw [if_neg (by omega)])
def On (w:World) (lo g c:Nat) (s:ak×ak) (b:Block) (w':World) : Prop:=w.grownBy w' (some g) ∧ ∃ u0 u1,gu w' lo g c u0 u1 (gp s b)
theorem wg (m:ga) (cp:Int) (li lv:ga) (u0 u1:dZ) (s:ak×ak) (bs:List Block) (b:Block) (lo g c b1:Nat) (w:World) (aW:aS w b1 41 (dC ⟨⟨some ⟨g,0,none⟩,2,c⟩,m,cp,li,lv⟩)) (hZ:gu w lo g c u0 u1 s) (dz:lo<=w.heap.size) (hD:qC s bs) (hN:pL bs b) :
 iI prog 95 [.pointer (some ⟨b1,0,none⟩),.int .i64 b.At,.int .i64 b.Order] w fun v w'=>On w lo g c s b w':=by
 refine dh func95 rfl ntmps95 rfl ?_;have hw:=Ext.refl w;have eT:=hZ.z0.o8;obtain ⟨q1,q2,q3,q4⟩:=sR hZ.z0 hD.lN;obtain ⟨p1,p2,p3,p4⟩:=sR hZ.z1 hD.lq;have hA:=hZ.row.sl.base;have cz:∀ w',Sl w' 4 dp (some ⟨g,0,none⟩) 2 [u0,u1]->bI prog 96 [.agg (dC ⟨⟨some ⟨g,0,none⟩,2,c⟩,m,cp,li,lv⟩).toArray,.int .i64 b.At] w' fun v _=>v = .int .i64 (if b.At<u0.To then 0 else 1):=fun w' h=>we ⟨⟨some ⟨g,0,none⟩,2,c⟩,m,cp,li,lv⟩ u0 u1 b.At w' h
 by_cases hx:b.At<u0.To
 ·have eP:gp s b=((fM s.1 b.At b.Order).2,s.2):=by unfold gp;rw [if_pos (by omega)]
  simp only [if_pos hx] at cz;have LI:=hZ.row.sl;have k0 : 0<2:=by omega
  repeat' (first|refine Wz ?_|(refine Wk (cz _ hZ.row.sl) ?_;intro v w1 ai hv;subst hv;obtain ⟨hw,aW,hZ⟩:=cj ai hw aW hZ;clear ai))
  refine CW.gl 19 19 (fun _=>True) mixed (by kernel_rfl) fun w1 ai aJ => ?_
  obtain ⟨hw,aW,hZ⟩:=cj ai hw aW hZ;clear ai;refine Wp 0 [] [] aJ rfl rfl ?_;refine Wt 1 [] [] aJ rfl (aG rfl) ?_;refine Wt 2 [] [] aJ rfl (az rfl) ?_;refine Wt 3 [] [] aJ rfl (aT rfl (aW.cell rfl)) ?_;refine Wp 4 [] [] aJ rfl rfl ?_;refine Wp 5 [] [] aJ rfl rfl ?_;refine Wt 6 [] [] aJ rfl (aG rfl) ?_;refine Wt 7 [] [] aJ rfl (az rfl) ?_;refine Wt 8 [] [] aJ rfl (aT rfl (aW.cell rfl)) ?_;refine Wp 9 [] [] aJ rfl rfl ?_;refine Wt 10 [] [] aJ rfl (bZ rfl rfl (by assumption) (by omega)) ?_;refine Wt 11 [] [] aJ rfl (aX rfl rfl ((hZ.row.sl.all k0))) ?_;refine Wp 12 [] [] aJ rfl rfl ?_;refine Wp 13 [] [] aJ rfl rfl ?_;refine SF.one 14 rfl (by kernel_rfl) rfl ?_;refine Wk (pG u0 s.1 b.At b.Order _ hZ.z0.rd q1 q2 ⟨by omega,by omega⟩ ⟨by omega,by omega⟩) fun v w4 ar hv => ?_
  obtain ⟨u',rfl,nd⟩:=hv;have nd:=nd.low (ac2 dz hw.size);(obtain ⟨hw,aW,hZ⟩:=cj ar hw aW hZ);refine SW.nil (ae.sf ar ?_);refine Wp 15 [] [] aJ rfl rfl ?_;refine Wp 16 [] [] aJ rfl rfl ?_;refine SF.Br 17 aJ rfl (by kernel_rfl) (by kernel_rfl) rfl (fun _=>bi rfl) rfl ?_;refine Wt 18 [] [] aJ rfl (bZ rfl rfl (by assumption) (by omega)) ?_;refine SF.last rfl (by kernel_rfl) (by kernel_rfl) ?_;refine SW.pN (enc:=dp) 0 u' hZ.row rfl rfl k0 fun w5 hO hg => ?_
  rw [hZ.own] at hg;have hG:=hZ.gr hg;have AK:=bQ (hw.gr (some g)) hg (.inl rfl);refine Wz ?_;exact ae.pI rfl ⟨_,rfl,AK,u',u1,by rw [eP];exact ⟨hO,nd.aN hG rfl,hZ.z1.aN hG rfl,hZ.Ij,hZ.pos⟩⟩
 ·have eP:gp s b=(s.1,(fM s.2 b.At b.Order).2):=by unfold gp;rw [if_neg (by omega)]
  simp only [if_neg hx] at cz;have k0 : 1<2:=by omega
  repeat' (first|refine Wz ?_|(refine Wk (cz _ hZ.row.sl) ?_;intro v w1 ai hv;subst hv;obtain ⟨hw,aW,hZ⟩:=cj ai hw aW hZ;clear ai))
  refine CW.gl 19 19 (fun _=>True) mixed (by kernel_rfl) fun w1 ai aJ => ?_
  obtain ⟨hw,aW,hZ⟩:=cj ai hw aW hZ;clear ai;refine Wp 0 [] [] aJ rfl rfl ?_;refine Wt 1 [] [] aJ rfl (aG rfl) ?_;refine Wt 2 [] [] aJ rfl (az rfl) ?_;refine Wt 3 [] [] aJ rfl (aT rfl (aW.cell rfl)) ?_;refine Wp 4 [] [] aJ rfl rfl ?_;refine Wp 5 [] [] aJ rfl rfl ?_;refine Wt 6 [] [] aJ rfl (aG rfl) ?_;refine Wt 7 [] [] aJ rfl (az rfl) ?_;refine Wt 8 [] [] aJ rfl (aT rfl (aW.cell rfl)) ?_;refine Wp 9 [] [] aJ rfl rfl ?_;refine Wt 10 [] [] aJ rfl (bZ rfl rfl (by assumption) (by omega)) ?_;refine Wt 11 [] [] aJ rfl (aX rfl rfl ((hZ.row.sl.all k0))) ?_;refine Wp 12 [] [] aJ rfl rfl ?_;refine Wp 13 [] [] aJ rfl rfl ?_;refine SF.one 14 rfl (by kernel_rfl) rfl ?_;refine Wk (pG u1 s.2 b.At b.Order _ hZ.z1.rd p1 p2 ⟨by omega,by omega⟩ ⟨by omega,by omega⟩) fun v w4 ar hv => ?_
  obtain ⟨u',rfl,nd⟩:=hv;have nd:=nd.low (ac2 dz hw.size);(obtain ⟨hw,aW,hZ⟩:=cj ar hw aW hZ);refine SW.nil (ae.sf ar ?_);refine Wp 15 [] [] aJ rfl rfl ?_;refine Wp 16 [] [] aJ rfl rfl ?_;refine SF.Br 17 aJ rfl (by kernel_rfl) (by kernel_rfl) rfl (fun _=>bi rfl) rfl ?_;refine Wt 18 [] [] aJ rfl (bZ rfl rfl (by assumption) (by omega)) ?_;refine SF.last rfl (by kernel_rfl) (by kernel_rfl) ?_;refine SW.pN (enc:=dp) 1 u' hZ.row rfl rfl k0 fun w5 hO hg => ?_
  rw [hZ.own] at hg;have hG:=hZ.gr hg;have AK:=bQ (hw.gr (some g)) hg (.inl rfl);refine Wz ?_;exact ae.pI rfl ⟨_,rfl,AK,u0,u',by rw [eP];exact ⟨hO,hZ.z0.aN hG rfl,nd.aN hG rfl,hZ.Ij,hZ.pos⟩⟩
variable {L:List aR} {cs:List Value} {b1 ov n' ZR:Nat} {A':Option Addr} {row:Option Nat} {li Oo lv:ga} {e':TypeId} {w' w0:World} {u0 u1:dZ} {z0 z1:ak} {VV:β -> List Value}
theorem LB.split {r:ju} {h:Heap} (a:LB w lo r h) (hz:h.bp=[z0,z1]) : ∃ g c u0 u1 ls,r.bp=⟨some ⟨g,0,none⟩,2,c⟩∧gu w lo g c u0 u1 (z0,z1)∧gd w lo r.av ls h.av∧uV r.dK [u0,u1] ls∧xA r.Live [u0,u1]:=by
 obtain ⟨zs,ls,Db,FU,hm,hf⟩:=a.all;have l0:=Db.each.len;rw [hz] at l0;obtain ⟨u0,u1,rfl⟩:=zh (show zs.length=2 from l0);have l1:=Db.row.len;have h0:=Db.each.get 0 (by simp) (by simp [hz]);have h1:=Db.each.get 1 (by simp) (by simp [hz]);simp only [hz] at h0 h1;have hc : 0<r.bp.c:=by have:=Db.row.le;simp at l1;omega
 obtain ⟨g,rest,hA,dz,_⟩:=Db.row.opened hc;refine ⟨g,r.bp.c,u0,u1,ls,?_,⟨?_,h0,h1,dz,hc⟩,FU,hm,hf⟩
 ·rw [<- hA];have:(2:Nat)=r.bp.n:=l1
  rw [this]
 ·have:=Db.row
  rw [hA,<- l1] at this;exact this
theorem Own.apart {n c:Nat} {l:List α} (h:Own w lo e sz enc A n c l) (hg:w.grownBy w' row) (hs:∀ g,aI A c=some g->row≠some g) : Own w' lo e sz enc A n c l:=by
 refine h.grown hg ?_;cases e:aI A c with
 | none=>exact .inl rfl
 | some g=>exact .inr (fun e2=>hs g e e2.symm)
theorem gu.GJ {g c:Nat} {s:ak×ak} (h:gu w lo g c u0 u1 s) (hs:xA lv [u0,u1]) (hg:w.grownBy w' (aI lv.A lv.c)) (hG:rF w w' 147) : gu w' lo g c u0 u1 s :=
 ⟨h.row.aN hG rfl,⟨h.z0.from_,h.z0.o8,h.z0.free.apart hg (hs u0 (by simp)),h.z0.types.aN hG rfl⟩,⟨h.z1.from_,h.z1.o8,h.z1.free.apart hg (hs u1 (by simp)),h.z1.types.aN hG rfl⟩,h.Ij,h.pos⟩
structure QQ (w0:World) (li:ga) (b1:Nat) (o:Option Nat) : Prop where
 out:∀ k,o=some k->k≠b1∧aI li.A li.c≠some k∧k<w0.heap.size
theorem QQ.ne {o:Option Nat} (h:QQ w0 li b1 o) (hr:∀ k,row=some k->k=b1∨aI li.A li.c=some k∨w0.heap.size<=k) : ∀ g,o=some g->row≠some g:=fun g e e2=>by
 obtain ⟨h1,h2,h3⟩:=h.out g e;rcases hr g e2 with h|h|h
 ·exact h1 h
 ·exact h2 h
 ·omega
theorem Own.ns {n c:Nat} {l:List α} (h:Own w0 lo e sz enc A n c l) {ls:List du} (hl:gd w0 lo li ls L) (hb:aS w0 b1 41 cs) (h1:Nat.beq 41 e=false) (h2:Nat.beq e 159=false) : QQ w0 li b1 (aI A c) :=
 ⟨fun k hk=>⟨fun e=>h.fb hb h1 (by rw [hk,e]),by
  rcases h.row with ⟨_,rfl⟩|⟨hc,g,jO,rfl,_,hg,_⟩
  ·simp [aI] at hk
  ·simp only [aI,Nat.pos_iff_ne_zero.1 hc,if_false,Option.map_some,Option.some.injEq] at hk;subst hk;exact hl.row.fb (cs:=jO.toList) (by unfold aS;simpa using hg) h2,h.lt_size k hk⟩⟩
theorem Own.oQ {n c c':Nat} {l:List α} {l':List β} (h:Own w0 lo e sz enc A n c l) (h':Own w0 ov e' ZR VV A' n' c' l') (bL:Nat.beq e e'=false) : ∀ k,aI A c=some k->aI A' c'≠some k:=fun k hk=>by
 rcases h.row with ⟨_,rfl⟩|⟨hc,g,jO,rfl,_,hg,_⟩
 ·simp [aI] at hk
 ·simp only [aI,Nat.pos_iff_ne_zero.1 hc,if_false,Option.map_some,Option.some.injEq] at hk;subst hk;exact h'.fb (cs:=jO.toList) (by unfold aS;simpa using hg) bL
theorem gu.parts {g c:Nat} {s:ak×ak} (h:gu w lo g c u0 u1 s) (hg:w.grownBy w' row) (h0:∀ k,aI (some (⟨g,0,none⟩ : Addr)) c=some k->row≠some k) (h1:∀ k,aI u0.aj.A u0.aj.c=some k->row≠some k) (h2:∀ k,aI u0.Types.A u0.Types.c=some k->row≠some k)
 (h3:∀ k,aI u1.aj.A u1.aj.c=some k->row≠some k) (h4:∀ k,aI u1.Types.A u1.Types.c=some k->row≠some k) : gu w' lo g c u0 u1 s :=
 ⟨h.row.apart hg h0,⟨h.z0.from_,h.z0.o8,h.z0.free.apart hg h1,h.z0.types.apart hg h2⟩,⟨h.z1.from_,h.z1.o8,h.z1.free.apart hg h3,h.z1.types.apart hg h4⟩,h.Ij,h.pos⟩
def ob (s:ga) : Option Nat:=aI s.A s.c
def QR (a b:du) : Prop := ∀ g,ob a.ax=some g->ob b.ax≠some g
theorem Jy {a b:du} (h:QR a b) : QR b a:=fun g e e2=>h g e2 e
theorem u7 {ls:List du}:Gt ls↔ls.Pairwise QR:=by
 rw [ac8];refine ⟨fun h i j hi hj o9 g e=>h i j hi hj (by omega) g e,fun h i j hi hj o9 g e => ?_⟩;rcases aee o9 with h1|h1
 ·exact h i j hi hj h1 g e
 ·exact Jy (h j i hj hi h1) g e
structure Bc (n:Nat) (li:ga) (ls:List du) (Oo:ga) (Jz:List du) : Prop where
 sep:Gt Jz
 of:∀ y∈Jz,∀ g,ob y.ax=some g->(∃ x∈ls,ob x.ax=some g)∨n<=g
 row:∀ k,ob Oo=some k->ob li=some k∨n<=k
theorem Bc.tr {n:Nat} {ls:List du} {y:du} (hs:Gt ls) (eQ:∀ x∈ls,∀ g,ob x.ax=some g->g<n) (hi:i<ls.length) (hy:∀ g,ob y.ax=some g->ob ls[i].ax=some g∨n<=g) : Bc n li ls li (ls.set i y):=by
 refine ⟨fun a b ha hb Pt g e e2 => ?_,fun z hz g e => ?_,fun k e => .inl e⟩
 ·simp only [List.length_set] at ha hb
  change ob ((ls.set i y)[a]).ax=some g at e
  change ob ((ls.set i y)[b]).ax=some g at e2
  simp only [List.getElem_set] at e e2;by_cases h1:i=a
  ·rw [if_pos h1] at e;rw [if_neg (by omega)] at e2;rcases hy g e with h|h
   ·subst h1;exact hs _ _ hi hb Pt g h e2
   ·have:=eQ _ (ac0 hb) g e2;omega
  ·rw [if_neg h1] at e;by_cases h2:i=b
   ·rw [if_pos h2] at e2;rcases hy g e2 with h|h
    ·subst h2;exact hs _ _ ha hi Pt g e h
    ·have:=eQ _ (ac0 ha) g e;omega
   ·rw [if_neg h2] at e2;exact hs _ _ ha hb Pt g e e2
 ·rcases adg hz with h|rfl
  ·exact .inl ⟨z,h,e⟩
  ·rcases hy g e with h|h
   ·exact .inl ⟨_,ac0 hi,h⟩
   ·exact .inr h
theorem Bc.ins {n:Nat} {ls:List du} {y:du} (hs:Gt ls) (eQ:∀ x∈ls,∀ g,ob x.ax=some g->g<n) (hy:∀ g,ob y.ax=some g->n<=g) (hr:∀ k,ob Oo=some k->ob li=some k∨n<=k) : Bc n li ls Oo (aM ls i y):=by
 have hm:∀ z,z∈aM ls i y->z∈ls∨z=y:=fun z hz=>by
  unfold aM at hz;rw [ac9,ac9,aeT] at hz;rcases hz with (hz|hz)|hz
  ·exact .inl (adu hz)
  ·exact .inr hz
  ·exact .inl (adI hz)
 refine ⟨?_,fun z hz g e => ?_,hr⟩
 ·have hs:=u7.1 hs;rw [<- ac4 i ls,adp] at hs;obtain ⟨h1,h2,h3⟩:=hs;rw [u7];unfold aM;rw [ac6,adp];refine ⟨h1,?_,fun a ha b hb => ?_⟩
  ·rw [adn,adY];exact ⟨fun b hb g e e2=>by have:=hy g e;have:=eQ b (adI hb) g e2;omega,h2⟩
  ·rw [adn,ad4] at hb;rcases hb with rfl|hb
   ·exact fun g e e2=>by have:=hy g e2;have:=eQ a (adu ha) g e;omega
   ·exact h3 a ha b hb
 ·rcases hm z hz with h|rfl
  ·exact .inl ⟨z,h,e⟩
  ·exact .inr (hy g e)
theorem SW.Dg {n:Nat} {rest:List Oper} {L:Env} {pos:String} {z:Value} {c:Nat} {l ys:List α} [bz P t e sz] [dn P e z sz bytes] [im enc sz] {x:Operand}
 (hO:Own w lo e sz enc A k c l) (hS:Sl w sz enc X m ys) (dz:lo<=w.heap.size) (DU : 0<m) (hx:cK L x=some (.slice A k c)) (hy:cK L y=some (.slice X m c2)) (hn:Nat.blt dd n=true)
 (hb:(k+m)*bytes<=140737488355328) (hm:k+m<=9223372036854775807)
 (h:∀ A' c' w',Own w' lo e sz enc A' (k+m) c' (l++ys)->w.grownBy w' (aI A c)->(∀ g,aI A' c'=some g->aI A c=some g∨w.heap.size<=g)->SW P n ops (.gL Q) rest ((dd,.slice A' (k+m) c')::L) w') :
 SW P n ops (.gL Q) (⟨some dd,.call ⟨.builtin .append,#[x,y],#[t,t]⟩,T,pos,af,none⟩::rest) L w:=by
 refine SW.yg hO hS dz DU hx hy hn hb hm fun A' c' w' hh => ?_
 rcases hh with ⟨rfl,rfl,h1,h2⟩|⟨h1,h2⟩
 ·exact h _ _ _ h1 h2 (fun g e => .inl e)
 ·exact h _ _ _ (h1.low dz) ⟨h2.os,h2.tape,h2.output,h2.size,fun k hk _=>h2.block k hk (fun e=>by cases e)⟩ (fun g e => .inr (h1.ba g e))
variable {KR:List du} {L1:List aR} {ys:List β} {VW:ga} {F:World->Prop}
structure Oq (F:World->Prop) (w:World) : Prop where
 at_:F w
 all:∀ w w',Ext w w'->F w->F w'
theorem Oq.ext (h:Oq F w) (hx:Ext w w') : Oq F w':=⟨h.all _ _ hx h.at_,h.all⟩
theorem Oq.to (h:Oq F w) (hf:F w') : Oq F w':=⟨hf,h.all⟩
theorem fY.aM {R : α -> β -> Prop} {xs:List α} (h:fY R xs ys) (hi:i<=xs.length) {x : α} {y : β} (hr:R x y) : fY R (aM xs i x) (aM ys i y):=by
 have hl:=h.len;refine ⟨by rw [de _ hi,de _ (by omega),hl],fun k h1 h2 => ?_⟩
 have iu:∀ {γ:Type} (zs:List γ) (z : γ) (k:Nat) (hk:k<(Proofs.YtohigmjjbgpfmaaGreatDoor.aM zs i z).length) (u : γ),(Proofs.YtohigmjjbgpfmaaGreatDoor.aM zs i z)[k]?=some u->(Proofs.YtohigmjjbgpfmaaGreatDoor.aM zs i z)[k]=u:=fun zs z k hk u hu=>by
  rw [ac7 hk] at hu;exact Option.some.inj hu
 rw [de _ hi] at h1;rcases adD k i with e|e|e
 ·rw [iu xs x k _ (xs[k]'(by omega)) (by rw [uX hi e,ac7]),iu ys y k _ (ys[k]'(by omega)) (by rw [uX (by omega) e,ac7])];exact h.get k (by omega) (by omega)
 ·subst e;rw [iu xs x k _ x (lu hi),iu ys y k _ y (lu (by omega))];exact hr
 ·obtain ⟨j,rfl⟩ : ∃ j,k=j+1:=⟨k-1,by omega⟩;rw [iu xs x (j+1) _ (xs[j]'(by omega)) (by rw [zf hi (by omega),ac7]),iu ys y (j+1) _ (ys[j]'(by omega)) (by rw [zf (by omega) (by omega),ac7])];exact h.get j (by omega) (by omega)
theorem fY.setAt {R R' : α -> β -> Prop} {xs:List α} (h:fY R xs ys) {x : α} {y : β} (hr:R' x y) (ho:∀ (k:Nat) (h1:k<xs.length) (h2:k<ys.length),k≠i->R xs[k] ys[k]->R' xs[k] ys[k]) : fY R' (xs.set i x) (ys.set i y):=by
 refine ⟨by simp [h.len],fun k h1 h2 => ?_⟩;simp only [List.length_set] at h1 h2;rw [adq,adq];by_cases e:i=k
 ·rw [if_pos e,if_pos e];exact hr
 ·rw [if_neg e,if_neg e];exact ho k h1 h2 (fun h=>e h.symm) (h.get k h1 h2)
structure EH (n:Nat) (w:World) (lo:Nat) (F:World->Prop) (L:List aR) (x:aR) (p:Int) (VW:ga) (KR:List du) (L1:List aR) : Prop where
 own:gd w lo VW KR L1
 lt:bu L x<L1.length
 tr:L1.set (bu L x) ⟨x.fV,x.ak,x.Ty,L1[bu L x].ax++[p]⟩=iU L ⟨x.fV,x.ak,x.Ty,dc L x++[p]⟩
 key:iZ L1[bu L x] x
 sep:∀ (j:Nat) (hk:bu L x<KR.length) (hj:j<KR.length),j≠bu L x -> ∀ g,aI KR[bu L x].ax.A KR[bu L x].ax.c=some g->aI KR[j].ax.A KR[j].ax.c≠some g
 VX:∀ (hk:bu L x<KR.length) (w w':World),w.grownBy w' (aI KR[bu L x].ax.A KR[bu L x].ax.c)->F w->F w'
 small:L1[bu L x].ax.length<=1000
 size:n<=w.heap.size
theorem EH.ext {n:Nat} {x:aR} {p:Int} (h:EH n w lo F L x p VW KR L1) (hx:Ext w w') : EH n w' lo F L x p VW KR L1 :=
 ⟨h.own.ext hx,h.lt,h.tr,h.key,h.sep,h.VX,h.small,ac2 h.size hx.size⟩
set_option maxHeartbeats 8000000 in
theorem EI (Z m:ga) (cp:Int) (li lv:ga) (L:List aR) (ls:List du) (x:aR) (y:du) (p:Int) (F:World->Prop) (b1:Nat) (w w0:World) (hw:Ext w w0) (DK:w.heap.size<=b1) (aW:aS w0 b1 41 (dC ⟨Z,m,cp,li,lv⟩)) (hl:gd w0 w.heap.size li ls L) (hk:v7 y x) (Sc:y.ax = .nil) (UH:x.ax=[])
 (Ea:Gt ls) (hs:Er L) (hn:(li.n+1)*48<=140737488355328) (LS:∀ l∈L,l.ax.length<=1000) (sh:Oq F w0) (NI:∀ (w w':World) (row:Option Nat),w.grownBy w' row->(∀ k,row=some k->k=b1∨aI li.A li.c=some k∨w0.heap.size<=k)->F w->F w')
 (Sd:∀ (i:Nat) (hi:i<ls.length) (w w':World),w.grownBy w' (aI ls[i].ax.A ls[i].ax.c)->F w->F w') :
 iI prog 98 [.pointer (some ⟨b1,0,none⟩),.agg (ck y).toArray,.int .i64 p] w0 fun v w'=>Ext w w'∧F w' ∧ ∃ Oo Jz,aS w' b1 41 (dC ⟨Z,m,cp,Oo,lv⟩)∧gd w' w.heap.size Oo Jz (iU L ⟨x.fV,x.ak,x.Ty,dc L x++[p]⟩)∧Bc w0.heap.size li ls Oo Jz:=by
 refine dh func98 rfl ntmps98 rfl ?_;have ZS:iZ x ⟨x.fV,x.ak,x.Ty,dc L x++[p]⟩:=⟨rfl,rfl,rfl⟩
 obtain ⟨X1,X3⟩:=ku (L:=L) ZS;refine CW.seq (CW.region (SW.box rfl rfl fun b4 w1 ar fJ aH => ?_));have eu:=hw.up fJ
 have Tk:=hl.row.lt_size
 have Tl:∀ z∈ls,∀ g,ob z.ax=some g->g<w0.heap.size:=fun z hz g e=>by
  obtain ⟨j,hj,rfl⟩:=ac1 hz;exact (hl.each.get j hj (by rw [<- hl.each.len];exact hj)).bC.lt_size g e
 (obtain ⟨hw,aW,hl,sh⟩:=dG ar hw aW hl sh);obtain ⟨l1,l2⟩:=hl.rd.len;obtain ⟨q,hq⟩ : ∃ q,dx L x=q:=⟨_,rfl⟩
 have cL:∀ w',y5 w' li ls L->bI prog 99 [.agg (dC ⟨Z,m,cp,li,lv⟩).toArray,.agg (ck y).toArray] w' fun v _=>v = .tuple #[.int .i64 (bu L x:Int),.bool q]:=fun w' h=>by
  have:=v8 ⟨Z,m,cp,li,lv⟩ L ls x y w' h hk (by simp only;omega)
  rwa [hq] at this
 cases q
 ·have iw:=nj L x;have VY:bu L x<=ls.length:=by omega
  refine Wz ?_;(apply CW.bF mixed;(· kernel_rfl);rotate_left;intro w1 ai;obtain ⟨hw,aW,aH,hl,sh⟩:=fI ai hw aW aH hl sh;clear ai;rotate_right);repeat' (first|refine Wz ?_|(refine CW.gj rfl ?_)|refine SW.dF rfl rfl (fun w1 ai=>(cL _ (hl.rd.ext ai))) ?_|exact SW.eI rfl)
  clear cL;obtain ⟨yc,yz,yt,yp⟩:=y;simp only at Sc;subst Sc;refine Wb (i:=3) aH fun w3 cW xv => ?_
  have hw:=hw.own eu xv;have aW:=aW.aN (aH.gr xv) rfl;have ZT:=NI _ _ _ xv (fun k e=>by cases e;exact .inr (.inr fJ)) sh.at_;have sh:=sh.to ZT;have hl:gd w3 w.heap.size li ls L:=⟨hl.row.grown xv (.inr (fun e=>by have:=Tk _ e;omega)),hl.each.mono fun _ _ h=>h.aN (aH.gr xv) rfl⟩;have aH:aS w3 b4 159 (ck ⟨yc,yz,yt,.nil⟩):=cW;clear cW;refine Wz ?_;have QS:=hl.row.sl.base;refine CW.gl 8 11 (fun _=>True) mixed (by kernel_rfl) fun w1 ai aJ => ?_
  obtain ⟨hw,aW,aH,hl,sh⟩:=fI ai hw aW aH hl sh;clear ai;refine SF.cq 0 [] aJ rfl (by kernel_rfl) (by kernel_rfl) (by kernel_rfl) (bi rfl) (fun w2 hS=>bi rfl) rfl ?_;refine Wp 1 [4,3,2] [] aJ rfl rfl ?_;refine Wt 2 [4,3] [] aJ rfl (aG rfl) ?_;refine Wt 3 [4] [] aJ rfl (az rfl) ?_;refine Wt 4 [] [] aJ rfl (aT rfl (aW.cell (i:=3) (v := .slice li.A li.n li.c) rfl)) ?_;refine Wp 5 [] [] aJ rfl rfl ?_;refine Wt 6 [7] [] aJ rfl (aX rfl rfl ((fun _ _=>aH.cell))) ?_;refine SF.one 7 rfl (by kernel_rfl) rfl ?_;refine SW.dR rfl rfl rfl rfl rfl fun b w4 ar hb hB => ?_
  have EJ:w0.heap.size<=w4.heap.size:=ac2 (aef (Nat.lt_of_le_of_lt fJ aH.lt)) ar.size
  have vQ:aI li.A li.c≠some b:=fun e=>by have:=hl.row.lt_size _ e;omega
  (obtain ⟨hw,aW,hl,sh⟩:=dG ar hw aW hl sh);refine SW.nil (ae.sf ar ?_);refine SF.turn rfl (by kernel_rfl) rfl ?_;refine SW.dT rfl rfl (zB li.A li.n li.c w.heap.size ls _ hl.row (bu L x) (by omega) ⟨yc,yz,yt,.nil⟩ b hB vQ hn hw.size) fun v w5 hv => ?_
  obtain ⟨A2,c2,rfl,bh,hg,kg⟩:=hv;have hG:=hl.row.gr hg;have hS:True:=trivial
  have hw:=aF hw hg (ac3 _) hl.row.ba;have Tm:=NI _ _ _ hg (fun k e => .inr (.inl e)) sh.at_;have sh:=sh.to Tm;have aW:=aW.aN hG rfl;have UI:=(hl.each.mono fun _ _ h=>h.aN hG rfl).aM (i:=bu L x) (x:=⟨yc,yz,yt,.nil⟩) (y:=⟨x.fV,x.ak,x.Ty,[]⟩) (by omega) ⟨hk.1,hk.2.1,hk.2.2,Own.fv _ _ _ _ _ _⟩;refine SW.nil (ae.sg hS ?_);refine SG.one 9 rfl (by kernel_rfl) rfl ?_;repeat ((show SW _ _ _ _ (⟨_,Op.nilCheck _,_,_,_,none⟩::_) _ _;refine SW.st (aG rfl) rfl ?_))
  refine SW.nil (ae.sg hS ?_);refine SG.one 10 rfl (by kernel_rfl) rfl ?_;repeat ((show SW _ _ _ _ (⟨_,Op.fieldAddr _ _ _,_,_,_,none⟩::_) _ _;refine SW.st (az rfl) rfl ?_))
  refine SW.nil (ae.sg hS ?_);refine SG.last rfl (by kernel_rfl) (by kernel_rfl) ?_;refine Wb (i:=3) aW fun w6 tm tR => ?_
  have yh:=aW.gr tR;have VZ:w0.heap.size<=w6.heap.size:=ac2 EJ (ac2 hg.size tR.size)
  have Tn:=kg;have hw:=hw.own DK tR;have Tp:=NI _ _ _ tR (fun k e=>by cases e;exact .inl rfl) sh.at_;have sh:=sh.to Tp;have bh:=bh.aN yh rfl;have UI:=UI.mono fun _ _ h=>h.aN yh rfl
  have aW:aS w6 b1 41 (dC ⟨Z,m,cp,⟨A2,li.n+1,c2⟩,lv⟩):=tm;clear tm
  have iu:∀ h:bu L x<(aM L (bu L x) (⟨x.fV,x.ak,x.Ty,[]⟩ : aR)).length,(aM L (bu L x) (⟨x.fV,x.ak,x.Ty,[]⟩ : aR))[bu L x]=⟨x.fV,x.ak,x.Ty,[]⟩:=fun h=>by
   have:=lu (x:=(⟨x.fV,x.ak,x.Ty,[]⟩ : aR)) iw
   rw [ac7 h] at this;exact Option.some.inj this
  have LU:∀ h:bu L x<(aM ls (bu L x) (⟨yc,yz,yt,.nil⟩ : du)).length,(aM ls (bu L x) (⟨yc,yz,yt,.nil⟩ : du))[bu L x]=⟨yc,yz,yt,.nil⟩:=fun h=>by
   have:=lu (l:=ls) (i:=bu L x) (x:=(⟨yc,yz,yt,.nil⟩ : du)) (by omega)
   rw [ac7 h] at this;exact Option.some.inj this
  have Ot:bu L x<(aM L (bu L x) (⟨x.fV,x.ak,x.Ty,[]⟩ : aR)).length:=by rw [de _ iw];omega
  have hR:EH w0.heap.size w6 w.heap.size F L x p ⟨A2,li.n+1,c2⟩ (aM ls (bu L x) ⟨yc,yz,yt,.nil⟩) (aM L (bu L x) ⟨x.fV,x.ak,x.Ty,[]⟩):=by
   refine ⟨⟨bh,UI⟩,Ot,?_,?_,fun j h1 h2 mO g e => ?_,fun h1 w w' hg => ?_,?_,VZ⟩
   ·rw [iu Ot,vW iw,r6 (by rw [<- X3];exact hq),<- X1,nG hq]
   ·rw [iu Ot];exact ⟨rfl,rfl,rfl⟩
   ·rw [LU h1] at e;cases e
   ·rw [LU h1] at hg;exact sh.all _ _ (aF (Ext.refl w) hg (ac3 _) (fun k e=>by cases e))
   ·rw [iu Ot];simp
  clear UI bh hl aH;refine Wz ?_;have hA:=hR.own.row.sl.base;have gh:bu L x<(li.n+1):=by have:=hR.own.rd.len;have:=hR.lt;omega
  have px:bu L x<((aM ls (bu L x) (⟨yc,yz,yt,.nil⟩ : du))).length:=by have:=hR.own.rd.len;have:=hR.lt;omega
  have eQ:=hR.lt;have rH:=hR.small;refine CW.gl 15 18 (fun w2=>aS w2 b1 41 (dC ⟨Z,m,cp,⟨A2,li.n+1,c2⟩,lv⟩)) mixed (by kernel_rfl) fun w1 ai aJ => ?_
  obtain ⟨hw,aW,hR,sh⟩:=dG ai hw aW hR sh;clear ai;refine SF.cq 0 [] aJ rfl (by kernel_rfl) (by kernel_rfl) (by kernel_rfl) (bi rfl) (fun w2 hS=>bi rfl) rfl ?_;refine SF.cq 1 [] aJ rfl (by kernel_rfl) (by kernel_rfl) (by kernel_rfl) (aG rfl) (fun w2 hS=>aG rfl) rfl ?_;refine SF.cq 2 [] aJ rfl (by kernel_rfl) (by kernel_rfl) (by kernel_rfl) (az rfl) (fun w2 hS=>az rfl) rfl ?_;refine SF.cq 3 [] aJ rfl (by kernel_rfl) (by kernel_rfl) (by kernel_rfl) (aT rfl (aW.cell (i:=3) (v := .slice A2 (li.n+1) c2) rfl)) (fun w2 hS=>aT rfl (hS.cell (i:=3) (v := .slice A2 (li.n+1) c2) rfl)) rfl ?_;refine SF.cq 4 [] aJ rfl (by kernel_rfl) (by kernel_rfl) (by kernel_rfl) (bi rfl) (fun w2 hS=>bi rfl) rfl ?_;refine Wp 5 [12,11,10,8,7,6] [] aJ rfl rfl ?_;refine Wt 6 [12,11,10,8,7] [] aJ rfl (aG rfl) ?_;refine Wt 7 [12,11,10,8] [] aJ rfl (az rfl) ?_;refine Wt 8 [12,11,10] [] aJ rfl (aT rfl (aW.cell (i:=3) (v := .slice A2 (li.n+1) c2) rfl)) ?_;refine Wp 9 [12,11,10] [] aJ rfl rfl ?_;refine Wt 10 [12,11] [] aJ rfl (bZ rfl rfl (by assumption) (by omega)) ?_;refine Wt 11 [12] [] aJ rfl (az rfl) ?_;refine Wt 12 [] [] aJ rfl (aT rfl (hR.own.row.sl.jL gh (j:=3) (u := .slice ((aM ls (bu L x) (⟨yc,yz,yt,.nil⟩ : du)))[bu L x].ax.A ((aM ls (bu L x) (⟨yc,yz,yt,.nil⟩ : du)))[bu L x].ax.n ((aM ls (bu L x) (⟨yc,yz,yt,.nil⟩ : du)))[bu L x].ax.c) rfl)) ?_;refine Wp 13 [14] [] aJ rfl rfl ?_;refine SF.one 14 rfl (by kernel_rfl) rfl ?_;refine SW.dR rfl rfl rfl rfl rfl fun b w4 ar hb hB => ?_
  (obtain ⟨hw,aW,hR,sh⟩:=dG ar hw aW hR sh);have QT:w0.heap.size<=w4.heap.size:=hR.size
  refine SW.nil (ae.sf ar ?_);refine SF.turn rfl (by kernel_rfl) rfl ?_;have Dh:=hR.own.each.get (bu L x) px eQ;have Ik:=Dh.bC;have DP:=Ik.sl.len;refine SW.Dg Ik (aS.vF (enc:=bw) hB) hw.size (by decide) rfl rfl rfl (by omega) (by omega) fun A3 c3 w5 lm hg LV => ?_
  have hS:=aW.aN (Ik.gr hg) rfl;have gg:=hR.own.row.aN (Ik.gr hg) rfl;have Tm:=hR.VX px _ _ hg sh.at_;have hw:=aF hw hg (ac3 _) Ik.ba;refine SW.nil (ae.sg hS ?_);refine SG.one 16 rfl (by kernel_rfl) rfl ?_;repeat ((show SW _ _ _ _ (⟨_,Op.indexAddr _ _ _,_,_,_,none⟩::_) _ _;refine SW.st (bZ rfl rfl (by assumption) (by omega)) rfl ?_))
  refine SW.nil (ae.sg hS ?_);refine SG.one 17 rfl (by kernel_rfl) rfl ?_;repeat ((show SW _ _ _ _ (⟨_,Op.fieldAddr _ _ _,_,_,_,none⟩::_) _ _;refine SW.st (az rfl) rfl ?_))
  refine SW.nil (ae.sg hS ?_);refine SG.last rfl (by kernel_rfl) (by kernel_rfl) ?_;refine SW.gM (bu L x) 3 ⟨((aM ls (bu L x) (⟨yc,yz,yt,.nil⟩ : du)))[bu L x].fV,((aM ls (bu L x) (⟨yc,yz,yt,.nil⟩ : du)))[bu L x].ak,((aM ls (bu L x) (⟨yc,yz,yt,.nil⟩ : du)))[bu L x].Ty,⟨A3,((aM ls (bu L x) (⟨yc,yz,yt,.nil⟩ : du)))[bu L x].ax.n+1,c3⟩⟩ gg rfl rfl rfl gh (by decide) rfl rfl fun w6 kv tR => ?_
  have yh:=gg.gr tR;have Tp:=NI _ _ _ tR (fun k e=>by rcases kg k e with h|h;exact .inr (.inl h);exact .inr (.inr (ac2 EJ h))) Tm;have hw:=aF hw tR (ac3 _) gg.ba;refine Wz ?_;refine ae.pI rfl ⟨_,rfl,hw,Tp,⟨A2,li.n+1,c2⟩,((aM ls (bu L x) (⟨yc,yz,yt,.nil⟩ : du))).set (bu L x) ⟨((aM ls (bu L x) (⟨yc,yz,yt,.nil⟩ : du)))[bu L x].fV,((aM ls (bu L x) (⟨yc,yz,yt,.nil⟩ : du)))[bu L x].ak,((aM ls (bu L x) (⟨yc,yz,yt,.nil⟩ : du)))[bu L x].Ty,⟨A3,((aM ls (bu L x) (⟨yc,yz,yt,.nil⟩ : du)))[bu L x].ax.n+1,c3⟩⟩,hS.aN (b:=b1) (t':=41) yh rfl,?_⟩
  have V0:Bc w0.heap.size li ls ⟨A2,li.n+1,c2⟩ ((aM ls (bu L x) (⟨yc,yz,yt,.nil⟩ : du)).set (bu L x) ⟨((aM ls (bu L x) (⟨yc,yz,yt,.nil⟩ : du)))[bu L x].fV,((aM ls (bu L x) (⟨yc,yz,yt,.nil⟩ : du)))[bu L x].ak,((aM ls (bu L x) (⟨yc,yz,yt,.nil⟩ : du)))[bu L x].Ty,⟨A3,((aM ls (bu L x) (⟨yc,yz,yt,.nil⟩ : du)))[bu L x].ax.n+1,c3⟩⟩):=by
   rw [vW VY];refine Bc.ins Ea Tl (fun g e => ?_) (fun k e=>(Tn k e).imp id (fun h=>ac2 EJ h));rcases LV g e with h|h
   ·rw [LU px] at h;cases h
   ·exact ac2 QT h
  refine ⟨?_,V0⟩;rw [<- hR.tr];refine ⟨kv,fY.setAt (R:=rr _ w.heap.size) hR.own.each ⟨Dh.cpu.trans hR.key.1,Dh.kh.trans hR.key.2.1,Dh.ty.trans hR.key.2.2,lm.aN yh rfl⟩ fun j h1 h2 mO ho=>⟨ho.cpu,ho.kh,ho.ty,?_⟩⟩;refine (ho.bC.grown hg ?_).aN yh rfl;cases eo:aI ((aM ls (bu L x) (⟨yc,yz,yt,.nil⟩ : du)))[j].ax.A ((aM ls (bu L x) (⟨yc,yz,yt,.nil⟩ : du)))[j].ax.c with
  | none=>exact .inl rfl
  | some g =>
    right;intro e;exact hR.sep j px h1 mO g e.symm eo
 ·obtain ⟨iw,qJ⟩:=jY hq;refine Wz ?_;(apply CW.bF mixed;(· kernel_rfl);rotate_left;intro w1 ai;obtain ⟨hw,aW,aH,hl,sh⟩:=fI ai hw aW aH hl sh;clear ai;rotate_right);repeat' (first|refine Wz ?_|(refine CW.fU rfl ?_)|refine SW.dF rfl rfl (fun w1 ai=>(cL _ (hl.rd.ext ai))) ?_|exact SW.eI rfl)
  clear cL;have EJ:=ac2 fJ (aef aH.lt);have hR:=(⟨hl,iw,by rw [r5 (by rw [<- X3];exact hq),<- X1,iK hq iw],qJ,fun j h1 h2 mO g e=>Ea _ _ h1 h2 (Ne.symm mO) g e,fun h1 w w' hg=>Sd _ h1 w w' hg,LS _ (ac0 iw),EJ⟩ : EH w0.heap.size _ w.heap.size F L x p li ls L);clear hl;have hA:=hR.own.row.sl.base;have gh:bu L x<li.n:=by have:=hR.own.rd.len;have:=hR.lt;omega
  have px:bu L x<(ls).length:=by have:=hR.own.rd.len;have:=hR.lt;omega
  have eQ:=hR.lt;have rH:=hR.small;refine CW.gl 15 18 (fun w2=>aS w2 b1 41 (dC ⟨Z,m,cp,li,lv⟩)) mixed (by kernel_rfl) fun w1 ai aJ => ?_
  obtain ⟨hw,aW,hR,sh⟩:=dG ai hw aW hR sh;clear ai;refine SF.cq 0 [] aJ rfl (by kernel_rfl) (by kernel_rfl) (by kernel_rfl) (bi rfl) (fun w2 hS=>bi rfl) rfl ?_;refine SF.cq 1 [] aJ rfl (by kernel_rfl) (by kernel_rfl) (by kernel_rfl) (aG rfl) (fun w2 hS=>aG rfl) rfl ?_;refine SF.cq 2 [] aJ rfl (by kernel_rfl) (by kernel_rfl) (by kernel_rfl) (az rfl) (fun w2 hS=>az rfl) rfl ?_;refine SF.cq 3 [] aJ rfl (by kernel_rfl) (by kernel_rfl) (by kernel_rfl) (aT rfl (aW.cell (i:=3) (v := .slice li.A li.n li.c) rfl)) (fun w2 hS=>aT rfl (hS.cell (i:=3) (v := .slice li.A li.n li.c) rfl)) rfl ?_;refine SF.cq 4 [] aJ rfl (by kernel_rfl) (by kernel_rfl) (by kernel_rfl) (bi rfl) (fun w2 hS=>bi rfl) rfl ?_;refine Wp 5 [12,11,10,8,7,6] [] aJ rfl rfl ?_;refine Wt 6 [12,11,10,8,7] [] aJ rfl (aG rfl) ?_;refine Wt 7 [12,11,10,8] [] aJ rfl (az rfl) ?_;refine Wt 8 [12,11,10] [] aJ rfl (aT rfl (aW.cell (i:=3) (v := .slice li.A li.n li.c) rfl)) ?_;refine Wp 9 [12,11,10] [] aJ rfl rfl ?_;refine Wt 10 [12,11] [] aJ rfl (bZ rfl rfl (by assumption) (by omega)) ?_;refine Wt 11 [12] [] aJ rfl (az rfl) ?_;refine Wt 12 [] [] aJ rfl (aT rfl (hR.own.row.sl.jL gh (j:=3) (u := .slice (ls)[bu L x].ax.A (ls)[bu L x].ax.n (ls)[bu L x].ax.c) rfl)) ?_;refine Wp 13 [14] [] aJ rfl rfl ?_;refine SF.one 14 rfl (by kernel_rfl) rfl ?_;refine SW.dR rfl rfl rfl rfl rfl fun b w4 ar hb hB => ?_
  (obtain ⟨hw,aW,hR,sh⟩:=dG ar hw aW hR sh);have QT:w0.heap.size<=w4.heap.size:=hR.size
  refine SW.nil (ae.sf ar ?_);refine SF.turn rfl (by kernel_rfl) rfl ?_;have Dh:=hR.own.each.get (bu L x) px eQ;have Ik:=Dh.bC;have DP:=Ik.sl.len;refine SW.Dg Ik (aS.vF (enc:=bw) hB) hw.size (by decide) rfl rfl rfl (by omega) (by omega) fun A3 c3 w5 lm hg LV => ?_
  have hS:=aW.aN (Ik.gr hg) rfl;have gg:=hR.own.row.aN (Ik.gr hg) rfl;have Tm:=hR.VX px _ _ hg sh.at_;have hw:=aF hw hg (ac3 _) Ik.ba;refine SW.nil (ae.sg hS ?_);refine SG.one 16 rfl (by kernel_rfl) rfl ?_;repeat ((show SW _ _ _ _ (⟨_,Op.indexAddr _ _ _,_,_,_,none⟩::_) _ _;refine SW.st (bZ rfl rfl (by assumption) (by omega)) rfl ?_))
  refine SW.nil (ae.sg hS ?_);refine SG.one 17 rfl (by kernel_rfl) rfl ?_;repeat ((show SW _ _ _ _ (⟨_,Op.fieldAddr _ _ _,_,_,_,none⟩::_) _ _;refine SW.st (az rfl) rfl ?_))
  refine SW.nil (ae.sg hS ?_);refine SG.last rfl (by kernel_rfl) (by kernel_rfl) ?_;refine SW.gM (bu L x) 3 ⟨(ls)[bu L x].fV,(ls)[bu L x].ak,(ls)[bu L x].Ty,⟨A3,(ls)[bu L x].ax.n+1,c3⟩⟩ gg rfl rfl rfl gh (by decide) rfl rfl fun w6 kv tR => ?_
  have yh:=gg.gr tR;have Tp:=NI _ _ _ tR (fun k e => .inr (.inl e)) Tm;have hw:=aF hw tR (ac3 _) gg.ba;refine Wz ?_;refine ae.pI rfl ⟨_,rfl,hw,Tp,li,(ls).set (bu L x) ⟨(ls)[bu L x].fV,(ls)[bu L x].ak,(ls)[bu L x].Ty,⟨A3,(ls)[bu L x].ax.n+1,c3⟩⟩,hS.aN (b:=b1) (t':=41) yh rfl,?_⟩
  have V0:Bc w0.heap.size li ls li ((ls).set (bu L x) ⟨(ls)[bu L x].fV,(ls)[bu L x].ak,(ls)[bu L x].Ty,⟨A3,(ls)[bu L x].ax.n+1,c3⟩⟩):=by
   refine Bc.tr Ea Tl px (fun g e => ?_);rcases LV g e with h|h
   ·exact .inl h
   ·exact .inr (ac2 QT h)
  refine ⟨?_,V0⟩;rw [<- hR.tr];refine ⟨kv,fY.setAt (R:=rr _ w.heap.size) hR.own.each ⟨Dh.cpu.trans hR.key.1,Dh.kh.trans hR.key.2.1,Dh.ty.trans hR.key.2.2,lm.aN yh rfl⟩ fun j h1 h2 mO ho=>⟨ho.cpu,ho.kh,ho.ty,?_⟩⟩;refine (ho.bC.grown hg ?_).aN yh rfl;cases eo:aI (ls)[j].ax.A (ls)[j].ax.c with
  | none=>exact .inl rfl
  | some g =>
    right;intro e;exact hR.sep j px h1 mO g e.symm eo
variable {size:Int} {j:Nat}
def dO (n:ByteArray) (c:aQ) : Bool:=tq c.Names n
def zC (z:Int) (c:aQ) : Bool:=decide (c.aA=z)
def ah.zero:ah:=⟨[],.zero,[]⟩
def mH (l:List ByteArray) (n:ByteArray) : Nat:=(l.takeWhile fun m=>eA m n).length
theorem u9 (l:List ByteArray) (n:ByteArray) : mH l n<=l.length:=by
 unfold mH;exact (List.takeWhile_sublist _).length_le
theorem Il {l:List ByteArray} (h:j<mH l n) (hj:j<l.length) : eA l[j] n=true:=by
 unfold mH at h;have h1:(l.takeWhile fun m=>eA m n)[j]=l[j]:=List.IsPrefix.getElem (List.takeWhile_prefix _) h
 rw [<- h1];have:=List.all_takeWhile (p:=fun m=>eA m n) (l:=l)
 rw [List.all_eq_true] at this;exact this _ (ac0 h)
theorem Im {l:List ByteArray} (h:mH l n<l.length) : eA l[mH l n] n=false:=by
 induction l with
 | nil=>simp at h
 | cons a r ih =>
   unfold mH at h ih ⊢;by_cases e:eA a n=true
   ·simp only [List.takeWhile_cons,e,if_true,List.length_cons] at h ih ⊢;simp only [List.getElem_cons_succ];exact ih (by omega)
   ·have e':eA a n=false:=by simpa using e
    simp [e']
theorem JA {l:List ByteArray} (hk:k<=l.length) (h1:∀ j (hj:j<l.length),j<k->eA l[j] n=true) (h2:∀ h:k<l.length,eA l[k] n=false) : mH l n=k:=by
 rcases adD (mH l n) k with h|h|h
 ·have:=h1 (mH l n) (by omega) h
  rw [Im (by omega)] at this;cases this
 ·exact h
 ·have:=Il h (by have:=u9 l n;omega)
  rw [h2 (by have:=u9 l n;omega)] at this;cases this
def GK (l:List ByteArray) : Prop := ∀ (i j:Nat) (hi:i<l.length) (hj:j<l.length),i<j->eA l[i] l[j]=true
theorem yf.nV {acc l:List ByteArray} (h:yf acc l) : GK l:=by
 have:∀ (d i:Nat) (hi:i<l.length) (hj:i+d+1<l.length),eA l[i] l[i+d+1]=true:=by
  intro d;induction d with
  | zero=>intro i hi hj;exact (h.each (i+1) hj).2.2 (by omega)
  | succ d ih =>
    intro i hi hj;exact oK (ih i hi (by omega)) ((h.each (i+(d+1)+1) hj).2.2 (by omega))
 intro i j hi hj o9;obtain ⟨d,rfl⟩ : ∃ d,j=i+d+1:=⟨j-i-1,by omega⟩;exact this d i hi hj
theorem Ou {l:List ByteArray} (hs:GK l) (h:mH l n<=j) (hj:j<l.length) : eA l[j] n=false:=by
 have h0:=Im (l:=l) (n:=n) (by omega);by_cases e:mH l n=j
 ·subst e;exact h0
 ·cases c:eA l[j] n
  ·rfl
  ·have:=oK (hs (mH l n) j (by omega) hj (by omega)) c
   rw [h0] at this;cases this
def rz (size align:Int) : Int:=(size+align-1) / align*align
def jG (a:Int) : Prop:=a=1∨a=2∨a=4∨a=8
theorem Io {align:Int} (ha:jG align) (h : 1<=size∧size<=64) : size<=rz size align∧rz size align<size+align∧rz size align % align=0∧rz size align<=64:=by
 unfold rz;rcases ha with rfl|rfl|rfl|rfl<;>omega
def dP (s:ah) (n:ByteArray) (z:Int) : aQ:=⟨[n],z,(dl z).2.1,(dl z).1,[],List.replicate s.Heap.bG.toNat (-1)⟩
def dD (c:aQ) (n:ByteArray) : aQ:=⟨aM c.Names (mH c.Names n) n,c.aA,c.bK,c.Order,c.ab,c.ao⟩
theorem sP.BJ {s:ah} {hi:i<s.aa.length} (h:sP s i hi) (hH:bJ s.Heap) (hI:∀ (j:Nat) (h:j<s.aa.length),sP s j h) : s.aa[i].Names.length<=3512479453921:=by
 have h1:=EF hH i (by omega) (fun j hj _=>hI j hj);have h2:=qK (l:=s.aa[i].Names) h1.1.1 s.aa[i].Names.length (fun k hk _=>(h.names.each k hk).2.1);rw [adS] at h2;refine EE (adN.1 h2).2.1 fun n hn => ?_
 obtain ⟨k,hk,rfl⟩:=ac1 hn;exact (h.names.each k hk).1
inductive lx (s:ah) (n:ByteArray) (size align:Int) : ah×Int->Prop where
 | bad (h:fQ s=false) : lx s n size align (.zero,8)
 | form (h:fQ s=true) (hn : ¬ (gn n=true∧jG align)) : lx s n size align (.zero,3)
 | range (h:fQ s=true) (hn:gn n=true∧jG align) (hs : ¬ (1<=size∧size<=64)) : lx s n size align (.zero,1)
 | gw (h:fQ s=true) (hn:gn n=true∧jG align) (hs : 1<=size∧size<=64) (ht:s.aa.any (dO n)=true) : lx s n size align (.zero,5)
 | uw {i:Nat} (h:fQ s=true) (hn:gn n=true∧jG align) (hs : 1<=size∧size<=64) (ht:s.aa.any (dO n)=false) (hi:i<s.aa.length) (hz:s.aa[i].aA=rz size align) (ha:∀ j (hj:j<s.aa.length),j<i->s.aa[j].aA≠rz size align) :
    lx s n size align (⟨s.Words,s.Heap,s.aa.set i (dD s.aa[i] n)⟩,0)
 | full (h:fQ s=true) (hn:gn n=true∧jG align) (hs : 1<=size∧size<=64) (ht:s.aa.any (dO n)=false) (hz:∀ j (hj:j<s.aa.length),s.aa[j].aA≠rz size align) (hc:s.aa.length=20) : lx s n size align (.zero,9)
 | new (h:fQ s=true) (hn:gn n=true∧jG align) (hs : 1<=size∧size<=64) (ht:s.aa.any (dO n)=false) (hz:∀ j (hj:j<s.aa.length),s.aa[j].aA≠rz size align) (hc:s.aa.length<20) :
    lx s n size align (⟨s.Words,s.Heap,s.aa++[dP s n (rz size align)]⟩,0)
theorem lx.dm {s:ah} {align:Int} {u v:ah×Int} (a:lx s n size align u) (b:lx s n size align v) : u=v:=by
 cases a with
 | bad h=>cases b with
   | bad=>rfl
   | form h'|range h'|gw h'|uw h'|full h'|new h'=>rw [h] at h';cases h'
 | form h hn=>cases b with
   | bad h'=>rw [h] at h';cases h'
   | form=>rfl
   | range _ h'|gw _ h'|uw _ h'|full _ h'|new _ h'=>exact absurd h' hn
 | range h hn hs=>cases b with
   | bad h'=>rw [h] at h';cases h'
   | form _ h'=>exact absurd hn h'
   | range=>rfl
   | gw _ _ h'|uw _ _ h'|full _ _ h'|new _ _ h'=>exact absurd h' hs
 | gw h hn hs ht=>cases b with
   | bad h'=>rw [h] at h';cases h'
   | form _ h'=>exact absurd hn h'
   | range _ _ h'=>exact absurd hs h'
   | gw=>rfl
   | uw _ _ _ h'|full _ _ _ h'|new _ _ _ h'=>rw [ht] at h';cases h'
 | @uw i h hn hs ht hi hz ha=>cases b with
   | bad h'=>rw [h] at h';cases h'
   | form _ h'=>exact absurd hn h'
   | range _ _ h'=>exact absurd hs h'
   | gw _ _ _ h'=>rw [ht] at h';cases h'
   | @uw j _ _ _ _ hj ow mm =>
     rcases adD i j with g|g|g
     ·exact absurd hz (mm i hi g)
     ·subst g;rfl
     ·exact absurd ow (ha j hj g)
   | full _ _ _ _ h'|new _ _ _ _ h'=>exact absurd hz (h' i hi)
 | full h hn hs ht hz hc=>cases b with
   | bad h'=>rw [h] at h';cases h'
   | form _ h'=>exact absurd hn h'
   | range _ _ h'=>exact absurd hs h'
   | gw _ _ _ h'=>rw [ht] at h';cases h'
   | uw _ _ _ _ hi h'=>exact absurd h' (hz _ hi)
   | full=>rfl
   | new _ _ _ _ _ h'=>omega
 | new h hn hs ht hz hc=>cases b with
   | bad h'=>rw [h] at h';cases h'
   | form _ h'=>exact absurd hn h'
   | range _ _ h'=>exact absurd hs h'
   | gw _ _ _ h'=>rw [ht] at h';cases h'
   | uw _ _ _ _ hi h'=>exact absurd h' (hz _ hi)
   | full _ _ _ _ _ h'=>omega
   | new=>rfl
def iN (lo:Nat) (u:ah×Int) (v:Value) (w:World) : Prop := ∃ q,v = .tuple #[.agg (aP q).toArray,.int .i64 u.2]∧iT w lo q u.1
theorem iN.zero (e:Int) (lo:Nat) (w:World) : iN lo (.zero,e) (.tuple #[.agg (aP .zero).toArray,.int .i64 e]) w :=
 ⟨.zero,rfl,Own.fv _ _ _ _ _ _,jC.zero w lo,⟨[],fj.nil _ _⟩⟩
theorem Heap.kK:Heap.zero.small:=by constructor<;>simp [Heap.zero]
theorem ah.kK:ah.zero.small:=⟨by simp [ah.zero],Heap.kK,by simp [ah.zero],by simp [ah.zero]⟩
theorem lx.small {s:ah} {align:Int} {u:ah×Int} (a:lx s n size align u) (hs:s.small) : u.1.small:=by
 cases a with
 | bad|form|range|gw|full=>exact ah.kK
 | @uw i h hn nd ht hi hz ha =>
   have hM:=iM.1 h;have hc:=hs.each _ (ac0 hi);refine ⟨hs.words,hs.heap,by simp only [List.length_set];exact hs.br,fun c hm => ?_⟩;rcases adg hm with hm|rfl
   ·exact hs.each c hm
   ·have hl:=(hM.each i hi).BJ hM.heap (fun j h=>hM.each j h);refine ⟨?_,hc.aD,hc.aZ⟩;simp only [dD];rw [de _ (u9 _ _)];omega
 | new h hn nd ht hz hc =>
   have hM:=iM.1 h;refine ⟨hs.words,hs.heap,by simp only [List.length_append,List.length_singleton];omega,fun c hm => ?_⟩;rcases ac9.1 hm with hm|hm
   ·exact hs.each c hm
   ·simp only [List.mem_singleton] at hm;subst hm;have:=hM.heap.cpus
    refine ⟨by simp [dP],by simp [dP],?_⟩;simp only [dP,List.length_replicate];omega
open Go.ChangeShapes Go.WideShapes Go.ChangeAt Go.RowKit Go.Deep Go.Joins
variable {H:Type} {ZU:FuncId} {ds gs:List (DataW H)} {before:List MemPlace} {tb:TypeId} {W W':World}
theorem own:ownKnob prog.godebug=none:=by kernel_rfl
theorem laidOut:laidOutB prog=true:=by kernel_rfl
theorem tH {enc:TypeId×Value->H} (hl:laidOutB P=true) (hb:Below W.heap.size W W') :
 ∀ (ts:List TypeId) (vs:List Value) (ds:List (DataW H)) (ps:List MemPlace),(∀ t∈ts,P.readableRec t=true∧t<P.types.size) ->
  DataW.TrodAll enc P W 0 (fun _=>true) true ts vs ds ps->(∀ x∈ps,x.block<W.heap.size)->DataW.TrodAll enc P W' 0 (fun b=>decide (b<W.heap.size)) true ts vs ds ps
 | [],[],[],_,_,h,_=>h
 | t::ts,v::vs,d::ds,ps,Tq,h,eQ=>by
   obtain ⟨p,q,h1,h2,rfl⟩:=h
   exact ⟨p,q,Below.trod hl (Tq t (by simp)).1 (Tq t (by simp)).2 h1 hb (fun x hx=>eQ x (by simp [hx])),
    tH hl hb ts vs ds q (fun u hu=>Tq u (by simp [hu])) h2 (fun x hx=>eQ x (by simp [hx])),rfl⟩
 | [],_::_,_,_,_,h,_=>by simp [DataW.TrodAll] at h
 | [],[],_::_,_,_,h,_=>by simp [DataW.TrodAll] at h
 | _::_,[],_,_,_,h,_=>by simp [DataW.TrodAll] at h
 | _::_,_::_,[],_,_,h,_=>by simp [DataW.TrodAll] at h
theorem JB {enc:TypeId×Value->H} {f:Func} {s:ChangeSpec} {args:Array Value}
 (hl:laidOutB P=true) (Tq:∀ t∈f.params.toList,P.readableRec t=true∧t<P.types.size) (hr:f.resultTypes = #[tb]) (hb:P.underlying tb=some .bool) (hv:s.vars=[])
 (KS:(s.fn H (ds++[])).results=[.lit (.bool true)]∧(s.fn H (ds++[])).args=ds∧(s.fn H (ds++[])).vars=[])
 (hW:DataW.Whole enc P f.params.toList s.vars false W args.toList ds gs before) (h:bI P ZU args.toList W fun v _=>v = .bool true) :
 Calls P ZU args W fun e W' => ∃ v,e = .returned v∧s.post enc P f false true false false W args v W':=by
 have Tr:=hW;obtain ⟨p,q,hA,hV,rfl,_,_⟩:=hW;rw [hv] at hV;obtain ⟨rfl,rfl⟩:=trodVars_none hV;simp only [List.append_nil] at Tr;have eQ:∀ x∈p,x.block<W.heap.size:=fun x hx=>by simpa using Tr.lt x hx
 refine Calls.mono h.out ?_;rintro e W' ⟨v,rfl,hx,rfl⟩
 obtain ⟨s1,s2,s3⟩:=KS;refine ⟨_,rfl,ds,[],p,[],p,[],Tr,?_,?_,?_,Below.frame hx _,fun h=>by cases h⟩
 ·rw [s1,hr];exact trodAll_mk1 (shut_bool hb true)
 ·rw [s2];exact tH hl hx _ _ _ _ Tq hA eQ
 ·rw [s3,hv]
  rfl
set_option maxRecDepth 100000
open Go.ChangeShapes Go.WideShapes Go.ChangeAt Go.RowKit Go.Deep Go.Joins
variable {b0:Nat} {en:α -> List Value} {Good:α -> Prop}
def QU (z:Int) : Prop := -9223372036854775808<=z∧z<=9223372036854775807
section
variable {H:Type} {enc:TypeId×Value->H} {W:World} {base:Nat} {spare:Nat->Bool} {held:Bool} {fuel:Nat} {cs:List Value} {x:DataW H×List MemPlace}
theorem in64_of_wf {z:Int} (h:(Lit.int .i64 z).wf=true) : QU z:=by
 have h1:IntKind.i64.min = -9223372036854775808:=rfl
 have h2:IntKind.i64.max=9223372036854775807:=rfl
 simp only [Lit.wf,Bool.and_eq_true,decide_eq_true_eq] at h;unfold QU;omega
theorem Di (ht:prog.underlying t=some (.int .i64)) (h:DataW.trod enc prog W base spare held fuel t cs=some x) : ∃ z:Int,cs=bw z∧QU z:=by
 obtain ⟨z,rfl,_,hw⟩:=DataW.trod_int ht h;exact ⟨z,rfl,in64_of_wf hw⟩
theorem Ov {t e:Nat} [S:bz prog t e sz] (hc:prog.cellsOf e=sz)
 (FT:∀ fuel cs x,DataW.trod enc prog W base spare held fuel e cs=some x -> ∃ a : α,cs=en a∧Good a) (h:DataW.trod enc prog W base spare held fuel t cs=some x) :
 ∃ A n c l,cs=[.slice A n c]∧Sl W sz en A n l∧n<=c∧c<=maxLen∧(∀ a∈l,Good a)∧((x.1 = .nil∧n=0) ∨ ∃ es sp,x.1 = .slice es sp∧es.length=n):=by
 rcases open_slice S.ou h with ⟨h1,h2⟩|⟨a,len,cap,m,k,D,Pl,h1,hb,hl,hm,Va,hx,hi⟩
 ·exact ⟨none,0,0,[],h1,Sl.fv _ _ _ _,by simp,by simp,by simp,.inl ⟨by rw [h2],rfl⟩⟩
 ·have hlm:len<=m:=by rw [Va];split<;>omega
  have hex:∀ i,i<len -> ∃ q : α,Good q ∧ ∀ j u,(en q)[j]?=some u->W.cell? ((a.add (i*sz)).add j)=some u:=fun i eQ=>by
   obtain ⟨cs',lJ,ht⟩:=hi i (by omega);obtain ⟨q,rfl,hg⟩:=FT _ _ _ ht;obtain ⟨_,Ow,kX⟩:=World.cells?_some lJ;rw [hc] at Ow kX;refine ⟨q,hg,fun j u hu => ?_⟩
   have hj:j<(en q).length:=by
    rcases adA j (en q).length with h|h
    ·exact h
    ·simp [List.getElem?_eq_none h] at hu
   rw [kX j (by omega)];exact hu
  by_cases h0:len=0
  ·subst h0;exact ⟨some a,0,cap,[],h1,Sl.fv _ _ _ _,hl,hm,by simp,.inr ⟨_,_,by rw [hx],by simp⟩⟩
  have JC:∃ f:Nat -> α,∀ i,i<len->Good (f i) ∧ ∀ j u,(en (f i))[j]?=some u->W.cell? ((a.add (i*sz)).add j)=some u:=by
   have bL:Nonempty α := ⟨(hex 0 (by omega)).choose⟩
   exact ⟨fun i=>if h:i<len then (hex i h).choose else Classical.choice bL,fun i h=>by simp only [h,dif_pos];exact (hex i h).choose_spec⟩
  obtain ⟨f,hf⟩:=JC;refine ⟨some a,len,cap,(List.range len).map f,h1,⟨by simp,fun _=>rfl,fun i nO j u hu => ?_⟩,hl,hm,?_,.inr ⟨_,_,by rw [hx],by simp⟩⟩
  ·simp at nO;exact (hf i nO).2 j u (by simpa using hu)
  ·intro q hq;obtain ⟨i,nO,rfl⟩:=adk.1 hq;exact (hf i (by simpa using nO)).1
theorem EK {r:Reach} {t e:Nat} [S:bz prog t e sz] (hc:prog.cellsOf e=sz)
 (FT:∀ fuel cs x,DataW.trod enc prog W base spare held fuel e cs=some x -> ∃ a : α,cs=en a∧Good a) {v:Value} {d:DataW H} {p:List MemPlace} (hv:Value.okWide prog W r b0 t v) (h:DataW.Trod enc prog W base spare held t v d p) :
 ∃ A n c l,v = .slice A n c∧Sl W sz en A n l∧n<=c∧c<=maxLen∧(∀ a∈l,Good a)∧((d = .nil∧n=0) ∨ ∃ es sp,d = .slice es sp∧es.length=n):=by
 obtain ⟨a0,len,cap,rfl⟩:=okWide_slice S.ou hv;obtain ⟨fuel,hf⟩:=h;obtain ⟨A,n,c,l,h1,h2,h3,h4,h5,h6⟩:=Ov hc FT hf;simp [Value.cells] at h1;obtain ⟨rfl,rfl,rfl⟩:=h1;exact ⟨a0,len,cap,l,rfl,h2,h3,h4,h5,h6⟩
theorem LW {ts:List TypeId} {ds:List (DataW H)} (oy:(DataW.weightsEach prog ts ds).all (· <= reachBytes)=true) {j t e sz n b:Nat} {d:DataW H} [S:bz prog t e sz] (ht:ts[j]?=some t) (hd:ds[j]?=some d) (hb:prog.bytesOf e=b)
 (h:(d = .nil∧n=0) ∨ ∃ es sp,d = .slice es sp∧es.length=n) : n*b<=140737488351232:=by
 rcases h with ⟨_,rfl⟩|⟨es,sp,rfl,rfl⟩
 ·omega
 ·have:=sized_slice oy ht hd S.ou
  rw [hb] at this;simp only [reachBytes] at this;refine ac2 (adt _ (Nat.le_add_right _ _)) this
end
section
variable {H:Type} {P:Program}
end
section
variable {H:Type} {enc:TypeId×Value->H} {W:World} {base:Nat} {spare:Nat->Bool} {held:Bool} {fuel:Nat} {cs:List Value} {x:DataW H×List MemPlace}
end
set_option maxRecDepth 100000
open Go.ChangeShapes Go.WideShapes Go.ChangeAt Go.RowKit Go.Deep Go.Joins
section
variable {H:Type} {enc:TypeId×Value->H} {W:World} {base:Nat} {spare:Nat->Bool} {held:Bool} {fuel:Nat} {cs:List Value} {x:DataW H×List MemPlace}
end
set_option maxRecDepth 100000
open Go.ChangeShapes Go.WideShapes Go.ChangeAt Go.RowKit Go.Deep Go.Joins
section
variable {H:Type} {enc:TypeId×Value->H} {W:World} {base:Nat} {spare:Nat->Bool} {held:Bool} {fuel:Nat} {cs:List Value} {x:DataW H×List MemPlace}
end
variable {p:α -> Bool}
theorem xF (A:Option Addr) (n c:Nat) (l:List ByteArray) (x:ByteArray) (w:World) (hl:Sl w 1 encStr A n l) (hn:n<=9223372036854775807) :
 bI prog 139 [.slice A n c,.string x] w fun v _ => ∃ i:Int,v = .int .i64 i∧decide (0<=i)=tq l x:=by
 refine aE func139 rfl ntmps139 rfl ?_;have hw:=Ext.refl w;have hA:=hl.base;have mv:=hl.len;refine Wz ?_
 refine CW.loop (fun k:Nat=>[(0,.slice A n c),(1,.string x),(7,.int .i64 (n:Int)),(8,.int .i64 (k:Int))]) (fun k w'=>k<=n∧Ext w w' ∧ ∀ (i:Nat) (h:i<l.length),i<k->l[i]≠x)
  (fun k=>n-k) 0 ⟨rfl,rfl,rfl,rfl,trivial⟩ ⟨by omega,hw,fun i h hi=>by omega⟩ ?_
 clear hw;rintro k w' ⟨hk,hw,hI⟩
 by_cases gh:k<n
 ·by_cases hx:x=l[k]
  ·repeat' (first|refine Wz ?_|refine Wn hw (hl.one gh rfl) ?_|(refine SW.st ((mE rfl rfl).eq (congrArg Value.bool (decide_eq_true hx))) rfl ?_))
   refine ae.bj rfl rfl ⟨_,rfl,hw,_,rfl,?_⟩;rw [jz.2 (hx ▸ ac0 (hl.lt gh))];simp
  ·repeat' (first|refine Wz ?_|refine Wn hw (hl.one gh rfl) ?_|(refine SW.st ((mE rfl rfl).eq (congrArg Value.bool (decide_eq_false hx))) rfl ?_))
   refine ae.again (k+1) ⟨rfl,rfl,rfl,rfl,trivial⟩ (by omega) ⟨by omega,hw,fun i h' hi => ?_⟩;by_cases D0:i=k
   ·subst D0;exact fun e=>hx e.symm
   ·exact hI i h' (by omega)
 ·refine Wz ?_;refine ae.bj rfl rfl ⟨_,rfl,hw,_,rfl,?_⟩
  have hx:tq l x=false:=by
   cases e:tq l x
   ·rfl
   ·obtain ⟨i,hi,e⟩:=ac1 (jz.1 e);exact absurd e (hI i hi (by omega))
  rw [hx];simp
theorem nY (A:Option Addr) (n c:Nat) (l:List ByteArray) (x:ByteArray) (w:World) (hl:Sl w 1 encStr A n l) (hn:n<=9223372036854775807) :
 bI prog 88 [.slice A n c,.string x] w fun v _=>v = .bool (tq l x):=by
 refine aE func88 rfl ntmps88 rfl ?_;have hw:=Ext.refl w;refine Wz ?_;refine Wk (xF _ _ _ _ _ _ (hl.ext hw) hn) fun v w1 ai hv => ?_
 obtain ⟨i,rfl,hi⟩:=hv;have hw:=hw.trans ai;refine Wz ?_;exact ae.bj rfl rfl ⟨_,rfl,hw,by rw [hi]⟩
theorem mI {q : β -> Bool} {l:List α} {m:List β} (hl:l.length=m.length) (h:∀ (k:Nat) (h1:k<l.length) (h2:k<m.length),p l[k]=q m[k]) : idxOf p l=idxOf q m∧l.any p=m.any q:=by
 have e:l.map p=m.map q:=adR (by simp [hl]) fun k h1 h2=>by simpa using h k (by simpa using h1) (by simpa using h2)
 have a1:l.any p=m.any q:=by
  have x1:(l.map p).any id=l.any p:=by rw [ae5];rfl
  have x2:(m.map q).any id=m.any q:=by rw [ae5];rfl
  rw [<- x1,<- x2,e]
 have a2:l.findIdx p=m.findIdx q:=by
  have x1:(l.map p).findIdx id=l.findIdx p:=by rw [List.findIdx_map];rfl
  have x2:(m.map q).findIdx id=m.findIdx q:=by rw [List.findIdx_map];rfl
  rw [<- x1,<- x2,e]
 unfold idxOf;rw [a1,a2];exact ⟨rfl,rfl⟩
theorem GL {n:Nat} {l l':List ByteArray} (h:Sl w 1 encStr A n l) (h':Sl w 1 encStr A n l') : l=l':=by
 have e1:=h.len;have e2:=h'.len;refine adR (by omega) fun k h1 h2 => ?_
 have a:=h.one (i:=k) (by omega) (u := .string l[k]) rfl;have b:=h'.one (i:=k) (by omega) (u := .string l'[k]) rfl;rw [a] at b;simpa using b
theorem JD (w:World) (n:ByteArray) : ∃ p:dN->Bool,∀ x c,Gu w x c->p x=dO n c:=by
 classical
 refine ⟨fun x=>decide (∃ c,Gu w x c∧dO n c=true),fun x c h => ?_⟩;cases e:dO n c
 ·refine decide_eq_false ?_;rintro ⟨c',h',e'⟩
  unfold dO at e e';rw [GL h'.names h.names,e] at e';cases e'
 ·exact decide_eq_true ⟨c,h,e⟩
theorem GM (x:dN) (c:aQ) (b3:Nat) (n:ByteArray) (w:World) (h3:aS w b3 9 [.string n]) (hx:Gu w x c) (hn:x.Names.n<=9223372036854775807) :
 bI prog 87 ([.agg (fK x).toArray]++[.pointer (some ⟨b3,0,none⟩)]) w fun v _=>v = .bool (dO n c):=by
 refine aE func87 rfl ntmps87 rfl ?_;refine CW.seq (CW.region (SW.box rfl rfl fun b1 w1 hw lc aW => ?_));have h3:=h3.ext hw;have PG:=h3.cell (i:=0) (v := .string n) rfl;rw [add_zero] at PG;repeat' (first|refine Wz ?_|refine Wl PG ?_|(refine Wk (nY _ _ _ _ _ _ (hx.names.ext hw) hn) ?_;intro v w1 ai hv;subst hv;obtain ⟨hw,aW⟩:=cX ai hw aW;clear ai))
 exact ae.bj rfl rfl ⟨_,rfl,hw,rfl⟩
theorem BK (r:db) (s:ah) (n:ByteArray) (w:World) (hr:AM w r s) (hs:s.small) :
 bI prog 48 [.agg (aP r).toArray,.string n] w fun v _=>v = .tuple #[.int .i64 (idxOf (dO n) s.aa),.bool (s.aa.any (dO n))]:=by
 refine aE func48 rfl ntmps48 rfl ?_;obtain ⟨cs,hc⟩:=hr.br;obtain ⟨z1,z2⟩:=hc.len;have m3:=hs.br;obtain ⟨p,hp⟩:=JD w n;have pO:=mI (p:=p) (q:=dO n) (l:=cs) (m:=s.aa) (by omega) fun k h1 h2=>hp _ _ (hc.each.get k h1 h2)
 refine CW.seq (CW.region (SW.box rfl rfl fun b2 w1 hw fk au => ?_));refine SW.Lh rfl rfl rfl fun b3 w2 bt cg ap => ?_
 (obtain ⟨hw,au⟩:=cX bt hw au);repeat' (first|refine Wz ?_|(refine SW.st (jg (vs:=[.pointer (some ⟨b3,0,none⟩)]) rfl) rfl ?_))
 refine Wk (lp _ _ _ _ _ (hc.row.ext hw) _ [.pointer (some ⟨b3,0,none⟩)] p (fun x => .agg (fK x).toArray) (fun x=>rfl) (fun x hx w1 lf=>by
  obtain ⟨k,hk,rfl⟩:=ac1 hx;have bW:k<s.aa.length:=by omega
  have jU:=hc.each.get k hk bW;have q1:=(hs.each _ (ac0 bW)).names;have q2:=jU.names.len;rw [hp _ _ jU];exact GM _ _ b3 n w1 (ap.ext lf) (jU.ext (hw.trans lf)) (by omega)) (by omega)) fun v w4 ko hv => ?_
 subst hv;rw [pO.1];have hw:=hw.trans ko;have Lb:=mx (dO n) s.aa;refine Wz ?_;all_goals exact ae.dj rfl rfl rfl ⟨_,rfl,hw,by rw [Lb]⟩
theorem GN (x:ByteArray) (w:World) : bI prog 140 [.string x] w fun v _=>v = .bool false:=by
 refine aE func140 rfl ntmps140 rfl ?_;have hw:=Ext.refl w;repeat' (first|refine Wz ?_|(refine SW.st ((vR rfl rfl).eq (congrArg Value.bool (decide_eq_false (fun h=>h rfl)))) rfl ?_))
 exact ae.bj rfl rfl ⟨_,rfl,hw,rfl⟩
theorem GO (x:ByteArray) (w:World) : bI prog 90 [.string x] w fun v _=>v = .bool false:=by
 refine aE func90 rfl ntmps90 rfl ?_;have hw:=Ext.refl w;repeat' (first|refine Wz ?_|(refine SW.st ((vR rfl rfl).eq (congrArg Value.bool (decide_eq_false (fun h=>h rfl)))) rfl ?_))
 exact ae.bj rfl rfl ⟨_,rfl,hw,rfl⟩
theorem EL (x y:ByteArray) (w:World) : bI prog 89 [.string x,.string y] w fun v _=>v = .bool (eA x y):=by
 refine aE func89 rfl ntmps89 rfl ?_;have hw:=Ext.refl w;repeat' (first|refine Wz ?_|(refine Wk (GN _ _) ?_;intro v w1 ai hv;subst hv;have hw:=hw.trans ai;clear ai)|(refine SW.st (Lz rfl rfl) rfl ?_))
 exact ae.bj rfl rfl ⟨_,rfl,hw,rfl⟩
theorem GP (A:Option Addr) (n c:Nat) (l:List ByteArray) (x:ByteArray) (w:World) (hl:Sl w 1 encStr A n l) (hs:GK l) (hn:n<=1000000000000000000) :
 bI prog 51 [.slice A n c,.string x] w fun v _ => ∃ b,v = .tuple #[.int .i64 (mH l x:Int),.bool b]:=by
 refine aE func51 rfl ntmps51 rfl ?_;have hw:=Ext.refl w;have hA:=hl.base;have mv:=hl.len;refine Wz ?_
 refine CW.loop (fun s:Nat×Nat=>[(0,.slice A n c),(1,.string x),(6,.int .i64 (n:Int)),(7,.int .i64 (s.1:Int)),(8,.int .i64 (s.2:Int))])
  (fun s w'=>s.1<=s.2∧s.2<=n∧Ext w w'∧(∀ (k:Nat) (h:k<l.length),k<s.1->eA l[k] x=true)∧(∀ (k:Nat) (h:k<l.length),s.2<=k->eA l[k] x=false)) (fun s=>s.2-s.1) (0,n)
  ⟨rfl,rfl,rfl,rfl,rfl,trivial⟩ ⟨by omega,by omega,hw,fun k h h'=>by omega,fun k h h'=>by omega⟩ ?_
 clear hw;rintro ⟨i,j⟩ w' ⟨o9,pB,hw,hI,hJ⟩
 simp only at o9 pB hI hJ ⊢;by_cases eQ:i<j
 ·have hk:(i+j) / 2<n:=by omega
  have iw:=hl.lt hk;obtain ⟨q,hq⟩ : ∃ q,eA (l[(i+j) / 2]) x=q:=⟨_,rfl⟩
  have cL:∀ w',bI prog 89 [.string (l[(i+j) / 2]),.string x] w' fun v _=>v = .bool q:=fun w'=>by
   have:=EL (l[(i+j) / 2]) x w'
   rwa [hq] at this
  cases q
  ·repeat' (first|refine Wz ?_|refine Wn hw (hl.one hk rfl) ?_|(refine Wk (cL _) ?_;intro v w1 ai hv;subst hv;have hw:=hw.trans ai;clear ai)|(refine SW.st ((mA Tryz.underlying3 my rfl).eq (congrArg (Value.int .u64) (wrap_u64 (by omega) (by omega)))) rfl ?_)|(refine SW.st ((mA my Tryz.underlying3 rfl).eq (congrArg (Value.int .i64) (jf (by omega) (by omega)))) rfl ?_)|(refine SW.st (xY rfl rfl) rfl ?_))
   refine ae.again (i,(i+j) / 2) ⟨rfl,rfl,rfl,rfl,congrArg (fun z=>some (Value.int .i64 z)) (by omega),trivial⟩ (by simp only;omega) ⟨by simp only;omega,by simp only;omega,hw,hI,fun k h h' => ?_⟩;simp only at h';by_cases e:k=(i+j) / 2
   ·subst e;exact hq
   ·cases c:eA l[k] x
    ·rfl
    ·have:=oK (hs ((i+j) / 2) k iw h (by omega)) c
     rw [hq] at this;cases this
  ·repeat' (first|refine Wz ?_|refine Wn hw (hl.one hk rfl) ?_|(refine Wk (cL _) ?_;intro v w1 ai hv;subst hv;have hw:=hw.trans ai;clear ai)|(refine SW.st ((mA Tryz.underlying3 my rfl).eq (congrArg (Value.int .u64) (wrap_u64 (by omega) (by omega)))) rfl ?_)|(refine SW.st ((mA my Tryz.underlying3 rfl).eq (congrArg (Value.int .i64) (jf (by omega) (by omega)))) rfl ?_)|(refine SW.st (xY rfl rfl) rfl ?_))
   refine ae.again ((i+j) / 2+1,j) ⟨rfl,rfl,rfl,congrArg (fun z=>some (Value.int .i64 z)) (by omega),rfl,trivial⟩ (by simp only;omega) ⟨by simp only;omega,pB,hw,fun k h h' => ?_,hJ⟩;simp only at h';by_cases e:k=(i+j) / 2
   ·subst e;exact hq
   ·exact oK (hs k ((i+j) / 2) h iw (by omega)) hq
 ·obtain rfl:i=j:=by omega
  have hp:mH l x=i:=JA (by omega) (fun j hj h=>hI j hj h) (fun h=>hJ i h (by omega))
  rw [hp];by_cases cQ:i<n
  ·by_cases he:l[i]'(hl.lt cQ)=x
   ·repeat' (first|refine Wz ?_|refine Wn hw (hl.one cQ rfl) ?_|(refine SW.st ((mE rfl rfl).eq (congrArg Value.bool (decide_eq_true he))) rfl ?_))
    exact ae.dj rfl rfl rfl ⟨_,rfl,hw,_,rfl⟩
   ·repeat' (first|refine Wz ?_|refine Wn hw (hl.one cQ rfl) ?_|(refine Wk (GO _ _) ?_;intro v w1 ai hv;subst hv;have hw:=hw.trans ai;clear ai)|(refine SW.st ((mE rfl rfl).eq (congrArg Value.bool (decide_eq_false he))) rfl ?_))
    exact ae.dj rfl rfl rfl ⟨_,rfl,hw,_,rfl⟩
  ·refine Wz ?_;exact ae.dj rfl rfl rfl ⟨_,rfl,hw,_,rfl⟩
end Go.Proofs.YtohigmjjbgpfmaaGreatDoor
