/-
  Texts of the claim TopRoom, part 10: what its theorem leans on.
-/
import Derived.Test.YtbidkghlpijecaaGreatDoorPackTopRoom9
import Derived.Test.YtbidkghlpijecaaGreatDoorPackTopRoom2
import Derived.Test.YtbidkghlpijecaaGreatDoorPackTopRoom5
import Derived.Test.YtbidkghlpijecaaGreatDoorPackTopRoom1
import Derived.Maps.OwnSet
set_option linter.unusedVariables false
set_option linter.unusedSimpArgs false
namespace Go.Proofs.YtbidkghlpijecaaGreatDoor
open Go.RowKit
theorem DY {z:Int} (h1 : -18446744073709551616<z) (h2:z < -9223372036854775808) : IntKind.i64.wrap z=z+18446744073709551616:=by
 simp [IntKind.wrap,IntKind.bits,IntKind.signed];omega
theorem zG (r:dL) (t a:Int) (w:World) (hs : 1≤r.aY∧r.aY≤64) (hp : 1≤r.jm∧r.jm≤64) (ht : 0≤t∧t≤255) (ha : -9223372036854775808≤a∧a≤9223372036854775807) :
 bl Tryz.prog 93 [.agg (fG r).toArray,.int .i64 t,.int .i64 a] w fun v _=>v = .bool (xJ r.aY r.jm t a):=by
 refine aD Tryz.func93 rfl Tryz.ntmps93 rfl ?_;refine CW.seq (CW.region (SW.box rfl rfl fun b1 w1 hw gX aB => ?_));have hm:=Ia (x:=r.jm) (y:=r.aY) (by omega) (by omega) (by omega) (by omega);unfold xJ;by_cases gQ:a-t*16 < -9223372036854775808
 ·have e:=DY (z:=a-t*16) (by omega) gQ;rw [decide_eq_false (show ¬ 0≤a-t*16 by omega)];repeat' (first|refine Wz ?_|(refine SW.st ((rA rfl rfl).eq (congrArg (Value.int .i64) e)) rfl ?_))
  all_goals try omega
  exact ae.aI rfl rfl ⟨_,rfl,hw,rfl⟩
 ·by_cases h0 : 0≤a-t*16
  ·have e:(a-t*16).tmod r.aY=(a-t*16) % r.aY:=Int.tmod_eq_emod_of_nonneg h0
   rw [decide_eq_true h0];by_cases h1:a-t*16<r.jm*r.aY
   ·rw [decide_eq_true h1];refine Wz ?_;all_goals try omega
    refine ae.aI rfl rfl ⟨_,rfl,hw,?_⟩;rw [e];rfl
   ·rw [decide_eq_false h1];refine Wz ?_;all_goals try omega
    exact ae.aI rfl rfl ⟨_,rfl,hw,rfl⟩
  ·rw [decide_eq_false h0];refine Wz ?_;all_goals try omega
   exact ae.aI rfl rfl ⟨_,rfl,hw,rfl⟩
theorem zH (a:Int) (b4 b5:Nat) (q:dL) (x:Slab) (w:World) (h4:aT w b4 89 (fG q)) (h5:aT w b5 91 (fH x))
 (hs : 1≤q.aY∧q.aY≤64) (hp : 1≤q.jm∧q.jm≤64) (ht : 0≤x.At∧x.At≤255) (ha : 0≤a∧a<9223372036854775807) :
 bl Tryz.prog 185 ([.int .i64 a]++[.pointer (some ⟨b4,0,none⟩),.pointer (some ⟨b5,0,none⟩)]) w fun v _=>v = .bool (!xJ q.aY q.jm x.At a):=by
 refine aD Tryz.func185 rfl Tryz.ntmps185 rfl ?_;have hw:=Ext.refl w;repeat' (first|refine Wz ?_|(refine SW.call rfl rfl (zG q x.At a _ hs hp ht (by omega)) ?_;intro v w1 aa hv;subst hv;replace hw:=Ext.trans hw aa;clear aa))
 exact ae.aI rfl rfl ⟨_,rfl,hw,rfl⟩
def DZ (lo:Nat) (ws:List Int) (size qI:Int) (x:Slab) (v:Value) (w:World) : Prop :=
 (∃ out A k,o7 ws size qI x out∧v = .tuple #[.slice A out.length k,.bool true]∧Own w lo 3 1 bB A out.length k out∧out.length≤17592186044416) ∨
 ((∀ out,¬ o7 ws size qI x out)∧v = .tuple #[.slice none 0 0,.bool false])
theorem BX (r:ik) (q:dL) (x:Slab) (ws:List Int) (w:World) (hl:Sl w 1 bB r.Words.A r.Words.n ws) (hn:r.Words.n*8≤140737488355328)
 (hs : 1≤q.aY∧q.aY≤64) (hp : 1≤q.jm∧q.jm≤64) (ht : 0≤x.At∧x.At≤255) :
 bl Tryz.prog 94 [.agg (bq r).toArray,.agg (fG q).toArray,.agg (fH x).toArray] w fun v w'=>DZ w.heap.size ws q.aY q.jm x v w':=by
 refine aD Tryz.func94 rfl Tryz.ntmps94 rfl ?_;refine CW.seq (CW.region (SW.box rfl rfl fun b3 w1 hw bL aq => ?_));refine SW.box rfl rfl fun b4 w2 bo je aQ => ?_
 (replace hw:=Ext.trans hw bo;replace aq:=aq.ext bo);refine SW.box rfl rfl fun b5 w3 iN ig bw => ?_
 (replace hw:=Ext.trans hw iN;replace aq:=aq.ext iN;replace aQ:=aQ.ext iN);refine Wz ?_;have gQ:=hw.size;refine SW.call rfl rfl (zw _ _ _ _ _ _ _ (hl.ext hw) hn) fun v w4 dz hv => ?_
 obtain ⟨PM,hF,hV⟩:=hv;(replace hw:=Ext.trans hw dz;replace aq:=aq.ext dz;replace aQ:=aQ.ext dz;replace bw:=bw.ext dz);have N6:=hl.len;rcases PM with _|out
 ·subst hV;refine Wz ?_;refine ae.dk rfl rfl rfl ⟨_,rfl,hw,.inr ⟨fun o h => ?_,rfl⟩⟩;have:=hF.mo h.1
  cases this
 ·obtain ⟨A,k,rfl,hO,hlen⟩:=hV;replace hO:=hO.low gQ;by_cases my:(out.length:Int)=x.ag
  ·have cC:∀ w',Ext w4 w'→bl Tryz.prog 96 [.slice A out.length k,.func (.func 185) #[] [.pointer (some ⟨b4,0,none⟩),.pointer (some ⟨b5,0,none⟩)].toArray] w' fun v _=>v = .bool (out.any fun a => !xJ q.aY q.jm x.At a):=fun w' hx =>
    gi _ _ _ _ _ (hO.sl.ext hx) _ [.pointer (some ⟨b4,0,none⟩),.pointer (some ⟨b5,0,none⟩)] (fun a => !xJ q.aY q.jm x.At a) (fun x => .int .i64 x) (fun x=>rfl)
     (fun a ha w1 j0=>by
       have hm:=hF.mem (by simp) out rfl a ha;exact zH a b4 b5 q x w1 ((aQ.ext hx).ext j0) ((bw.ext hx).ext j0) hs hp ht ⟨hm.1,by omega⟩) (by omega)
   have PN:=Ext.refl w4;repeat' (first|refine Wz ?_|(refine SW.st (g9 (vs:=[.pointer (some ⟨b4,0,none⟩),.pointer (some ⟨b5,0,none⟩)]) rfl) rfl ?_))
   refine SW.call rfl rfl (cC _ PN) fun v w5 qL hv => ?_
   (replace hw:=Ext.trans hw qL;replace hO:=hO.ext qL);subst hv;cases ga:out.any fun a => !xJ q.aY q.jm x.At a
   ·refine Wz ?_;refine ae.dk rfl rfl rfl ⟨_,rfl,hw,.inl ⟨out,A,k,⟨hF,my,fun a ha => ?_⟩,rfl,hO,hlen⟩⟩;rw [List.any_eq_false] at ga;simpa using ga a ha
   ·refine Wz ?_;refine ae.dk rfl rfl rfl ⟨_,rfl,hw,.inr ⟨fun o h => ?_,rfl⟩⟩;obtain ⟨a,ha,N7⟩:=List.any_eq_true.1 ga;have e:=hF.mo h.1;injection e with e
    subst e;rw [h.2.2 a ha] at N7;cases N7
  ·refine Wz ?_;all_goals try omega
   refine ae.dk rfl rfl rfl ⟨_,rfl,hw,.inr ⟨fun o h => ?_,rfl⟩⟩;have e:=hF.mo h.1;injection e with e
   subst e;exact my h.2.1
open Go.RowKit
def p9 (y:bO) (x:ap) : Prop:=y.eI=x.eI∧y.ab=x.ab∧y.Ty=x.Ty
theorem HG.key {w:World} {r:bO} {l:ap} (h:HG w r l) : p9 r l:=⟨h.cpu,h.gj,h.ty⟩
theorem qa (r:gb) (L:List ap) (ls:List bO) (x:ap) (y:bO) (w:World) (hl:sv w r.aj ls L) (hk:p9 y x) (hn:r.aj.n≤1000000000000000000) :
 bl Tryz.prog 113 [.agg (bW r).toArray,.agg (bi y).toArray] w fun v _=>v = .tuple #[.int .i64 (aO L x:Int),.bool (bC L x)]:=by
 refine aD Tryz.func113 rfl Tryz.ntmps113 rfl ?_;refine CW.seq (CW.region (SW.box rfl rfl fun b2 w1 hw jg aC => ?_));refine SW.box rfl rfl fun b3 w2 bo bL aq => ?_
 (replace hw:=Ext.trans hw bo;replace aC:=aC.ext bo);obtain ⟨l1,l2⟩:=hl.len;have hA:=hl.row.base;refine Wz ?_
 refine CW.loop (fun i:Nat=>[(2,.pointer (some ⟨b2,0,none⟩)),(3,.pointer (some ⟨b3,0,none⟩)),(6,.int .i64 (i:Int))])
  (fun i w'=>i≤r.aj.n∧Ext w w'∧aT w' b2 41 (bW r)∧aT w' b3 142 (bi y) ∧ ∀ (k:Nat) (h:k<L.length),k<i→bD L[k] x) (fun i=>r.aj.n-i) 0
  ⟨rfl,rfl,rfl,trivial⟩ ⟨by omega,hw,aC,aq,fun k h h'=>by omega⟩ ?_
 clear hw aC aq;rintro i w' ⟨hi,hw,aC,aq,hI⟩
 by_cases gR:i<r.aj.n
 ·have um:i<L.length:=by omega
  have uo:i<ls.length:=by omega
  have N8:=hl.each.get i uo um;obtain ⟨q,hq⟩ : ∃ q,decide (bD L[i] x)=q:=⟨_,rfl⟩;obtain ⟨p,hp⟩ : ∃ p,decide (bD x L[i])=p:=⟨_,rfl⟩
  have cL:∀ w',bl Tryz.prog 194 [.agg (bi ls[i]).toArray,.agg (bi y).toArray] w' fun v _=>v = .bool q:=fun w'=>by
   have:=pZ ls[i] y L[i] x w' N8.key hk
   rwa [hq] at this
  have cR:∀ w',bl Tryz.prog 194 [.agg (bi y).toArray,.agg (bi ls[i]).toArray] w' fun v _=>v = .bool p:=fun w'=>by
   have:=pZ y ls[i] x L[i] w' hk N8.key
   rwa [hp] at this
  cases q
  ·have nD:=of_decide_eq_false hq;have ek:aO L x=i:=nt (by omega) hI (fun _=>nD)
   have eh:bC L x = !p:=by
    unfold bC;simp only [ek,dif_pos um,← hp];rcases uP L[i] x with e|e|e
    ·exact absurd e nD
    ·have : ¬ bD x L[i]:=by unfold bD dS at *;omega
     simp [e,this]
    ·have:=(BS e).2.1
     simp [e,this]
   rw [ek,eh];cases p
   all_goals
    repeat' (first|refine Wz ?_|((apply CW.bg mixed;(· kernel_rfl);rotate_left;intro w1 aa;replace hw:=Ext.trans hw aa;replace aC:=aC.ext aa;replace aq:=aq.ext aa;clear aa;rotate_right))|refine SW.st (aN hw rfl rfl ((hl.row.all gR))) rfl ?_|refine SW.cI rfl rfl (fun w1 aa=>(cL _)) ?_|refine SW.cI rfl rfl (fun w1 aa=>(cR _)) ?_|exact SW.du rfl)
    exact ae.dk rfl rfl rfl ⟨_,rfl,hw,rfl⟩
  ·have My:=of_decide_eq_true hq;repeat' (first|refine Wz ?_|((apply CW.bg mixed;(· kernel_rfl);rotate_left;intro w1 aa;replace hw:=Ext.trans hw aa;replace aC:=aC.ext aa;replace aq:=aq.ext aa;clear aa;rotate_right))|refine SW.st (aN hw rfl rfl ((hl.row.all gR))) rfl ?_|refine SW.cI rfl rfl (fun w1 aa=>(cL _)) ?_|exact SW.du rfl)
   exact ae.again (i+1) ⟨rfl,rfl,rfl,trivial⟩ (by omega) ⟨by omega,hw,aC,aq,fun k h h'=>by
    by_cases e:k=i
    ·subst e;exact My
    ·exact hI k h (by omega)⟩
 ·have ek:aO L x=i:=nt (by omega) hI (fun h=>by omega)
  have eh:bC L x=false:=by unfold bC;rw [dif_neg (by omega)]
  rw [ek,eh];repeat' (first|refine Wz ?_|((apply CW.bg mixed;(· kernel_rfl);rotate_left;intro w1 aa;replace hw:=Ext.trans hw aa;replace aC:=aC.ext aa;replace aq:=aq.ext aa;clear aa;rotate_right))|exact SW.du rfl)
  exact ae.dk rfl rfl rfl ⟨_,rfl,hw,rfl⟩
theorem mS (A:Option Addr) (n c:Nat) (l:List Block) (a:Int) (w:World) (hl:Sl w 3 aA A n l) (f:FuncId) [Body Tryz.prog f] (cv:Block→Int) (hf:∀ x∈l,∀ w',Ext w w'→bl Tryz.prog f ([.agg (aA x).toArray,.int .i64 a]++[]) w' fun v _=>v = .int .i64 (cv x))
 (cr:∀ x∈l,cv x≠0) (hn:n≤1000000000000000000) : bl Tryz.prog 105 [.slice A n c,.int .i64 a,.func (.func f) #[] #[]] w fun v _ => ∃ i:Nat,v = .tuple #[.int .i64 (i:Int),.bool false]:=by
 refine aD Tryz.func105 rfl Tryz.ntmps105 rfl ?_;have hw:=Ext.refl w;have hA:=hl.base;have nP:=hl.len;refine Wz ?_
 refine CW.loop (fun s:Nat×Nat=>[(0,.slice A n c),(1,.int .i64 a),(2,.func (.func f) #[] #[]),(8,.int .i64 (n:Int)),(9,.int .i64 (s.1:Int)),(10,.int .i64 (s.2:Int))])
  (fun s w'=>s.1≤s.2∧s.2≤n∧Ext w w') (fun s=>s.2-s.1) (0,n)
  ⟨rfl,rfl,rfl,rfl,rfl,rfl,trivial⟩ ⟨by omega,by omega,hw⟩ ?_
 clear hw;rintro ⟨i,j⟩ w' ⟨j1,mm,hw⟩
 simp only at j1 mm ⊢;by_cases dg:i<j
 ·have hk:(i+j) / 2<n:=by omega
  have eV:=hl.lt hk;have qD:=fun w1 h1=>hf (l[(i+j) / 2]) (List.getElem_mem eV) w1 h1
  repeat' (first|refine Wz ?_|refine SW.st (aN hw rfl rfl ((hl.all hk))) rfl ?_|(refine SW.st ((iS Tryz.underlying3 iR rfl).eq (congrArg (Value.int .u64) (wrap_u64 (by omega) (by omega)))) rfl ?_)|(refine SW.st ((iS iR Tryz.underlying3 rfl).eq (congrArg (Value.int .i64) (fi (by omega) (by omega)))) rfl ?_)|(refine SW.st (rE rfl rfl) rfl ?_))
  refine SW.oG (cap:=[]) rfl rfl rfl (qD _ hw) fun v w1 aa hv => ?_
  subst hv;replace hw:=Ext.trans hw aa;by_cases JL:cv l[(i+j) / 2]<0
  ·refine Wz ?_;exact ae.again ((i+j) / 2+1,j) ⟨rfl,rfl,rfl,rfl,congrArg (fun z=>some (Value.int .i64 z)) (by omega),rfl,trivial⟩ (by simp only;omega) ⟨by simp only;omega,mm,hw⟩
  ·refine Wz ?_;exact ae.again (i,(i+j) / 2) ⟨rfl,rfl,rfl,rfl,rfl,congrArg (fun z=>some (Value.int .i64 z)) (by omega),trivial⟩ (by simp only;omega) ⟨by simp only;omega,by simp only;omega,hw⟩
 ·obtain rfl:i=j:=by omega
  by_cases gR:i<n
  ·have eV:=hl.lt gR;have qD:=fun w1 h1=>hf (l[i]) (List.getElem_mem eV) w1 h1
   have h0:=cr (l[i]) (List.getElem_mem eV);repeat' (first|refine Wz ?_|refine SW.st (aN hw rfl rfl ((hl.all gR))) rfl ?_)
   refine SW.oG (cap:=[]) rfl rfl rfl (qD _ hw) fun v w1 aa hv => ?_
   subst hv;replace hw:=Ext.trans hw aa;refine Wz ?_;refine ae.dk rfl rfl rfl ⟨_,rfl,hw,i,?_⟩;rw [decide_eq_false h0]
  ·refine Wz ?_;exact ae.dk rfl rfl rfl ⟨_,rfl,hw,i,rfl⟩
theorem mT (x:Block) (a:Int) (w:World) : bl Tryz.prog 191 ([.agg (aA x).toArray,.int .i64 a]++[]) w fun v _=>v = .int .i64 (IntKind.i64.wrap (x.At-a)):=by
 refine aD Tryz.func191 rfl Tryz.ntmps191 rfl ?_;refine CW.seq (CW.region (SW.box rfl rfl fun b1 w1 hw gX aB => ?_));repeat' (first|refine Wz ?_|(refine SW.st (rA rfl rfl) rfl ?_))
 exact ae.aI rfl rfl ⟨_,rfl,hw,rfl⟩
theorem wrap_zero {z:Int} (h1 : -18446744073709551616<z) (h2:z<18446744073709551616) (h:IntKind.i64.wrap z=0) : z=0:=by
 simp [IntKind.wrap,IntKind.bits,IntKind.signed] at h;omega
def A0 (l:List Block) (a:Int) (v:Value) : Prop:=(bf l a=true→v = .tuple #[.int .i64 (aZ l a:Int),.bool true])∧(bf l a=false → ∃ i:Nat,v = .tuple #[.int .i64 (i:Int),.bool false])
theorem BY (r:gb) (l:List Block) (a:Int) (w:World) (hl:Sl w 3 aA r.Live.A r.Live.n l) (hu:l.Pairwise fun x y=>x.At<y.At) (hb:∀ b∈l,0≤b.At∧b.At≤255) (hn:r.Live.n≤1000000000000000000) (ha : -9223372036854775808≤a∧a≤9223372036854775807) :
 bl Tryz.prog 107 [.agg (bW r).toArray,.int .i64 a] w fun v _=>A0 l a v:=by
 refine aD Tryz.func107 rfl Tryz.ntmps107 rfl ?_;refine CW.seq (CW.region (SW.box rfl rfl fun b1 w1 hw gX aB => ?_));refine Wz ?_;by_cases gR : -1000000≤a∧a≤1000000
 ·refine SW.call rfl rfl (fy _ _ _ _ a _ (hl.ext hw) _ (fun x hx w' _=>by
   have:=mT x a w'
   have h:=hb x hx;rwa [fi (by omega) (by omega)] at this) hu hn) fun v w2 bo hv => ?_
  subst hv;replace hw:=Ext.trans hw bo;refine Wz ?_;refine ae.dk rfl rfl rfl ⟨_,rfl,hw,?_⟩;exact ⟨fun h=>by rw [h];rfl,fun h=>⟨aZ l a,by rw [h];rfl⟩⟩
 ·have hf:bf l a=false:=by
   unfold bf;split
   ·rename_i h;have:=hb _ (List.getElem_mem h)
    exact decide_eq_false (by omega)
   ·rfl
  refine SW.call rfl rfl (mS _ _ _ _ a _ (hl.ext hw) _ (fun x=>IntKind.i64.wrap (x.At-a)) (fun x hx w' _=>mT x a w') (fun x hx h0=>by
   have h:=hb x hx;have:=wrap_zero (by omega) (by omega) h0
   omega) hn) fun v w2 bo hv => ?_
  obtain ⟨i,rfl⟩:=hv;replace hw:=Ext.trans hw bo;refine Wz ?_;refine ae.dk rfl rfl rfl ⟨_,rfl,hw,?_⟩;exact ⟨fun h=>absurd (hf.symm.trans h) (by simp),fun _=>⟨i,rfl⟩⟩
open Go.RowKit
theorem qM (x:Block) (a:Int) (w:World) : bl Tryz.prog 180 ([.agg (aA x).toArray,.int .i64 a]++[]) w fun v _=>v = .int .i64 (IntKind.i64.wrap (x.At-a)):=by
 refine aD Tryz.func180 rfl Tryz.ntmps180 rfl ?_;refine CW.seq (CW.region (SW.box rfl rfl fun b1 w1 hw gX aB => ?_));repeat' (first|refine Wz ?_|(refine SW.st (rA rfl rfl) rfl ?_))
 exact ae.aI rfl rfl ⟨_,rfl,hw,rfl⟩
theorem xK (A:Option Addr) (n c:Nat) (l:List Block) (a:Int) (w:World) (hl:Sl w 3 aA A n l) (hu:l.Pairwise fun x y=>x.At<y.At) (hb:∀ b∈l,0≤b.At∧b.At≤255) (hn:n≤1000000000000000000) (ha : -9223372036854775808≤a∧a≤9223372036854775807) :
 bl Tryz.prog 105 [.slice A n c,.int .i64 a,.func (.func 180) #[] #[]] w fun v _=>A0 l a v:=by
 by_cases gR : -1000000≤a∧a≤1000000
 ·refine (fy _ _ _ _ a _ hl _ (fun x hx w' _=>by
   have:=qM x a w'
   have h:=hb x hx;rwa [fi (by omega) (by omega)] at this) hu hn).mono fun v w2 bo hv => ?_
  subst hv;exact ⟨fun h=>by rw [h],fun h=>⟨aZ l a,by rw [h]⟩⟩
 ·have hf:bf l a=false:=by
   unfold bf;split
   ·rename_i h;have:=hb _ (List.getElem_mem h)
    exact decide_eq_false (by omega)
   ·rfl
  refine (mS _ _ _ _ a _ hl _ (fun x=>IntKind.i64.wrap (x.At-a)) (fun x hx w' _=>qM x a w') (fun x hx h0=>by
   have h:=hb x hx;have:=wrap_zero (by omega) (by omega) h0
   omega) hn).mono fun v w2 bo hv => ?_
  obtain ⟨i,rfl⟩:=hv;exact ⟨fun h=>absurd (hf.symm.trans h) (by simp),fun _=>⟨i,rfl⟩⟩
theorem BZ (x:Slab) (b3:Nat) (t:Int) (w:World) (h3:aT w b3 3 [.int .i64 t]) :
 bl Tryz.prog 231 ([.agg (fH x).toArray]++[.pointer (some ⟨b3,0,none⟩)]) w fun v _=>v = .bool (Fi t x):=by
 refine aD Tryz.func231 rfl Tryz.ntmps231 rfl ?_;refine CW.seq (CW.region (SW.box rfl rfl fun b1 w1 hw gX aB => ?_));replace h3:=h3.ext hw;have GW:=h3.cell (i:=0) (v := .int .i64 t) rfl;rw [add_zero] at GW;repeat' (first|refine Wz ?_|refine SW.st (ax rfl GW) rfl ?_)
 exact ae.aI rfl rfl ⟨_,rfl,hw,rfl⟩
theorem D0 (q:dL) (l:List Slab) (t:Int) (w:World) (hl:Sl w 3 fH q.aK.A q.aK.n l) (hn:q.aK.n≤9223372036854775807) :
 bl Tryz.prog 181 [.agg (fG q).toArray,.int .i64 t] w fun v _=>v = .int .i64 (idxOf (Fi t) l):=by
 refine aD Tryz.func181 rfl Tryz.ntmps181 rfl ?_;refine CW.seq (CW.region (SW.box rfl rfl fun b2 w1 hw jg aC => ?_));refine SW.Dg rfl rfl rfl fun b3 w2 bo bL aq => ?_
 (replace hw:=Ext.trans hw bo;replace aC:=aC.ext bo);repeat' (first|refine Wz ?_|(refine SW.st (g9 (vs:=[.pointer (some ⟨b3,0,none⟩)]) rfl) rfl ?_))
 refine SW.call rfl rfl (kb _ _ _ _ _ (hl.ext hw) _ [.pointer (some ⟨b3,0,none⟩)] (Fi t) (fun x => .agg (fH x).toArray) (fun x=>rfl) (fun x _ w1 j0=>BZ x b3 t w1 (aq.ext j0)) hn) fun v w4 dz hv => ?_
 subst hv;replace hw:=Ext.trans hw dz;refine Wz ?_;exact ae.aI rfl rfl ⟨_,rfl,hw,rfl⟩
theorem uT {x:Int} {w:World} {f:FuncId} {o n e:Int} (h:bl Tryz.prog f [.int .i64 x] w fun v _=>v=iK x) (hE:dj x=(o,n,e)) : bl Tryz.prog f [.int .i64 x] w fun v _=>v = .tuple #[.int .i64 o,.int .i64 n,.int .i64 e]:=by
 refine h.mono fun v w' _ hv => ?_
 rw [hv,iK,hE]
set_option maxHeartbeats 4000000 in
theorem B0 (r:ik) (s:ak) (q:dL) (c:aV) (w:World) (hr:DN w r s) (hq:CY w q c) (hs:s.small) (nj:c.small) (hH:aW s.Heap) (uH:∀ x∈c.aK,-9223372036854775808≤x.At∧x.At≤9223372036854775807) :
 bl Tryz.prog 89 [.agg (bq r).toArray,.agg (fG q).toArray] w fun v _=>v = .bool (kn s c):=by
 refine aD Tryz.func89 rfl Tryz.ntmps89 rfl ?_;refine CW.seq (CW.region (SW.box rfl rfl fun b2 w1 hw jg aC => ?_));refine SW.box rfl rfl fun b3 w2 bo bL aq => ?_
 (replace hw:=Ext.trans hw bo;replace aC:=aC.ext bo);obtain ⟨o,n,e,hE⟩ : ∃ o n e,dj c.aY=(o,n,e):=⟨_,_,_,rfl⟩;have eS:=hq.size;have eP:=hq.qI;have eO:=hq.order;have n1:=hq.names.len;have n2:=hq.bK.len;have n3:=hq.dh.len;have m1:=nj.names;have m2:=nj.bK;have m3:=nj.dh;have eC:=hr.heap.cpus;have wl:=hr.words.len;have m4:=hs.words;have nP:=hr.heap.live.len;have m5:=hs.heap.live;have FG:=hq.cap;have cL:∀ w',bl Tryz.prog 141 [.int .i64 q.aY] w' fun v _=>v = .tuple #[.int .i64 o,.int .i64 n,.int .i64 e]:=fun w'=>uT (sE q.aY w') (by rw [eS];exact hE)
 rcases (show ¬ (e=0∧c.Order=o∧c.jm=n∧0<c.Names.length∧(c.a8.length:Int)=s.Heap.bt)∨(e=0∧c.Order=o∧c.jm=n∧0<c.Names.length∧(c.a8.length:Int)=s.Heap.bt) by omega) with oM|⟨h1,h2,h3,h4,h5⟩
 ·have hF:kn s c=false:=jR fun hm=>oM (by
   have:=hm.lay
   rw [hE] at this;simp only [Prod.mk.injEq] at this;exact ⟨this.2.2,this.1.symm,this.2.1.symm,hm.names,hm.dh⟩)
  rw [hF];rcases (show e≠0∨(e=0∧c.Order≠o)∨(e=0∧c.Order=o∧c.jm≠n)∨(e=0∧c.Order=o∧c.jm=n∧c.Names.length=0)∨(e=0∧c.Order=o∧c.jm=n∧0<c.Names.length∧(c.a8.length:Int)≠s.Heap.bt) by omega) with g|g|g|g|g
  all_goals
   repeat' (first|refine Wz ?_|(refine SW.call rfl rfl (cL _) ?_;intro v w1 aa hv;subst hv;replace hw:=Ext.trans hw aa;replace aC:=aC.ext aa;replace aq:=aq.ext aa;clear aa))
   all_goals try omega
   exact ae.aI rfl rfl ⟨_,rfl,hw,rfl⟩
 ·subst h1;have Mz:dj c.aY=(c.Order,c.jm,0):=by rw [hE,h2,h3]
  obtain ⟨l1,l2,l3⟩:=oo hE;have dg:=im hH.live
  have N9:∀ b∈s.Heap.Live,0≤b.At∧b.At≤255:=fun b hb=>by
   obtain ⟨i,hi,rfl⟩:=List.getElem_of_mem hb;exact (hH.live.each i hi).2.1
  repeat' (first|refine Wz ?_|(refine SW.call rfl rfl (cL _) ?_;intro v w1 aa hv;subst hv;replace hw:=Ext.trans hw aa;replace aC:=aC.ext aa;replace aq:=aq.ext aa;clear aa))
  all_goals try omega
  clear cL
  refine CW.loop (fun k:Nat=>[(2,.pointer (some ⟨b2,0,none⟩)),(3,.pointer (some ⟨b3,0,none⟩)),(5,.int .i64 o),(53,.slice q.aK.A q.aK.n q.aK.c),(54,.int .i64 (q.aK.n:Int)),(55,.int .i64 (k:Int))])
   (fun k w'=>k≤q.aK.n∧Ext w w'∧aT w' b2 44 (bq r)∧aT w' b3 89 (fG q) ∧ ∀ (i:Nat) (h:i<c.aK.length),i<k→o8 s c i h) (fun k=>q.aK.n-k) 0
   ⟨rfl,rfl,rfl,rfl,rfl,rfl,trivial⟩ ⟨by omega,hw,aC,aq,fun i h h'=>by omega⟩ ?_
  clear hw aC aq;rintro k w' ⟨hk,hw,aC,aq,hI⟩
  have hA:=hq.bK.base;by_cases ey:k<q.aK.n
  ·have eV:k<c.aK.length:=by omega
   repeat' (first|refine Wz ?_|refine SW.st (aN hw rfl rfl ((hq.bK.all ey))) rfl ?_)
   refine SW.alloc rfl fun b9 w1 aa oQ dp => ?_
   refine Wz ?_;refine SW.ah dp rfl rfl rfl rfl (fu.one (enc:=fH) _) fun w2 jh hg => ?_
   have ao:=aa.own oQ hg;have uf:w.heap.size≤b9:=Nat.le_trans hw.size oQ
   replace hw:=Ext.trans hw ao;replace aC:=aC.ext ao;replace aq:=aq.ext ao;replace dp:=jh;clear jh aa hg ao;refine Wz ?_;refine SW.call rfl rfl (xK _ _ _ _ _ _ (hr.heap.live.ext hw) dg N9 (by omega) (uH _ (List.getElem_mem eV))) fun v w4 dz hv => ?_
   (replace hw:=Ext.trans hw dz;replace aC:=aC.ext dz;replace aq:=aq.ext dz;replace dp:=dp.ext dz);cases Fj:bf s.Heap.Live c.aK[k].At
   ·obtain ⟨j,rfl⟩:=hv.2 Fj
    have hF:kn s c=false:=jR fun hm=>by
     have:=(hm.bK k eV).live
     rw [zD Fj] at this;omega
    rw [hF];repeat' (first|refine Wz ?_|((apply CW.bg mixed;(· kernel_rfl);rotate_left;intro w1 aa;replace hw:=Ext.trans hw aa;replace aC:=aC.ext aa;replace aq:=aq.ext aa;replace dp:=dp.ext aa;clear aa;rotate_right))|refine SW.skip rfl rfl rfl rfl ?_|exact SW.du rfl)
    exact ae.aI rfl rfl ⟨_,rfl,hw,rfl⟩
   ·have Jg:=hv.1 Fj;subst Jg;obtain ⟨tW,PO⟩:=jM Fj;have MA:=DW Fj tW;obtain ⟨m,em⟩ : ∃ m,aZ s.Heap.Live c.aK[k].At=m:=⟨_,rfl⟩;simp only [em] at tW PO MA hv ⊢;have Oa:m<r.Heap.Live.n:=by omega
    have RL:=hr.heap.live.base;have gO:=hr.heap.live.qV Oa (j:=1) (u := .int .i64 s.Heap.Live[m].Order) rfl
    have ht : 0≤c.aK[k].At∧c.aK[k].At≤255:=by
     have:=N9 _ (List.getElem_mem tW)
     omega
    have hS : 1≤q.aY∧q.aY≤64:=by omega
    have hP : 1≤q.jm∧q.jm≤64:=by omega
    by_cases ug:s.Heap.Live[m].Order=o
    ·by_cases Lo : 0<k→(c.aK[k-1]'(by omega)).At<c.aK[k].At
     ·rcases Nat.eq_zero_or_pos k with tY|tY
      all_goals
       first
       | (have gP:=hq.bK.qV (show k-1<q.aK.n by omega) (j:=0) (u := .int .i64 (c.aK[k-1]'(by omega)).At) rfl
          have uc:=Lo tY)
       | skip
      all_goals
       repeat' (first|refine Wz ?_|((apply CW.bg mixed;(· kernel_rfl);rotate_left;intro w1 aa;replace hw:=Ext.trans hw aa;replace aC:=aC.ext aa;replace aq:=aq.ext aa;replace dp:=dp.ext aa;clear aa;rotate_right))|refine SW.want rfl rfl ?_|refine SW.st (bc (k-1) rfl rfl (by assumption) (by omega) (by omega)) rfl ?_|refine SW.st (aM hw rfl gO) rfl ?_|refine SW.st (aM hw rfl gP) rfl ?_|exact SW.du rfl)
       all_goals try omega
       refine SW.call rfl rfl (BX r q c.aK[k] s.Words _ (hr.words.ext hw) (by omega) hS hP ht) fun v w5 qL A4 => ?_
       (replace hw:=Ext.trans hw qL;replace aC:=aC.ext qL;replace aq:=aq.ext qL);rw [eS,eP] at A4;rcases A4 with ⟨out,A5,c5,hC,rfl,_,_⟩|⟨nD,rfl⟩
       ·repeat' (first|refine Wz ?_|(refine CW.eY rfl ?_))
        exact ae.again (k+1) ⟨rfl,rfl,rfl,rfl,rfl,rfl,trivial⟩ (by omega) ⟨by omega,hw,aC,aq,fun i h h'=>by
         by_cases ei:i=k
         ·subst ei;exact ⟨by omega,Lo,⟨out,hC⟩⟩
         ·exact hI i h (by omega)⟩
       ·rw [jR fun hm=>(hm.bK k eV).chain.elim nD];repeat' (first|refine Wz ?_|(refine CW.eX rfl ?_))
        exact ae.aI rfl rfl ⟨_,rfl,hw,rfl⟩
     ·have tY : 0<k:=by
       rcases Nat.eq_zero_or_pos k with h|h
       ·exact absurd (fun h'=>by omega) Lo
       ·exact h
      have Fx : ¬ (c.aK[k-1]'(by omega)).At<c.aK[k].At:=fun h=>Lo fun _=>h
      have gP:=hq.bK.qV (show k-1<q.aK.n by omega) (j:=0) (u := .int .i64 (c.aK[k-1]'(by omega)).At) rfl;rw [jR fun hm=>Fx ((hm.bK k eV).next tY)];repeat' (first|refine Wz ?_|((apply CW.bg mixed;(· kernel_rfl);rotate_left;intro w1 aa;replace hw:=Ext.trans hw aa;replace aC:=aC.ext aa;replace aq:=aq.ext aa;replace dp:=dp.ext aa;clear aa;rotate_right))|refine SW.want rfl rfl ?_|refine SW.st (bc (k-1) rfl rfl (by assumption) (by omega) (by omega)) rfl ?_|refine SW.st (aM hw rfl gO) rfl ?_|refine SW.st (aM hw rfl gP) rfl ?_|exact SW.du rfl)
      all_goals try omega
      exact ae.aI rfl rfl ⟨_,rfl,hw,rfl⟩
    ·rw [jR fun hm=>ug (by have:=(hm.bK k eV).live;omega)];repeat' (first|refine Wz ?_|((apply CW.bg mixed;(· kernel_rfl);rotate_left;intro w1 aa;replace hw:=Ext.trans hw aa;replace aC:=aC.ext aa;replace aq:=aq.ext aa;replace dp:=dp.ext aa;clear aa;rotate_right))|refine SW.want rfl rfl ?_|refine SW.st (aM hw rfl gO) rfl ?_|exact SW.du rfl)
     all_goals try omega
     exact ae.aI rfl rfl ⟨_,rfl,hw,rfl⟩
  ·have eH:∀ (i:Nat) (h:i<c.aK.length),o8 s c i h:=fun i h=>hI i h (by omega)
   refine Wz ?_;clear hI ey hk hA
   refine CW.loop (fun k:Nat=>[(3,.pointer (some ⟨b3,0,none⟩)),(109,.slice q.a8.A q.a8.n q.a8.c),(110,.int .i64 (q.a8.n:Int)),(111,.int .i64 (k:Int))])
    (fun k w'=>k≤q.a8.n∧Ext w w'∧aT w' b3 89 (fG q) ∧ ∀ (i:Nat) (h:i<c.a8.length),i<k→DX c i h) (fun k=>q.a8.n-k) 0
    ⟨rfl,rfl,rfl,rfl,trivial⟩ ⟨by omega,hw,aq,fun i h h'=>by omega⟩ ?_
   clear hw aq aC;rintro k w' ⟨hk,hw,aq,hI⟩
   have hA:=hq.dh.base;by_cases ey:k<q.a8.n
   ·have eV:k<c.a8.length:=by omega
    obtain ⟨a,ea⟩ : ∃ a,c.a8[k]=a:=⟨_,rfl⟩;have gA:=hq.dh.one ey (u := .int .i64 a) (by rw [← ea];rfl);by_cases ha:a = -1
    ·repeat' (first|refine Wz ?_|refine SW.st (aM hw rfl gA) rfl ?_)
     exact ae.again (k+1) ⟨rfl,rfl,rfl,rfl,trivial⟩ (by omega) ⟨by omega,hw,aq,fun i h h'=>by
      by_cases ei:i=k
      ·subst ei;exact .inl (by omega)
      ·exact hI i h (by omega)⟩
    ·have cN:∀ w',Ext w w'→bl Tryz.prog 95 [.slice q.a8.A k q.a8.c,.int .i64 a] w' fun v _=>v = .bool (decide (a∈c.a8.take k)):=fun w' hx=>ji _ _ _ _ _ _ ((hq.dh.ext hx).pre (show k≤q.a8.n by omega)) (by omega)
     obtain ⟨z,hz⟩ : ∃ z,idxOf (Fi a) c.aK=z:=⟨_,rfl⟩;have kf:=jC (Fi a) c.aK;rw [hz] at kf
     have cF:∀ w',Ext w w'→bl Tryz.prog 181 [.agg (fG q).toArray,.int .i64 a] w' fun v _=>v = .int .i64 z:=fun w' hx=>by
      have:=D0 q c.aK a w' (hq.bK.ext hx) (by omega)
      rwa [hz] at this
     have GX:(a∈c.a8.take k ∨ ¬ 0≤z)→kn s c=false:=fun h=>jR fun hm=>by
      rcases hm.J4 k eV with g|⟨g1,g2⟩
      ·omega
      ·rw [ea] at g1 g2;rcases h with h|h
       ·exact g1 h
       ·rw [g2] at kf;exact h (of_decide_eq_true kf)
     by_cases j3:a∈c.a8.take k
     ·rw [decide_eq_true j3] at cN;rw [GX (.inl j3)];repeat' (first|refine Wz ?_|refine SW.st (aM hw rfl gA) rfl ?_|(refine SW.call rfl rfl (cN _ hw) ?_;intro v w1 aa hv;subst hv;replace hw:=Ext.trans hw aa;replace aq:=aq.ext aa;clear aa)|(refine SW.st (cG (k:=k) rfl rfl (by omega)) rfl ?_))
      all_goals try omega
      exact ae.aI rfl rfl ⟨_,rfl,hw,rfl⟩
     ·rw [decide_eq_false j3] at cN;by_cases H9 : 0≤z
      ·repeat' (first|refine Wz ?_|refine SW.st (aM hw rfl gA) rfl ?_|((first|refine SW.call rfl rfl (cN _ hw) ?_|refine SW.call rfl rfl (cF _ hw) ?_);intro v w1 aa hv;subst hv;replace hw:=Ext.trans hw aa;replace aq:=aq.ext aa;clear aa)|(refine SW.st (cG (k:=k) rfl rfl (by omega)) rfl ?_))
       all_goals try omega
       exact ae.again (k+1) ⟨rfl,rfl,rfl,rfl,trivial⟩ (by omega) ⟨by omega,hw,aq,fun i h h'=>by
        by_cases ei:i=k
        ·subst ei;exact .inr ⟨by rw [ea];exact j3,by rw [ea,← kf];exact decide_eq_true H9⟩
        ·exact hI i h (by omega)⟩
      ·rw [GX (.inr H9)];repeat' (first|refine Wz ?_|refine SW.st (aM hw rfl gA) rfl ?_|((first|refine SW.call rfl rfl (cN _ hw) ?_|refine SW.call rfl rfl (cF _ hw) ?_);intro v w1 aa hv;subst hv;replace hw:=Ext.trans hw aa;replace aq:=aq.ext aa;clear aa)|(refine SW.st (cG (k:=k) rfl rfl (by omega)) rfl ?_))
       all_goals try omega
       exact ae.aI rfl rfl ⟨_,rfl,hw,rfl⟩
   ·rw [sQ ⟨Mz,h4,h5,eH,fun i h=>hI i h (by omega)⟩];refine Wz ?_;exact ae.aI rfl rfl ⟨_,rfl,hw,rfl⟩
open Go.RowKit Go.Maps
structure kN (w:World) (P:Program) (k e:TypeId) (b:Nat) (keys:List Lit) : Prop where
 own:w.ownsMap (H:=Unit) P k (plainElem P e) b keys.length (setOf (.lit (.bool true)) keys)
 ok:∀ x∈keys,WideAt.IsKeyLit x
theorem kN.ext {w w':World} {P:Program} {k e:TypeId} {b:Nat} {keys:List Lit} (h:kN w P k e b keys) (hx:Ext w w') : kN w' P k e b keys:=⟨h.own.kept (row:=none) ⟨hx.os,hx.tape,hx.output,hx.size,fun i hi _=>hx.block i hi⟩ (by simp),h.ok⟩
theorem kN.grown {w w':World} {P:Program} {k e:TypeId} {b:Nat} {keys:List Lit} {row:Option Nat} (h:kN w P k e b keys) (hg:w.grownBy w' row) (cr:some b≠row) : kN w' P k e b keys:=⟨h.own.kept hg cr,h.ok⟩
theorem kN.lt {w:World} {P:Program} {k e:TypeId} {b:Nat} {keys:List Lit} (h:kN w P k e b keys) : b<w.heap.size:=h.own.lt
theorem sS (u z:DataW Unit) (k:Lit) : ∀ (acc:List Lit) (m:DataW Unit),IsMap m→(∀ x∈acc,WideAt.IsKeyLit x)→(acc.foldl (fun m x=>m.put x u) m).atKey k z=if acc.any (fun x=>x.sameKey k) then u else m.atKey k z
 | [],m,_,_=>by simp
 | x::r,m,hm,h=>by
   rw [List.foldl_cons,sS u z k r (m.put x u) (hm.put x u) (fun y hy=>h y (by simp [hy])),List.any_cons];by_cases e:k=x
   ·subst e;rw [atKey_put_same hm (h k (by simp)),WideAt.sameKey_self (h k (by simp))];simp
   ·rw [atKey_put_other e,sameKey_ne (fun e'=>e e'.symm)];simp
theorem B1 (k:Lit) (acc:List Lit) (h:∀ x∈acc,WideAt.IsKeyLit x) : (setOf (.lit (.bool true)) acc:DataW Unit).atKey k (.lit (.bool false)) = .lit (.bool (acc.any fun x=>x.sameKey k)):=by
 rw [setOf,sS _ _ k acc _ isMap_empty h];cases acc.any fun x=>x.sameKey k<;>rfl
section
variable {P:Program} {n:Nat} {ops:Array Oper} {Q:Exit→Act→World→Prop} {rest:List Oper} {L:Env} {w:World} {T:TypeId} {pos:String} {af:Array Edge}
theorem SW.makeMap {d:Nat} {t:TypeId} (k e:TypeId) (hn:Nat.blt d n=true) (h:∀ b w',Ext w w'→w.heap.size≤b→kN w' P k e b []→SW P n ops (.fB Q) rest ((d,.map (some b))::L) w') :
 SW P n ops (.fB Q) (⟨some d,.makeMap t none,T,pos,af,none⟩::rest) L w :=
 ⟨fun a ha=>by
  simp only [swp,wpList,Region.wanted,if_true];refine .inl ?_;unfold Oper.wp
  have:(execOp a.eval ⟨some d,.makeMap t none,T,pos,af,none⟩).run P w = .ok (.value (.map (some w.heap.size))) (w.alloc (.map #[] 0)):=by
   simp [execOp,run_makeMap]
  rw [this,Oper.upon_value];exact (h _ _ (Ext.alloc w _) (Nat.le_refl _) ⟨World.ownsMap_made w P k _,fun x hx=>by simp at hx⟩).out _ (ha.put hn _)⟩
theorem sU {d:Option Nat} {g:Option (Nat×Bool)} {t k e:TypeId} {b:Nat} {keys:List Lit} {m x:Operand} {key:Value} {kl:Lit} (hB:kN w P k e b keys) (K:Keyed P k) (ht:P.underlying t=some (.map k e)) (he:P.underlying e=some .bool) (hz:∀ w,(zeroValue e).run P w = .ok (.bool false) w)
 (hm:bF L m=some (.map (some b))) (hx:bF L x=some key) (oq:Go.keyOf P k key=some kl) : St P ⟨d,.lookup t m x false,T,pos,af,g⟩ L w (.bool (keys.any fun y=>y.sameKey kl)) :=
 ⟨fun n a ha w' PP=>by
  have q9:=hB.ext PP;obtain ⟨v,ps,zI,hv⟩:=q9.own.lookup K ht (hz w') (plainElem_bool he false) oq;rw [B1 _ _ hB.ok] at hv
  have JO:v = .bool (keys.any fun y=>y.sameKey kl):=by
   unfold plainElem at hv;rw [he] at hv;cases v<;>simp at hv
   rw [hv.1]
  subst JO;simp [execOp,ha.eval hm,ha.eval hx,zI]⟩
theorem SW.zJ {t k e:TypeId} {b:Nat} {keys:List Lit} {m x y:Operand} {key:Value} {kl:Lit} (hB:kN w P k e b keys) (K:Keyed P k) (ht:P.underlying t=some (.map k e)) (he:P.underlying e=some .bool) (iQ:keys.length<maxLen)
 (hm:bF L m=some (.map (some b))) (hx:bF L x=some key) (hy:bF L y=some (.bool true)) (oq:Go.keyOf P k key=some kl) (hk:WideAt.IsKeyLit kl)
 (h:∀ w',kN w' P k e b (keys++[kl])→w.grownBy w' (some b)→SW P n ops (.fB Q) rest L w') : SW P n ops (.fB Q) (⟨none,.mapUpdate t m x y,T,pos,af,none⟩::rest) L w :=
 ⟨fun a ha=>by
  obtain ⟨w',zI,r1,r2⟩:=hB.own.update K ht iQ oq (plainElem_bool he true);simp only [swp,wpList,Region.wanted,if_true];refine .inl ?_;unfold Oper.wp
  have:(execOp a.eval ⟨none,.mapUpdate t m x y,T,pos,af,none⟩).run P w = .ok .skip w':=by
   simp [execOp,ha.eval hm,ha.eval hx,ha.eval hy,zI]
  rw [this,Oper.upon_skip];refine (h w' ⟨?_,fun z hz => ?_⟩ r2).out _ ha
  ·rw [setOf_snoc];simpa using r1
  ·rcases List.mem_append.1 hz with hz|hz
   ·exact hB.ok z hz
   ·simp at hz;subst hz;exact hk⟩
end
open Go.RowKit Go.Maps
def nI (s:ByteArray) : Lit := .string s.data.toList
def rh (z:Int) : Lit := .int .i64 z
def sV (l:List ByteArray) (n:ByteArray) : Bool:=l.any fun m=>decide (m=n)
theorem mU {l:List ByteArray} {n:ByteArray}:sV l n=true↔n∈l:=by
 unfold sV;rw [List.any_eq_true];exact ⟨fun ⟨m,h,e⟩=>of_decide_eq_true e ▸ h,fun h=>⟨n,h,decide_eq_true rfl⟩⟩
theorem D4 (l:List ByteArray) (n:ByteArray) : ((l.map nI).any fun y=>y.sameKey (nI n))=sV l n:=by
 rw [Bool.eq_iff_iff,List.any_eq_true,mU];constructor
 ·rintro ⟨y,hy,hs⟩
  obtain ⟨m,hm,rfl⟩:=List.mem_map.1 hy;have:=WideAt.sameKey_eq hs
  simp only [nI,Lit.string.injEq] at this
  have e:m=n:=by
   cases m;cases n
   simpa using this
  rw [← e];exact hm
 ·intro h;exact ⟨nI n,List.mem_map.2 ⟨n,h,rfl⟩,WideAt.sameKey_self trivial⟩
theorem D5 (l:List Int) (n:Int) : ((l.map rh).any fun y=>y.sameKey (rh n))=decide (n∈l):=by
 rw [Bool.eq_iff_iff,List.any_eq_true,decide_eq_true_iff];constructor
 ·rintro ⟨y,hy,hs⟩
  obtain ⟨m,hm,rfl⟩:=List.mem_map.1 hy;have:=WideAt.sameKey_eq hs
  simp only [rh,Lit.int.injEq] at this;rw [← this.2];exact hm
 ·intro h;exact ⟨rh n,List.mem_map.2 ⟨n,h,rfl⟩,WideAt.sameKey_self trivial⟩
theorem wk:Tryz.prog.underlying 9=some .string:=by kernel_rfl
theorem wm:Tryz.prog.underlying 3=some (.int .i64):=by kernel_rfl
theorem mV:Tryz.prog.underlying 4=some .bool:=by kernel_rfl
theorem sW:Tryz.prog.underlying 144=some (.map 9 4):=by kernel_rfl
theorem xL:Tryz.prog.underlying 145=some (.map 3 4):=by kernel_rfl
theorem uU (w:World) : (zeroValue 4).run Tryz.prog w = .ok (.bool false) w:=by
 obtain ⟨inf,hi,hz,hs,rB⟩:=cW Tryz.prog 4 (z := .bool false) (sz:=1) (bytes:=1);simp [zeroValue,typeInfo,hi,hz]
theorem qb (s:ByteArray) (h:s.size≤140737488351232) : Go.keyOf Tryz.prog 9 (.string s)=some (nI s):=by
 simp [Go.keyOf,mapKey,nI];unfold maxLen;omega
theorem keyOf_int {z:Int} (h : -9223372036854775808≤z∧z≤9223372036854775807) : Go.keyOf Tryz.prog 3 (.int .i64 z)=some (rh z):=keyOf_int_mk wm (by
 have h1:IntKind.i64.min = -9223372036854775808:=by decide
 have h2:IntKind.i64.max=9223372036854775807:=by decide
 simp [Lit.wf,h1,h2];omega)
section
variable {L:Env} {w:World} {d:Option Nat} {T:TypeId} {pos:String} {af:Array Edge} {g:Option (Nat×Bool)}
theorem o9 {b:Nat} {l:List ByteArray} {n:ByteArray} {m x:Operand} (hB:kN w Tryz.prog 9 4 b (l.map nI)) (hn:n.size≤140737488351232) (hm:bF L m=some (.map (some b))) (hx:bF L x=some (.string n)) :
 St Tryz.prog ⟨d,.lookup 144 m x false,T,pos,af,g⟩ L w (.bool (sV l n)) :=
 (sU hB (string_keyed wk) sW mV uU hm hx (qb n hn)).eq (by rw [D4])
theorem xM {b:Nat} {l:List Int} {n:Int} {m x:Operand} (hB:kN w Tryz.prog 3 4 b (l.map rh)) (hn : -9223372036854775808≤n∧n≤9223372036854775807) (hm:bF L m=some (.map (some b))) (hx:bF L x=some (.int .i64 n)) :
 St Tryz.prog ⟨d,.lookup 145 m x false,T,pos,af,g⟩ L w (.bool (decide (n∈l))) :=
 (sU hB (int_keyed wm) xL mV uU hm hx (keyOf_int hn)).eq (by rw [D5])
end
theorem B2 (d:dL) (b6:Nat) (q:dL) (w:World) (h6:aT w b6 89 (fG q)) :
 bl Tryz.prog 91 ([.agg (fG d).toArray]++[.pointer (some ⟨b6,0,none⟩)]) w fun v _=>v = .bool (decide (d.aY=q.aY)):=by
 refine aD Tryz.func91 rfl Tryz.ntmps91 rfl ?_;refine CW.seq (CW.region (SW.box rfl rfl fun b1 w1 hw gX aB => ?_));replace h6:=h6.ext hw;refine Wz ?_;exact ae.aI rfl rfl ⟨_,rfl,hw,rfl⟩
structure ak.g7 (s:ak) : Prop where
 small:s.small
 bz:∀ z∈s.Heap.aL,kM z
 bK:∀ c∈s.ai,∀ x∈c.aK,-9223372036854775808≤x.At∧x.At≤9223372036854775807
 names:∀ c∈s.ai,∀ n∈c.Names,n.size≤140737488351232
theorem sX (cs:List aV) (h:∀ c∈cs,c.small) : (db cs).length≤cs.length*8796093022208:=by
 induction cs with
 | nil=>simp [db]
 | cons c r ih =>
   have h1:=(h c (by simp)).names;have h2:=ih (fun x hx=>h x (by simp [hx]));simp only [db,List.flatMap_cons,List.length_append,List.length_cons] at h2 ⊢;omega
theorem sY (cs:List aV) (h:∀ c∈cs,c.small) : (dv cs).length≤cs.length*8796093022208:=by
 induction cs with
 | nil=>simp [dv]
 | cons c r ih =>
   have h1:=(h c (by simp)).bK;have h2:=ih (fun x hx=>h x (by simp [hx]));simp only [dv,List.flatMap_cons,List.length_append,List.length_cons,List.length_map] at h2 ⊢;omega
set_option maxHeartbeats 4000000 in
theorem zK (r:ik) (s:ak) (w:World) (hr:DN w r s) (hf:s.g7) :
 bl Tryz.prog 41 [.agg (bq r).toArray] w fun v _=>v = .int .i64 (if fA s then 0 else 8):=by
 refine aD Tryz.func41 rfl Tryz.ntmps41 rfl ?_;refine CW.seq (CW.region (SW.box rfl rfl fun b1 w1 hw gX aB => ?_));obtain ⟨cs,hc⟩:=hr.ck;obtain ⟨z1,z2⟩:=hc.len;have wl:=hr.words.len;have hs:=hf.small;have m3:=hs.ck;have FG:=hc.cap;obtain ⟨q,hq⟩ : ∃ q,fa s.Heap=q:=⟨_,rfl⟩
 have c1:∀ w',Ext w w'→bl Tryz.prog 88 [.agg (bW r.Heap).toArray] w' fun v _=>v = .int .i64 (if q then 0 else 8):=fun w' hx=>by
  have:=lE r.Heap s.Heap w' (hr.heap.ext hx) hs.heap hf.bz
  rwa [hq] at this
 by_cases D6:s.Words.length=4096∧q=true∧s.ai.length≤20
 ·obtain ⟨g1,g2,g3⟩:=D6;subst g2;have hH:=bH.1 hq;simp only [if_true] at c1;repeat' (first|refine Wz ?_|refine SW.st (ay rfl rfl ((mP aB))) rfl ?_|(refine SW.call rfl rfl (c1 _ hw) ?_;intro v w1 aa hv;subst hv;replace hw:=Ext.trans hw aa;replace aB:=aB.ext aa;clear aa))
  all_goals try omega
  clear c1;refine SW.makeMap 9 4 rfl fun bN w3 iN J5 hN => ?_
  have Ob:w.heap.size≤bN:=Nat.le_trans hw.size J5
  have Fy:=aB.lt;(replace hw:=Ext.trans hw iN;replace aB:=aB.ext iN);refine SW.makeMap 3 4 rfl fun bS w4 dz J6 hS => ?_
  have PQ:w.heap.size≤bS:=Nat.le_trans hw.size J6
  have FA:=hN.lt;(replace hw:=Ext.trans hw dz;replace aB:=aB.ext dz;replace hN:=hN.ext dz);have J7:b1≠bN:=by omega
  have MB:b1≠bS:=by omega
  have Ib:bN≠bS:=by omega
  clear Fy FA J5 J6;refine Wz ?_
  refine CW.loop (fun k:Nat=>[(1,.pointer (some ⟨b1,0,none⟩)),(3,.map (some bN)),(4,.map (some bS)),(30,.slice r.ai.A r.ai.n r.ai.c),(31,.int .i64 (r.ai.n:Int)),(32,.int .i64 (k:Int))])
   (fun k w'=>k≤r.ai.n∧Ext w w'∧aT w' b1 44 (bq r)∧kN w' Tryz.prog 9 4 bN ((db (s.ai.take k)).map nI)∧kN w' Tryz.prog 3 4 bS ((dv (s.ai.take k)).map rh) ∧ ∀ (i:Nat) (h:i<s.ai.length),i<k→nu s i h) (fun k=>r.ai.n-k) 0
   ⟨rfl,rfl,rfl,rfl,rfl,rfl,trivial⟩ ⟨by omega,hw,aB,hN,hS,fun i h h'=>by omega⟩ ?_
  clear hw aB hN hS;rintro k w' ⟨hk,hw,aB,hN,hS,hI⟩
  have hA:=hc.row.base;by_cases ey:k<r.ai.n
  ·have L0:k<cs.length:=by omega
   have eV:k<s.ai.length:=by omega
   have kO:=hc.each.get k L0 eV;have sm:=hs.each _ (List.getElem_mem eV);have fS:=hf.bK _ (List.getElem_mem eV);have fN:=hf.names _ (List.getElem_mem eV);have q1:=kO.names.len;have q2:=kO.bK.len;have q4:=sm.names;have q5:=sm.bK;have bn:=sX (s.ai.take k) (fun c hc=>hs.each c (List.mem_of_mem_take hc));have bs:=sY (s.ai.take k) (fun c hc=>hs.each c (List.mem_of_mem_take hc));rw [List.length_take] at bn bs;repeat' (first|refine Wz ?_|refine SW.st (aN hw rfl rfl ((hc.row.all ey))) rfl ?_)
   have MC:=hN.lt;have MD:=hS.lt;refine SW.alloc rfl fun b6 w1 aa fk az => ?_
   refine Wz ?_;refine SW.ah az rfl rfl rfl rfl (AV _) fun w2 de hg => ?_
   have ao:=aa.own fk hg;have dU:w.heap.size≤b6:=Nat.le_trans hw.size fk
   replace hw:=Ext.trans hw ao;replace aB:=aB.ext ao;replace hN:=hN.ext ao;replace hS:=hS.ext ao;replace az:=de;clear de aa hg ao;have J8:bN≠b6:=by omega
   have PR:bS≠b6:=by omega
   clear MC MD;obtain ⟨qc,ME⟩ : ∃ qc,kn s s.ai[k]=qc:=⟨_,rfl⟩
   have cC:∀ w',Ext w w'→bl Tryz.prog 89 [.agg (bq r).toArray,.agg (fG cs[k]).toArray] w' fun v _=>v = .bool qc:=fun w' hx=>by
    have:=B0 r s cs[k] s.ai[k] w' (hr.ext hx) (kO.ext hx) hs sm hH fS
    rwa [ME] at this
   cases qc
   ·have hF:fA s=false:=p7 fun hm=>by
     have:=sQ (hm.each k eV).may
     rw [ME] at this;cases this
    rw [hF];repeat' (first|refine Wz ?_|refine SW.skip rfl rfl rfl rfl ?_|(refine SW.call rfl rfl (cC _ hw) ?_;intro v w1 aa hv;subst hv;replace hw:=Ext.trans hw aa;replace aB:=aB.ext aa;replace az:=az.ext aa;replace hN:=hN.ext aa;replace hS:=hS.ext aa;clear aa))
    exact ae.aI rfl rfl ⟨_,rfl,hw,rfl⟩
   ·have PS:=zE.1 ME;obtain ⟨y,hy⟩ : ∃ y,((cs.take k).any fun d=>decide (d.aY=cs[k].aY))=y:=⟨_,rfl⟩
    have cD:∀ w',Ext w w'→aT w' b6 89 (fG cs[k])→bl Tryz.prog 90 [.slice r.ai.A k r.ai.c,.func (.func 91) #[] [.pointer (some ⟨b6,0,none⟩)].toArray] w' fun v _=>v = .bool y:=fun w' hx h6=>by
     have:=iV r.ai.A k r.ai.c (cs.take k) w' ((hc.row.ext hx).pre (show k≤r.ai.n by omega)) 91 [.pointer (some ⟨b6,0,none⟩)] (fun d=>decide (d.aY=cs[k].aY)) (fun d => .agg (fG d).toArray) (fun x=>rfl)
      (fun x _ w1 j0=>B2 x b6 cs[k] w1 (h6.ext j0)) (by omega)
     rwa [hy] at this
    cases y
    ·have qW:∀ (j:Nat) (hj:j<k),(s.ai[j]'(by omega)).aY≠s.ai[k].aY:=fun j hj e=>by
      rw [List.any_eq_false] at hy;refine hy cs[j] (List.mem_take_iff_getElem.2 ⟨j,by omega,rfl⟩) ?_;have e1:=(hc.each.get j (by omega) (by omega)).size;have e2:=kO.size;exact decide_eq_true (by rw [e1,e2];exact e)
     repeat' (first|refine Wz ?_|refine SW.want rfl rfl ?_|((first|refine SW.call rfl rfl (cC _ hw) ?_|refine SW.call rfl rfl (cD _ hw az) ?_);intro v w1 aa hv;subst hv;replace hw:=Ext.trans hw aa;replace aB:=aB.ext aa;replace az:=az.ext aa;replace hN:=hN.ext aa;replace hS:=hS.ext aa;clear aa)|(refine SW.st (cG (k:=k) rfl rfl (by omega)) rfl ?_)|(refine SW.st (g9 (vs:=[.pointer (some ⟨b6,0,none⟩)]) rfl) rfl ?_))
     obtain ⟨acc,FX⟩ : ∃ acc,db (s.ai.take k)=acc:=⟨_,rfl⟩;rw [FX] at hN bn;obtain ⟨GY,FY⟩ : ∃ GY,dv (s.ai.take k)=GY:=⟨_,rfl⟩;rw [FY] at hS bs;clear cC cD
     refine CW.loop (fun j:Nat=>[(1,.pointer (some ⟨b1,0,none⟩)),(3,.map (some bN)),(4,.map (some bS)),(6,.pointer (some ⟨b6,0,none⟩)),(30,.slice r.ai.A r.ai.n r.ai.c),(31,.int .i64 (r.ai.n:Int)),(32,.int .i64 (k:Int)),(50,.slice cs[k].Names.A cs[k].Names.n cs[k].Names.c),(51,.int .i64 (cs[k].Names.n:Int)),(52,.int .i64 (j:Int))])
      (fun j w'=>j≤cs[k].Names.n∧Ext w w'∧aT w' b1 44 (bq r)∧aT w' b6 89 (fG cs[k])∧kN w' Tryz.prog 9 4 bN ((acc++s.ai[k].Names.take j).map nI)∧kN w' Tryz.prog 3 4 bS (GY.map rh) ∧
        ∀ (i:Nat) (h:i<s.ai[k].Names.length),i<j→eR s.ai[k].Names[i]=true∧s.ai[k].Names[i]∉acc++s.ai[k].Names.take i∧(0<i→dF (s.ai[k].Names[i-1]'(by omega)) s.ai[k].Names[i]=true)) (fun j=>cs[k].Names.n-j) 0
      ⟨rfl,rfl,rfl,rfl,rfl,rfl,rfl,rfl,rfl,rfl,trivial⟩ ⟨by omega,hw,aB,az,by simpa using hN,hS,fun i h h'=>by omega⟩ ?_
     clear hw aB hN hS az;rintro j w' ⟨hj,hw,aB,az,hN,hS,hJ⟩
     have D7:=kO.names.base;by_cases mm:j<cs[k].Names.n
     ·have nQ:j<s.ai[k].Names.length:=by omega
      obtain ⟨nm,Jh⟩ : ∃ nm,s.ai[k].Names[j]=nm:=⟨_,rfl⟩;have gN:=kO.names.one mm (u := .string nm) (by rw [← Jh];rfl);have Ic:nm.size≤140737488351232:=by rw [← Jh];exact fN _ (List.getElem_mem nQ)
      obtain ⟨qn,MF⟩ : ∃ qn,eR nm=qn:=⟨_,rfl⟩;obtain ⟨qh,Ie⟩ : ∃ qh,sV (acc++s.ai[k].Names.take j) nm=qh:=⟨_,rfl⟩
      have J9:∀ w',bl Tryz.prog 92 [.string nm] w' fun v _=>v = .bool qn:=fun w'=>by
       have:=xw nm w' Ic
       rwa [MF] at this
      have D8:(qn=false∨qh=true ∨ ∃ GL : 0<j,dF (s.ai[k].Names[j-1]'(by omega)) nm=false)→fA s=false:=fun h=>p7 fun hm=>by
       have h1:=(hm.each k eV).names.each j nQ;rw [Jh,FX] at h1;rcases h with h|h|⟨GL,h⟩
       ·rw [MF,h] at h1;exact absurd h1.1 (by simp)
       ·exact h1.2.1 (mU.1 (by rw [Ie,h]))
       ·rw [h1.2.2 GL] at h;cases h
      cases qn
      ·rw [D8 (.inl rfl)];repeat' (first|refine Wz ?_|refine SW.skip rfl rfl rfl rfl ?_|refine SW.st (aM hw rfl gN) rfl ?_|(refine SW.call rfl rfl (J9 _) ?_;intro v w1 aa hv;subst hv;replace hw:=Ext.trans hw aa;replace aB:=aB.ext aa;replace az:=az.ext aa;replace hN:=hN.ext aa;replace hS:=hS.ext aa;clear aa))
       exact ae.aI rfl rfl ⟨_,rfl,hw,rfl⟩
      ·cases qh
       ·have go:∀ (GZ : 0<j→dF (s.ai[k].Names[j-1]'(by omega)) nm=true) (i:Nat) (h:i<s.ai[k].Names.length),i<j+1→eR s.ai[k].Names[i]=true∧s.ai[k].Names[i]∉acc++s.ai[k].Names.take i∧(0<i→dF (s.ai[k].Names[i-1]'(by omega)) s.ai[k].Names[i]=true):=fun GZ i h h'=>by
         by_cases ei:i=j
         ·subst ei;rw [Jh];exact ⟨MF,(fun hm=>by rw [mU.2 hm] at Ie;cases Ie),GZ⟩
         ·exact hJ i h (by omega)
        rcases Nat.eq_zero_or_pos j with GL|GL
        ·repeat' (first|refine Wz ?_|refine SW.want rfl rfl ?_|refine SW.st (aM hw rfl gN) rfl ?_|(refine SW.call rfl rfl (J9 _) ?_;intro v w1 aa hv;subst hv;replace hw:=Ext.trans hw aa;replace aB:=aB.ext aa;replace az:=az.ext aa;replace hN:=hN.ext aa;replace hS:=hS.ext aa;clear aa)|(refine SW.st ((o9 hN Ic rfl rfl).eq (congrArg Value.bool Ie)) rfl ?_))
         all_goals try omega
         refine SW.zJ hN (string_keyed wk) sW mV (by simp only [List.length_map,List.length_append,List.length_take];unfold maxLen;omega) rfl rfl rfl (qb nm Ic) trivial fun w5 Ka hg => ?_
         replace hw:=hw.own Ob hg;replace aB:=aB.grown hg (by simpa using J7);replace az:=az.grown hg (by simpa using J8.symm);replace hS:=hS.grown hg (by simpa using Ib.symm);have eN:(acc++s.ai[k].Names.take j).map nI++[nI nm]=(acc++s.ai[k].Names.take (j+1)).map nI:=by rw [List.take_succ_eq_append_getElem nQ,Jh];simp
         rw [eN] at Ka;refine Wz ?_;exact ae.again (j+1) ⟨rfl,rfl,rfl,rfl,rfl,rfl,rfl,rfl,rfl,rfl,trivial⟩ (by omega) ⟨by omega,hw,aB,az,Ka,hS,go (fun h=>by omega)⟩
        ·obtain ⟨ql,Lp⟩ : ∃ ql,(!dF (s.ai[k].Names[j-1]'(by omega)) nm)=ql:=⟨_,rfl⟩;have gP:=kO.names.one (show j-1<cs[k].Names.n by omega) (u := .string (s.ai[k].Names[j-1]'(by omega))) rfl;cases ql
         ·repeat' (first|refine Wz ?_|refine SW.want rfl rfl ?_|refine SW.st (bc (j-1) rfl rfl (by assumption) (by omega) (by omega)) rfl ?_|refine SW.st (aM hw rfl gN) rfl ?_|refine SW.st (aM hw rfl gP) rfl ?_|(refine SW.call rfl rfl (J9 _) ?_;intro v w1 aa hv;subst hv;replace hw:=Ext.trans hw aa;replace aB:=aB.ext aa;replace az:=az.ext aa;replace hN:=hN.ext aa;replace hS:=hS.ext aa;clear aa)|(refine SW.st ((o9 hN Ic rfl rfl).eq (congrArg Value.bool Ie)) rfl ?_)|(refine SW.st ((xv rfl rfl).eq (congrArg Value.bool Lp)) rfl ?_))
          all_goals try omega
          refine SW.zJ hN (string_keyed wk) sW mV (by simp only [List.length_map,List.length_append,List.length_take];unfold maxLen;omega) rfl rfl rfl (qb nm Ic) trivial fun w5 Ka hg => ?_
          replace hw:=hw.own Ob hg;replace aB:=aB.grown hg (by simpa using J7);replace az:=az.grown hg (by simpa using J8.symm);replace hS:=hS.grown hg (by simpa using Ib.symm);have eN:(acc++s.ai[k].Names.take j).map nI++[nI nm]=(acc++s.ai[k].Names.take (j+1)).map nI:=by rw [List.take_succ_eq_append_getElem nQ,Jh];simp
          rw [eN] at Ka;refine Wz ?_;exact ae.again (j+1) ⟨rfl,rfl,rfl,rfl,rfl,rfl,rfl,rfl,rfl,rfl,trivial⟩ (by omega) ⟨by omega,hw,aB,az,Ka,hS,go (fun _=>by simpa using Lp)⟩
         ·rw [D8 (.inr (.inr ⟨GL,by simpa using Lp⟩))];repeat' (first|refine Wz ?_|refine SW.want rfl rfl ?_|refine SW.st (bc (j-1) rfl rfl (by assumption) (by omega) (by omega)) rfl ?_|refine SW.st (aM hw rfl gN) rfl ?_|refine SW.st (aM hw rfl gP) rfl ?_|(refine SW.call rfl rfl (J9 _) ?_;intro v w1 aa hv;subst hv;replace hw:=Ext.trans hw aa;replace aB:=aB.ext aa;replace az:=az.ext aa;replace hN:=hN.ext aa;replace hS:=hS.ext aa;clear aa)|(refine SW.st ((o9 hN Ic rfl rfl).eq (congrArg Value.bool Ie)) rfl ?_)|(refine SW.st ((xv rfl rfl).eq (congrArg Value.bool Lp)) rfl ?_))
          all_goals try omega
          exact ae.aI rfl rfl ⟨_,rfl,hw,rfl⟩
       ·rw [D8 (.inr (.inl rfl))];repeat' (first|refine Wz ?_|refine SW.want rfl rfl ?_|refine SW.st (aM hw rfl gN) rfl ?_|(refine SW.call rfl rfl (J9 _) ?_;intro v w1 aa hv;subst hv;replace hw:=Ext.trans hw aa;replace aB:=aB.ext aa;replace az:=az.ext aa;replace hN:=hN.ext aa;replace hS:=hS.ext aa;clear aa)|(refine SW.st ((o9 hN Ic rfl rfl).eq (congrArg Value.bool Ie)) rfl ?_))
        exact ae.aI rfl rfl ⟨_,rfl,hw,rfl⟩
     ·have MG:rJ (db (s.ai.take k)) s.ai[k].Names:=⟨fun i h=>by rw [FX];exact hJ i h (by omega)⟩
      rw [List.take_of_length_le (by omega)] at hN;refine Wz ?_;clear hJ hj mm D7
      refine CW.loop (fun j:Nat=>[(1,.pointer (some ⟨b1,0,none⟩)),(3,.map (some bN)),(4,.map (some bS)),(30,.slice r.ai.A r.ai.n r.ai.c),(31,.int .i64 (r.ai.n:Int)),(32,.int .i64 (k:Int)),(83,.slice cs[k].aK.A cs[k].aK.n cs[k].aK.c),(84,.int .i64 (cs[k].aK.n:Int)),(85,.int .i64 (j:Int))])
       (fun j w'=>j≤cs[k].aK.n∧Ext w w'∧aT w' b1 44 (bq r)∧kN w' Tryz.prog 9 4 bN ((acc++s.ai[k].Names).map nI)∧kN w' Tryz.prog 3 4 bS ((GY++(s.ai[k].aK.take j).map fun x=>x.At).map rh) ∧
         ∀ (i:Nat) (h:i<s.ai[k].aK.length),i<j→s.ai[k].aK[i].At∉GY++(s.ai[k].aK.take i).map fun x=>x.At) (fun j=>cs[k].aK.n-j) 0
       ⟨rfl,rfl,rfl,rfl,rfl,rfl,rfl,rfl,rfl,trivial⟩ ⟨by omega,hw,aB,hN,by simpa using hS,fun i h h'=>by omega⟩ ?_
      clear hw aB hN hS az;rintro j w' ⟨hj,hw,aB,hN,hS,hJ⟩
      have D7:=kO.bK.base;by_cases mm:j<cs[k].aK.n
      ·have nQ:j<s.ai[k].aK.length:=by omega
       obtain ⟨x,hx⟩ : ∃ x,s.ai[k].aK[j]=x:=⟨_,rfl⟩;have gS:=kO.bK.all mm;rw [hx] at gS;have fx : -9223372036854775808≤x.At∧x.At≤9223372036854775807:=by rw [← hx];exact fS _ (List.getElem_mem nQ)
       repeat' (first|refine Wz ?_|refine SW.st (aN hw rfl rfl gS) rfl ?_)
       refine SW.alloc rfl fun Fk w1 aa qN eA => ?_
       skip;refine SW.ah eA rfl rfl rfl rfl (fu.one (enc:=fH) _) fun w2 kg hg => ?_
       have ao:=aa.own qN hg;have A6:w.heap.size≤Fk:=Nat.le_trans hw.size qN
       replace hw:=Ext.trans hw ao;replace aB:=aB.ext ao;replace hN:=hN.ext ao;replace hS:=hS.ext ao;replace eA:=kg;clear kg aa hg ao;by_cases j3:x.At∈GY++(s.ai[k].aK.take j).map fun x=>x.At
       ·have MH:=decide_eq_true j3
        rw [p7 fun hm=>by
         have:=(hm.each k eV).bK j nQ
         rw [hx,FY] at this;exact this j3]
        repeat' (first|refine Wz ?_|(refine SW.st ((xM hS fx rfl rfl).eq (congrArg Value.bool MH)) rfl ?_))
        exact ae.aI rfl rfl ⟨_,rfl,hw,rfl⟩
       ·have MH:=decide_eq_false j3;repeat' (first|refine Wz ?_|(refine SW.st ((xM hS fx rfl rfl).eq (congrArg Value.bool MH)) rfl ?_))
        refine SW.zJ hS (int_keyed wm) xL mV (by simp only [List.length_map,List.length_append,List.length_take];unfold maxLen;omega) rfl rfl rfl (keyOf_int fx) trivial fun w5 Oc hg => ?_
        replace hw:=hw.own PQ hg;replace aB:=aB.grown hg (by simpa using MB);replace hN:=hN.grown hg (by simpa using Ib);have eN:(GY++(s.ai[k].aK.take j).map fun x=>x.At).map rh++[rh x.At]=(GY++(s.ai[k].aK.take (j+1)).map fun x=>x.At).map rh:=by rw [List.take_succ_eq_append_getElem nQ,hx];simp
        rw [eN] at Oc;refine Wz ?_
        exact ae.again (j+1) ⟨rfl,rfl,rfl,rfl,rfl,rfl,rfl,rfl,rfl,trivial⟩ (by omega) ⟨by omega,hw,aB,hN,Oc,fun i h h'=>by
         by_cases ei:i=j
         ·subst ei;rw [hx];exact j3
         ·exact hJ i h (by omega)⟩
      ·rw [List.take_of_length_le (by omega),← FY,← lX s.ai k eV] at hS;rw [← FX,← lW s.ai k eV] at hN;refine Wz ?_
       exact ae.again (k+1) ⟨rfl,rfl,rfl,rfl,rfl,rfl,trivial⟩ (by omega) ⟨by omega,hw,aB,hN,hS,fun i h h'=>by
        by_cases ei:i=k
        ·subst ei;exact ⟨PS,qW,MG,fun i h=>by rw [FY];exact hJ i h (by omega)⟩
        ·exact hI i h (by omega)⟩
    ·have hF:fA s=false:=p7 fun hm=>by
      obtain ⟨d,hd,he⟩:=List.any_eq_true.1 hy;obtain ⟨j,hj,rfl⟩:=List.mem_take_iff_getElem.1 hd;have e1:=(hc.each.get j (by omega) (by omega)).size;have e2:=kO.size;have:=of_decide_eq_true he
      exact (hm.each k eV).size j (by omega) (by rw [← e1,← e2];exact this)
     rw [hF];repeat' (first|refine Wz ?_|refine SW.want rfl rfl ?_|((first|refine SW.call rfl rfl (cC _ hw) ?_|refine SW.call rfl rfl (cD _ hw az) ?_);intro v w1 aa hv;subst hv;replace hw:=Ext.trans hw aa;replace aB:=aB.ext aa;replace az:=az.ext aa;replace hN:=hN.ext aa;replace hS:=hS.ext aa;clear aa)|(refine SW.st (cG (k:=k) rfl rfl (by omega)) rfl ?_)|(refine SW.st (g9 (vs:=[.pointer (some ⟨b6,0,none⟩)]) rfl) rfl ?_))
     exact ae.aI rfl rfl ⟨_,rfl,hw,rfl⟩
  ·rw [zF ⟨g1,hH,g3,fun i h=>hI i h (by omega)⟩];refine Wz ?_;exact ae.aI rfl rfl ⟨_,rfl,hw,rfl⟩
 ·have hF:fA s=false:=p7 fun hm=>D6 ⟨hm.words,by rw [← hq];exact vT hm.heap,hm.most⟩
  rw [hF];cases q
  all_goals simp only [if_true,Bool.false_eq_true,if_false] at c1
  all_goals simp only [true_and,Bool.false_eq_true,false_and,and_false,not_false_eq_true] at D6
  ·rcases (show s.Words.length≠4096∨s.Words.length=4096 by omega) with g|g
   all_goals
    repeat' (first|refine Wz ?_|refine SW.st (ay rfl rfl ((mP aB))) rfl ?_|(refine SW.call rfl rfl (c1 _ hw) ?_;intro v w1 aa hv;subst hv;replace hw:=Ext.trans hw aa;replace aB:=aB.ext aa;clear aa))
    all_goals try omega
    exact ae.aI rfl rfl ⟨_,rfl,hw,rfl⟩
  ·rcases (show s.Words.length≠4096∨(s.Words.length=4096∧20<s.ai.length) by omega) with g|g
   all_goals
    repeat' (first|refine Wz ?_|refine SW.st (ay rfl rfl ((mP aB))) rfl ?_|(refine SW.call rfl rfl (c1 _ hw) ?_;intro v w1 aa hv;subst hv;replace hw:=Ext.trans hw aa;replace aB:=aB.ext aa;clear aa))
    all_goals try omega
    exact ae.aI rfl rfl ⟨_,rfl,hw,rfl⟩
theorem xN:∀ (n:Nat) (l:List Nat),l.Nodup→(∀ x∈l,x<n)→l.length≤n
 | 0,l,_,h=>by
   cases l with
   | nil=>simp
   | cons a r=>exact absurd (h a (by simp)) (by omega)
 | n+1,l,hd,h=>by
   have h1:=xN n (l.erase n) (hd.erase n) (fun x hx=>by
    have:=hd.mem_erase_iff.1 hx
    have:=h x this.2
    omega)
   have h2:l.length≤(l.erase n).length+1:=by
    rw [List.length_erase];split<;>omega
   omega
theorem B3 {α β:Type} {f : α → β} {l:List α} (hd:l.Nodup) (hf:∀ x∈l,∀ y∈l,f x=f y→x=y) : (l.map f).Nodup:=by
 induction l with
 | nil=>simp
 | cons a r ih =>
   rw [List.nodup_cons] at hd;rw [List.map_cons,List.nodup_cons];refine ⟨fun h => ?_,ih hd.2 fun x hx y hy=>hf x (by simp [hx]) y (by simp [hy])⟩;obtain ⟨b,hb,e⟩:=List.mem_map.1 h;have:=hf b (by simp [hb]) a (by simp) e
   subst this;exact hd.1 hb
theorem lF {α:Type} {acc l:List α} (h:acc.Nodup) : ∀ (j:Nat),(∀ (k:Nat) (hk:k<l.length),k<j→l[k]∉acc++l.take k)→(acc++l.take j).Nodup
 | 0,_=>by simpa using h
 | j+1,hi=>by
   have ih:=lF (l:=l) h j (fun k hk hj=>hi k hk (by omega));by_cases hj:j<l.length
   ·rw [List.take_succ_eq_append_getElem hj,← List.append_assoc,List.nodup_append];refine ⟨ih,by simp,fun a ha b hb e => ?_⟩;simp at hb;subst hb e;exact hi j hj (by omega) ha
   ·rw [List.take_of_length_le (by omega)];rwa [List.take_of_length_le (by omega)] at ih
def wo (b:UInt8) : Nat:=if b.toNat<97 then b.toNat-47 else b.toNat-86
def lY:List UInt8→Nat
 | []=>0
 | b::r=>wo b+37*lY r
theorem pa {b:UInt8} (h:nG b=false) : 1≤wo b∧wo b≤36:=by
 unfold nG at h;simp at h;unfold wo;split<;>omega
theorem D9 {b c:UInt8} (h:nG b=false) (k:nG c=false) (e:wo b=wo c) : b=c:=by
 unfold nG at h k;simp at h k;unfold wo at e;apply UInt8.toNat_inj.1;split at e<;>split at e<;>omega
theorem xO:∀ (l:List UInt8),(∀ b∈l,nG b=false)→lY l<37 ^ l.length
 | [],_=>by simp [lY]
 | b::r,h=>by
   have h1:=pa (h b (by simp));have h2:=xO r (fun x hx=>h x (by simp [hx]));simp only [lY,List.length_cons,Nat.pow_succ];omega
theorem uV:∀ (l m:List UInt8),(∀ b∈l,nG b=false)→(∀ b∈m,nG b=false)→lY l=lY m→l=m
 | [],[],_,_,_=>rfl
 | [],c::t,_,k,e=>by
   have:=pa (k c (by simp))
   simp only [lY] at e;omega
 | b::r,[],h,_,e=>by
   have:=pa (h b (by simp))
   simp only [lY] at e;omega
 | b::r,c::t,h,k,e=>by
   have h1:=pa (h b (by simp));have h2:=pa (k c (by simp));simp only [lY] at e;have e1:wo b=wo c:=by omega
   have e2:lY r=lY t:=by omega
   rw [D9 (h b (by simp)) (k c (by simp)) e1,uV r t (fun x hx=>h x (by simp [hx])) (fun x hx=>k x (by simp [hx])) e2]
theorem qd {s:ByteArray}:eR s=true↔(1≤s.size∧s.size≤8) ∧ ∀ b∈s.data.toList,nG b=false:=by
 unfold eR;rw [Bool.and_eq_true,decide_eq_true_iff,Bool.not_eq_true',List.any_eq_false];constructor
 ·rintro ⟨h,k⟩
  exact ⟨by omega,fun b hb=>by simpa using k b hb⟩
 ·rintro ⟨h,k⟩
  exact ⟨by omega,fun b hb=>by simp [k b hb]⟩
theorem xP {l:List ByteArray} (hd:l.Nodup) (hv:∀ n∈l,eR n=true) : l.length≤3512479453921:=by
 have h:=xN 3512479453921 (l.map fun n=>lY n.data.toList) (B3 hd fun x hx y hy e => ?_) (fun z hz => ?_)
 ·simpa using h
 ·have h1:=uV _ _ (qd.1 (hv x hx)).2 (qd.1 (hv y hy)).2 e;cases x;cases y
  simpa using h1
 ·obtain ⟨n,hn,rfl⟩:=List.mem_map.1 hz;obtain ⟨h1,h2⟩:=qd.1 (hv n hn);have h3:=xO _ h2;have h4:n.data.toList.length≤8:=by rw [Array.length_toList];exact h1.2
  have h5 : 37 ^ n.data.toList.length≤37 ^ 8:=Nat.pow_le_pow_right (by omega) h4
  exact Nat.lt_of_lt_of_le h3 h5
theorem FZ {l:List Block} (h:dW l) {a:Int} (hf:bf l a=true) : 0≤a∧a≤255:=by
 obtain ⟨hm,e⟩:=jM hf;have:=(h.each _ hm).2.1
 omega
theorem o8.at_ {s:ak} {c:aV} {i:Nat} {h:i<c.aK.length} (hm:o8 s c i h) (hH:aW s.Heap) (ho : 0≤c.Order) : bf s.Heap.Live c.aK[i].At=true∧0≤c.aK[i].At∧c.aK[i].At≤255:=by
 have hf:bf s.Heap.Live c.aK[i].At=true:=by
  cases hf:bf s.Heap.Live c.aK[i].At
  ·have:=hm.live
   rw [zD hf] at this;omega
  ·rfl
 exact ⟨hf,FZ hH.live hf⟩
theorem iX.PT {s:ak} {c:aV} (hm:iX s c) (hH:aW s.Heap) : ∀ x∈c.aK,0≤x.At∧x.At≤255:=fun x hx=>by
 obtain ⟨i,hi,rfl⟩:=List.getElem_of_mem hx;exact ((hm.bK i hi).at_ hH (oo hm.lay).2.1.1).2
theorem xQ {s:ak} (hH:aW s.Heap) : ∀ (k:Nat),k≤s.ai.length→(∀ (i:Nat) (h:i<s.ai.length),i<k→nu s i h) →
 ((db (s.ai.take k)).Nodup ∧ ∀ n∈db (s.ai.take k),eR n=true)∧((dv (s.ai.take k)).Nodup ∧ ∀ a∈dv (s.ai.take k),0≤a∧a≤255)
 | 0,_,_=>by simp [db,dv]
 | k+1,hk,hI=>by
   obtain ⟨⟨h1,h2⟩,h3,h4⟩:=xQ hH k (by omega) (fun i h h'=>hI i h (by omega));have hc:=hI k (by omega) (by omega);rw [lW _ _ (by omega),lX _ _ (by omega)];refine ⟨⟨?_,fun n hn => ?_⟩,?_,fun a ha => ?_⟩
   ·have:=lF (l:=(s.ai[k]'(by omega)).Names) h1 (s.ai[k]'(by omega)).Names.length (fun i hi _=>(hc.names.each i hi).2.1)
    rwa [List.take_length] at this
   ·rcases List.mem_append.1 hn with hn|hn
    ·exact h2 n hn
    ·obtain ⟨i,hi,rfl⟩:=List.getElem_of_mem hn;exact (hc.names.each i hi).1
   ·have:=lF (l:=(s.ai[k]'(by omega)).aK.map fun x=>x.At) h3 (s.ai[k]'(by omega)).aK.length (fun i hi _=>by
     have:=hc.bK i (by simpa using hi)
     simpa [List.map_take] using this)
    rwa [← List.map_take,List.take_length] at this
   ·rcases List.mem_append.1 ha with ha|ha
    ·exact h4 a ha
    ·obtain ⟨x,hx,rfl⟩:=List.mem_map.1 ha;exact hc.may.PT hH x hx
end Go.Proofs.YtbidkghlpijecaaGreatDoor
