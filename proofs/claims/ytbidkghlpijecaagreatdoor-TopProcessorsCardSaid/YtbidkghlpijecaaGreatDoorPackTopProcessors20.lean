/-
  Texts of the claim TopProcessors, part 20: what its theorem leans on.
-/
import Derived.Test.YtbidkghlpijecaaGreatDoorPackTopProcessors14
import Derived.Test.YtbidkghlpijecaaGreatDoorPackTopProcessors19
import Derived.Test.YtbidkghlpijecaaGreatDoorPackTopProcessors1
import Derived.Test.YtbidkghlpijecaaGreatDoorPackTopProcessors8
import Derived.Test.YtbidkghlpijecaaGreatDoorPackTopProcessors12
import Derived.Test.YtbidkghlpijecaaGreatDoorPackTopProcessors13
import Derived.Test.YtbidkghlpijecaaGreatDoorPackTopProcessors2
import Derived.Test.YtbidkghlpijecaaGreatDoorPackTopProcessors5
import Derived.Test.YtbidkghlpijecaaGreatDoorPackTopProcessors17
import Derived.Test.YtbidkghlpijecaaGreatDoorPackTopProcessors7
set_option linter.unusedVariables false
set_option linter.unusedSimpArgs false
namespace Go.Proofs.YtbidkghlpijecaaGreatDoor
open Go.RowKit
def zO (n:Int) : Int:=if n≤16 then 0 else if n≤32 then 1 else if n≤64 then 2 else if n≤128 then 3 else 4
inductive fG (s:ag) (cpu n:Int) : ag×Int×Int→Prop where
 | bad (h:en s=false) : fG s cpu n (.zero,0,8)
 | range (h:en s=true) (hn:n<1) : fG s cpu n (.zero,0,1)
 | size (h:en s=true) (hn : 256<n) : fG s cpu n (.zero,0,9)
 | obj {u:ag×Int×Int} (h:en s=true) (hn : 1≤n∧n≤32) (ho:om s (jQ n) cpu u) : fG s cpu n u
 | fault {u:Heap×Int×Int} (h:en s=true) (hn : 32<n∧n≤256) (ha:ct s.Heap cpu (zO n) 0 u) (he:u.2.2≠0) : fG s cpu n (.zero,0,u.2.2)
 | bM {u:Heap×Int×Int} (h:en s=true) (hn : 32<n∧n≤256) (ha:ct s.Heap cpu (zO n) 0 u) (he:u.2.2=0) : fG s cpu n (qE s u.1,16*u.2.1,0)
theorem fG.ir {s:ag} {cpu n:Int} {u v:ag×Int×Int} (x:fG s cpu n u) (y:fG s cpu n v) : u=v:=by
 cases x with
 | bad h=>cases y with
   | bad=>rfl
   | range h'|size h'|obj h'|fault h'|bM h'=>rw [h] at h';cases h'
 | range h hn=>cases y with
   | bad h'=>rw [h] at h';cases h'
   | range=>rfl
   | size _ p7|obj _ p7|fault _ p7|bM _ p7=>omega
 | size h hn=>cases y with
   | bad h'=>rw [h] at h';cases h'
   | size=>rfl
   | range _ p7|obj _ p7|fault _ p7|bM _ p7=>omega
 | obj h hn ho=>cases y with
   | bad h'=>rw [h] at h';cases h'
   | obj _ _ vj=>exact ho.ir vj
   | range _ p7|size _ p7|fault _ p7|bM _ p7=>omega
 | fault h hn ha he=>cases y with
   | bad h'=>rw [h] at h';cases h'
   | fault _ _ iY=>rw [ha.ir iY]
   | bM _ _ iY nZ=>rw [ha.ir iY] at he;exact absurd nZ he
   | range _ p7|size _ p7|obj _ p7=>omega
 | bM h hn ha he=>cases y with
   | bad h'=>rw [h] at h';cases h'
   | bM _ _ iY=>rw [ha.ir iY]
   | fault _ _ iY nZ=>rw [ha.ir iY] at he;exact absurd he nZ
   | range _ p7|size _ p7|obj _ p7=>omega
theorem Ia {n:Int} {j:Nat} (hj:j<6) (h1:∀ m,m<j→kP m<n) (h2:n≤kP j) : jQ n=kh (kP j)∧n≤32:=by
 have a0:=h1 0;have a1:=h1 1;have a2:=h1 2;have a3:=h1 3;have a4:=h1 4;unfold kP at *;rcases (show j=0∨j=1∨j=2∨j=3∨j=4∨j=5 by omega) with rfl|rfl|rfl|rfl|rfl|rfl
 all_goals
  simp only [Nat.reduceLT,forall_const,Int.reducePow,false_implies] at a0 a1 a2 a3 a4 h2;refine ⟨?_,by omega⟩;unfold jQ;repeat' split
  all_goals first|(exfalso;omega)|rfl
theorem FO {n:Int} (h1:∀ m,m<6→kP m<n) : jQ n=⟨#[]⟩∧32<n:=by
 have a5:=h1 5 (by omega);unfold kP at a5;simp only [Int.reducePow] at a5;refine ⟨?_,a5⟩;unfold jQ;repeat' split
 all_goals first|(exfalso;omega)|rfl
theorem MD {n:Int} {j:Nat} (hj:j<5) (h1:∀ m:Nat,m<j→16*pw (m:Int)<n) (h2:n≤16*pw (j:Int)) : zO n=(j:Int)∧n≤256:=by
 have a0:=h1 0;have a1:=h1 1;have a2:=h1 2;have a3:=h1 3;have p0:pw ((0:Nat) : Int)=1:=by decide
 have p1:pw ((1:Nat) : Int)=2:=by decide
 have p2:pw ((2:Nat) : Int)=4:=by decide
 have p3:pw ((3:Nat) : Int)=8:=by decide
 have p4:pw ((4:Nat) : Int)=16:=by decide
 rw [p0] at a0;rw [p1] at a1;rw [p2] at a2;rw [p3] at a3;rcases (show j=0∨j=1∨j=2∨j=3∨j=4 by omega) with rfl|rfl|rfl|rfl|rfl
 all_goals
  first|rw [p0] at h2|rw [p1] at h2|rw [p2] at h2|rw [p3] at h2|rw [p4] at h2
  refine ⟨?_,by omega⟩;unfold zO;repeat' split
  all_goals first|(exfalso;omega)|rfl
theorem JW {n:Int} (h1:∀ m:Nat,m<5→16*pw (m:Int)<n) : 256<n:=by
 have:=h1 4 (by omega)
 rw [show pw ((4:Nat) : Int)=16 by decide] at this;omega
theorem Bx (n:Int) : (jQ n).size≤140737488351232:=by
 unfold jQ;split
 ·decide
 split
 ·decide
 split
 ·decide
 split
 ·decide
 split
 ·decide
 split
 ·decide
 ·decide
structure jy where
 Kind:Int
 fT:Int
 N:Int
 M:Int
 At:Int
 Flags:Int
 Name:ByteArray
open Go.RowKit
theorem lR.aw {w w':World} {lo t:Nat} {r:eQ} {s:ag} (h:lR w lo r s) (hG:r7 w w' t) (bW:(Nat.beq t 3 || (Nat.beq t 165 || (Nat.beq t 139 || (Nat.beq t 142 || (Nat.beq t 89 || (Nat.beq t 9 || Nat.beq t 91))))))=false) : lR w' lo r s:=by
 simp only [Bool.or_eq_false_iff] at bW;obtain ⟨h1,h2,h3,h4,h5,h6,h7⟩:=bW;obtain ⟨cs,hc⟩:=h.bR;exact ⟨h.words.aw hG h1,h.heap.aw hG (by simp [h1,h2,h3,h4]),⟨cs,hc.aw hG (by simp [h1,h5,h6,h7])⟩⟩
open Go.RowKit
noncomputable def mv (h:Heap) : Int×Heap:=if fX h then (match h.bf with | [z0,z1]=>(0,mf h z0 z1)|_=>(8,⟨[],[],0,[],[]⟩)) else (8,⟨[],[],0,[],[]⟩)
theorem By {h:Heap} (hb:fX h=false) : mv h=(8,⟨[],[],0,[],[]⟩):=by simp [mv,hb]
theorem wz {h:Heap} (hb:fX h=true) {z0 z1:ao} (hz:h.bf=[z0,z1]) : mv h=(0,mf h z0 z1):=by simp [mv,hb,hz]
set_option maxHeartbeats 2000000 in
theorem FP (r:gC) (h:Heap) (w:World) (hr:DX w r h) (hs:h.small) (IU:∀ z∈h.bf,eU z) :
 bq Tryz.prog 80 [.agg (cV r).toArray] w (ja w.heap.size (mv h)):=by
 refine aG Tryz.func80 rfl Tryz.ntmps80 rfl ?_;refine CW.seq (CW.region (SW.box rfl rfl fun b1 w1 hw jh aI => ?_));have Hu:=jh;refine SW.alloc rfl fun b2 w2 bF j0 aD => ?_
 have qZ:w.heap.size≤b2:=Nat.le_trans hw.size j0
 have bW:b1≠b2:=by have:=aI.lt;omega
 (replace hw:=Ext.trans hw bF;replace aI:=aI.ext bF);obtain ⟨q,hq⟩ : ∃ q,fX h=q:=⟨_,rfl⟩
 have c1:∀ w',Ext w w'→bq Tryz.prog 88 [.agg (cV r).toArray] w' fun v _=>v = .int .i64 (if q then 0 else 8):=fun w' hx=>by
  have:=nz r h w' (hr.ext hx) hs IU
  rwa [hq] at this
 cases q
 ·simp only [Bool.false_eq_true,if_false] at c1;rw [By hq];repeat' (first|refine Wz ?_|(refine SW.call rfl rfl (c1 _ hw) ?_;intro v w1 ae hv;subst hv;replace hw:=Ext.trans hw ae;replace aI:=aI.ext ae;replace aD:=aD.ext ae;clear ae))
  refine SW.ak aD rfl rfl rfl rfl (dJ .zero) fun w5 bU hg => ?_
  replace hw:=hw.own qZ hg;refine Wz ?_;exact ah.cX rfl rfl rfl bU rfl ⟨_,rfl,hw,ja.zero 8 _ _⟩
 ·simp only [if_true] at c1;have hm:=cG.1 hq;obtain ⟨z0,z1,hd⟩:=AO hm;rw [wz hq hd.cj];repeat' (first|refine Wz ?_|(refine SW.call rfl rfl (c1 _ hw) ?_;intro v w1 ae hv;subst hv;replace hw:=Ext.trans hw ae;replace aI:=aI.ext ae;replace aD:=aD.ext ae;clear ae))
  refine SW.call rfl rfl (kd r h _ (hr.ext hw) hs) fun v w4 eM hv => ?_
  obtain ⟨s,rfl,hO⟩:=hv;replace hO:=hO.low hw.size;(replace hw:=Ext.trans hw eM;replace aI:=aI.ext eM;replace aD:=aD.ext eM);clear c1;obtain ⟨g,c,u0,u1,ls,eZ,hZ,hR⟩:=hO.split hd.cj;have Bl:=hO.cpus;clear hO;obtain ⟨sz,m,cp,li,lv⟩:=s;simp only at eZ hR Bl;subst eZ;refine SW.ak aI rfl rfl rfl rfl (dJ ⟨⟨some ⟨g,0,none⟩,2,c⟩,m,cp,li,lv⟩) fun w5 pO hg => ?_
  have hG:=aI.gr hg;replace hw:=hw.own Hu hg;replace aD:=aD.grown hg (by simpa using Ne.symm bW);replace hZ:=hZ.aw hG rfl;replace hR:=hR.aw hG rfl;replace aI:=pO;clear pO hg hG;refine Wz ?_;have r5:b2≠g:=fun e=>hZ.row.dq aD rfl (by rw [hZ.own,e])
  refine SW.dt rfl rfl (FA h z0 z1 hd hs m cp li lv ls u0 u1 g c b1 w.heap.size w _ hw (Nat.le_refl _) hw.size Hu aI hZ hR) fun v w6 hv => ?_
  obtain ⟨yS,hE,pO,Ul,u2,u3,Ce⟩:=hv;replace aD:=hE.dD aD r5 (Ne.symm bW);clear hw aI hR hZ hE;have hw:=yS;clear yS;refine Wz ?_;refine SW.ak aD rfl rfl rfl rfl (dJ ⟨⟨some ⟨g,0,none⟩,2,c⟩,m,cp,.nil,lv⟩) fun w7 bU hg => ?_
  have hG:=aD.gr hg;replace hw:=hw.own qZ hg;refine Wz ?_;exact ah.cX rfl rfl rfl bU rfl ⟨_,rfl,hw,⟨⟨some ⟨g,0,none⟩,2,c⟩,m,cp,.nil,lv⟩,rfl,(Ul.aw hG rfl).join (Ce.aw hG rfl) Bl⟩
theorem Ex {z:ao} (h:bD z) : z.aj.length*24≤140737488355328∧z.Types.length*8≤140737488355328:=by
 have:=iO h
 exact ⟨Nat.le_trans (Nat.mul_le_mul_right 24 this.1) (by decide),by omega⟩
theorem zP (h:Heap) (hs:h.small) : (mv h).2.small:=by
 cases hq:fX h
 ·rw [By hq];constructor<;>simp
 ·obtain ⟨z0,z1,hd⟩:=AO (cG.1 hq);rw [wz hq hd.cj];have hI:=hd.inv _ (Nat.le_refl _);rw [List.take_length] at hI;refine ⟨by simp [mf],hs.dA,by simp [mf],hs.live,fun z hz => ?_,fun l hl=>by simp [mf] at hl⟩;simp only [mf,List.mem_cons,List.not_mem_nil,or_false] at hz;rcases hz with rfl|rfl
  ·exact Ex hI.kf
  ·exact Ex hI.j3
open Go.RowKit
structure mw where
 Code:Int
 N:Int
 L:List Int
structure Dm where
 Code:Int
 N:Int
 L:gg
def xD (a:jy) : List Value:=[.int .i64 a.Kind,.int .i64 a.fT,.int .i64 a.N,.int .i64 a.M,.int .i64 a.At,.int .i64 a.Flags,.string a.Name]
instance:fP xD 7:=⟨fun _=>rfl,fun r u hu=>by simp [xD] at hu;rcases hu with rfl|rfl|rfl|rfl|rfl|rfl|rfl<;>rfl⟩
def dm (r:Dm) : List Value:=[.int .i64 r.Code,.int .i64 r.N,r.L.v]
instance:fP dm 3:=⟨fun _=>rfl,fun r u hu=>by simp [dm,gg.v] at hu;rcases hu with rfl|rfl|rfl<;>rfl⟩
theorem kr (r:Dm) : ∀ v∈dm r,v.oneCell'=true:=fP.one (enc:=dm) r
theorem OJ (r:jy) : ∀ v∈xD r,v.oneCell'=true:=fP.one (enc:=xD) r
structure eY (s:ag) : Prop where
 dW:s.dW
 may:a9 s
structure mx (w:World) (lo:Nat) (r:Dm) (x:mw) : Prop where
 code:r.Code=x.Code
 n:r.N=x.N
 list:Own w lo 3 1 bK r.L.A r.L.n r.L.c x.L
section
variable {w w':World} {lo lj t:Nat} {r:Dm} {x:mw}
theorem mx.ext (h:mx w lo r x) (hx:Ext w w') : mx w' lo r x:=⟨h.code,h.n,h.list.ext hx⟩
theorem mx.low (h:mx w lo r x) (hl:lj≤lo) : mx w lj r x:=⟨h.code,h.n,h.list.low hl⟩
theorem mx.aw (h:mx w lo r x) (hG:r7 w w' t) (bW:Nat.beq t 3=false) : mx w' lo r x:=⟨h.code,h.n,h.list.aw hG bW⟩
theorem mx.plain (w:World) (lo:Nat) (c n:Int) : mx w lo ⟨c,n,.nil⟩ ⟨c,n,[]⟩:=⟨rfl,rfl,Own.gz _ _ _ _ _ _⟩
end
structure jW (w:World) (lo:Nat) (A:Option Addr) (n c:Nat) (rs:List Dm) (xs:List mw) : Prop where
 row:Own w lo 55 3 dm A n c rs
 each:eK (mx w lo) rs xs
section
variable {w w':World} {lo lj t n c:Nat} {A:Option Addr} {rs:List Dm} {xs:List mw}
theorem jW.ext (h:jW w lo A n c rs xs) (hx:Ext w w') : jW w' lo A n c rs xs:=⟨h.row.ext hx,h.each.mono fun _ _ h=>h.ext hx⟩
theorem jW.low (h:jW w lo A n c rs xs) (hl:lj≤lo) : jW w lj A n c rs xs:=⟨h.row.low hl,h.each.mono fun _ _ h=>h.low hl⟩
theorem jW.aw (h:jW w lo A n c rs xs) (hG:r7 w w' t) (bW:(Nat.beq t 55 || Nat.beq t 3)=false) : jW w' lo A n c rs xs:=by
 simp only [Bool.or_eq_false_iff] at bW;exact ⟨h.row.aw hG bW.1,h.each.mono fun _ _ h=>h.aw hG bW.2⟩
theorem jW.len (h:jW w lo A n c rs xs) : xs.length=n:=by rw [← h.each.len,h.row.len]
end
def uU (e:Int) (s t:ag) : ag:=if e=0 then t else s
inductive Bz (s:ag) (a:jy) : ag×Int→Prop
 | range (h : ¬ (0≤a.At∧a.At<256)) : Bz s a (s,1)
 | no (h : 0≤a.At∧a.At<256) (hw:ca s (a.At*16)=false) : Bz s a (s,4)
 | ok (h : 0≤a.At∧a.At<256) (hw:ca s (a.At*16)=true) (he:(ga s.Heap a.fT a.At).1=0) : Bz s a (qE s (ga s.Heap a.fT a.At).2,0)
 | fault (h : 0≤a.At∧a.At<256) (hw:ca s (a.At*16)=true) (he:(ga s.Heap a.fT a.At).1≠0) : Bz s a (s,(ga s.Heap a.fT a.At).1)
inductive nO (s:ag) (a:jy) : ag×mw→Prop
 | bM {u:Heap×Int×Int} (hk:a.Kind=1) (h:ct s.Heap a.fT a.N a.Flags u) : nO s a (uU u.2.2 s (qE s u.1),⟨u.2.2,u.2.1,[]⟩)
 | BA {u:ag×Int} (hk:a.Kind=2) (h:Bz s a u) : nO s a (uU u.2 s u.1,⟨u.2,0,[]⟩)
 | drain (hk:a.Kind=12) : nO s a (uU (mv s.Heap).1 s (qE s (mv s.Heap).2),⟨(mv s.Heap).1,0,[]⟩)
 | lh {u:ag×Int×Int} (hk:a.Kind=8) (h:fG s a.fT a.N u) : nO s a (uU u.2.2 s u.1,⟨u.2.2,u.2.1,[]⟩)
 | rQ {u:ag×Int} (hk:a.Kind=9) (h:ki s a.fT a.At u) : nO s a (uU u.2 s u.1,⟨u.2,0,[]⟩)
 | rR {u:Int×Int} (hk:a.Kind=10) (h:oZ s a.At u) : nO s a (s,⟨u.2,u.1,[]⟩)
inductive my:ag→List jy→List mw→ag→Prop
 | nil (s:ag) : my s [] [] s
 | snoc {s t:ag} {l:List jy} {xs:List mw} {a:jy} {u:ag×mw} (h:my s l xs t) (hu:nO t a u) : my s (l++[a]) (xs++[u.2]) u.1
theorem my.len {s t:ag} {l:List jy} {xs:List mw} (h:my s l xs t) : xs.length=l.length:=by
 induction h with
 | nil=>rfl
 | snoc h hu ih=>simp [ih]
theorem my.BB {s t:ag} {l:List jy} {a:jy} {xs:List mw} (h:my s (l++[a]) xs t) : ∃ ys m u,my s l ys m∧nO m a u∧xs=ys++[u.2]∧t=u.1:=by
 generalize e:l++[a]=l' at h
 cases h with
 | nil=>simp at e
 | snoc h hu =>
   obtain ⟨rfl,e2⟩:=List.append_inj' e rfl;simp only [List.cons.injEq,and_true] at e2;subst e2;exact ⟨_,_,_,h,hu,rfl,rfl⟩
def s8 (I:ag→Prop) (a:jy) : Prop := ∀ s u,I s→nO s a u→I u.1
def Q3 (lo:Nat) (u:ag×mw) (v:Value) (w:World) : Prop := ∃ q x,v = .tuple #[.agg (ba q).toArray,.agg (dm x).toArray]∧lR w lo q u.1∧mx w lo x u.2
def mj (I:ag→Prop) (a:jy) : Prop := ∀ (r:eQ) (s:ag) (lo:Nat) (w:World),lR w lo r s→lo≤w.heap.size→I s→iK w→nq w →
 bq Tryz.prog 35 [.agg (ba r).toArray,.agg (xD a).toArray] w fun v w' => ∃ u,nO s a u∧Q3 lo u v w'
theorem ah.tQ {P:Program} {fn:Func} {R:Ending→World→Prop} {n:Nat} {L:Env} {w:World} {t t' ty Q4 b b' tb Um m m':Nat} {cs cs':List Value} [c:fj P ty m] [c':fj P Q4 m'] (hr:fn.results = #[.cell t ty,.cell t' Q4]) (hv:get L t=some (.pointer (some ⟨b,0,none⟩))) (M7:get L t'=some (.pointer (some ⟨b',0,none⟩)))
 (hB:aW w b tb cs) (tV:aW w b' Um cs') (hl:Nat.beq cs.length m=true) (IN:Nat.beq cs'.length m'=true) (h:R (.returned (.tuple #[.agg cs.toArray,.agg cs'.toArray])) w) : ah n (bodyPost P fn R) .ret L w :=
 ⟨fun a ha=>⟨ha.defers,_,by simpa using kW.results (rs:=[.cell t ty,.cell t' Q4]) hr (.cell c hv hB (Nat.eq_of_beq_eq_true hl) (.cell c' M7 tV (Nat.eq_of_beq_eq_true IN) .nil)) ha,h⟩⟩
open Go.RowKit
set_option maxHeartbeats 4000000 in
theorem wA (A:Option Addr) (n c lo:Nat) (l:List Slab) (w:World) (hO:Own w lo 91 3 aX A n c l) (i:Nat) (hi:i<n) (hn:n≤1000000000000000000) (gB:lo≤w.heap.size) :
 jw Tryz.prog 189 [.slice A n c,.int .i64 (i:Int),.int .i64 ((i+1:Nat) : Int)] w fun v w'=>v = .slice A (n-1) c∧Own w' lo 91 3 aX A (n-1) c (l.eraseIdx i)∧w.grownBy w' (aM A c):=by
 refine dM Tryz.func189 rfl Tryz.ntmps189 rfl ?_;have hle:=hO.le;have pp:=hO.len;have hA:=hO.sl.base;have Ge:w.grownBy w (aM A c):=World.grownBy.refl _ _
 repeat' (first|refine Wz ?_|(refine SW.st (so (i:=i) (j:=i+1) (k:=n) rfl rfl rfl rfl (by omega) (by omega) (by omega)) rfl ?_))
 all_goals try omega
 have hw:=Ext.refl w;have e0:i+(n-(i+1))=n-1:=by omega
 have el:l.take i++l.drop (i+1)=l.eraseIdx i:=by rw [List.eraseIdx_eq_take_drop_succ]
 refine CW.any 6 mixed (da (by kernel_rfl)) rfl fun w1 ae aJ => ?_
 replace hw:=Ext.trans hw ae;replace hO:=hO.ext ae;clear ae;refine Wa ?_;refine SA.take 2 aJ rfl (by kernel_rfl) (by kernel_rfl) rfl ?_;repeat ((refine SW.st (cS (k:=i) rfl rfl (by omega)) rfl ?_))
 refine SW.ai ?_;refine Wa ?_;refine SA.take 5 aJ rfl (by kernel_rfl) (by kernel_rfl) rfl ?_;repeat ((refine SW.st (aV (k:=i+1) rfl rfl (by omega) (by omega)) rfl ?_))
 refine SW.ai ?_;refine SA.done (by kernel_rfl) ?_;refine SW.vx (hO.pre (i:=i) (by omega)) (hO.sl.drop (i+1) c (by omega) (by omega)) (by omega) rfl rfl rfl fun w2 cJ hg => ?_
 rw [e0,el] at cJ;rw [e0];have EO:=(hw.gr (aM A c));repeat' (first|refine Wz ?_|(refine SW.st (qt (i:=n-1) (j:=n) rfl rfl rfl (by omega) (by omega)) rfl ?_))
 obtain ⟨g,rest,rfl,h1,h2,h3,h4,h5,h6⟩:=cJ.opened (by omega);have m8:((l.eraseIdx i).flatMap aX).length=(n-1)*3:=by rw [aQ,cJ.len]
 refine SW.clear ((n-1)*3) h2 rfl (by rw [List.length_append,m8];omega) (fun h0 => ?_) (by decide) fun w3 cs m7 hB nY => ?_
 ·rw [if_neg (by omega)];simp [ck]
 ·have e7:=dS ((l.eraseIdx i).flatMap aX) (rest.take ((n-(n-1))*3)) (rest.drop ((n-(n-1))*3)) cs (by rw [m7];simp;omega) (o:=(n-1)*3) m8.symm;rw [List.append_assoc (List.flatMap _ _),List.take_append_drop] at e7;rw [e7,List.append_assoc] at hB;have Cn:=Own.closed (l:=l.eraseIdx i) cJ.len hB (by rw [List.length_append,m7];simp;omega) h4 (by omega) h5 h1;rw [← h6] at nY;have xJ:=bH (bH EO hg (.inl rfl)) nY (.inl rfl);refine Wz ?_;exact ah.aY rfl rfl ⟨_,rfl,rfl,Cn,xJ⟩
open Go.RowKit
structure Sh (wb w w':World) (b:Nat) (r:eQ) (H:gC) (s:ag) (i:Nat) (p:Heap×aF) (cs:List dv) : Prop where
 ext:Ext wb w'
 dD:aW w' b 44 (ba ⟨r.Words,H,r.aa⟩)
 sx:SX w' wb.heap.size ⟨r.Words,H,r.aa⟩ (bV s i p) cs
 kp:∀ j x,j≠b→aW w j 44 x→aW w' j 44 x
set_option maxHeartbeats 4000000 in
theorem BC (wb w0:World) (b:Nat) (r:eQ) (s:ag) (cs:List dv) (i k:Nat) (p:Heap×aF) (cpu:Int)
 (hx:Ext wb w0) (hb:aW w0 b 44 (ba r)) (Af:wb.heap.size≤b) (hS:SX w0 wb.heap.size r (bV s i p) cs) (hi:i<s.aa.length) (hn:s.aa.length≤1000000) (hk:k<p.2.ab.length) (h1:JG p.1) (h2:HB p.2) :
 jw Tryz.prog 101 [.pointer (some ⟨b,0,none⟩),.int .i64 (i:Int),.int .i64 (k:Int),.int .i64 cpu] w0 fun v w'=>v = .tuple #[] ∧ ∃ H cs',Sh wb w0 w' b r H s i ((ga p.1 cpu p.2.ab[k].At).2,kw p.2 k) cs':=by
 refine dM Tryz.func101 rfl Tryz.ntmps101 rfl ?_;obtain ⟨e1,e2⟩:=hS.rows;have kO:i<cs.length:=by omega
 have df:i<r.aa.n:=by omega
 have Oy:=hS.row.sl.base;have hC:=hS.get kO hi;have q1:=hC.aH.len;have q2:=h2.small.aH;have oS:k<cs[i].ab.n:=by omega
 have Nd:=hC.aH.sl.base;have lP:=h2.at_ _ (List.getElem_mem hk);obtain ⟨x,Hx⟩ : ∃ x,p.2.ab[k]=x:=⟨_,rfl⟩;have gA:=hC.aH.sl.fw oS (j:=0) (show (aX (p.2.ab[k]'(by omega)))[0]?=some (Value.int .i64 x.At) by rw [Hx];rfl);rw [Hx] at lP ⊢;have hw:=Ext.refl w0;have tN:∀ j x,j≠b→aW w0 j 44 x→aW w0 j 44 x:=fun _ _ _ h=>h
 refine Wz ?_;refine CW.iL 20 20 (fun _=>True) mixed (by kernel_rfl) fun w1 ae aJ => ?_
 replace hw:=Ext.trans hw ae;replace hb:=hb.ext ae;replace hS:=hS.ext ae;clear ae;refine Wf ?_;refine SF.take 4 [] [] aJ rfl (by kernel_rfl) (by kernel_rfl) (by kernel_rfl) ?_;repeat ((show SW _ _ _ _ (⟨_,Op.load _ _,_,_,_,none⟩::_) _ _;refine SW.st (aB rfl rfl ((mq hb))) rfl ?_))
 refine SW.ai ?_;refine Wf ?_;refine SF.take 9 [] [] aJ rfl (by kernel_rfl) (by kernel_rfl) (by kernel_rfl) ?_;repeat ((show SW _ _ _ _ (⟨_,Op.load _ _,_,_,_,none⟩::_) _ _;refine SW.st (aq rfl (hS.row.sl.fw df (j:=4) (u := .slice cs[i].ab.A cs[i].ab.n cs[i].ab.c) rfl)) rfl ?_))
 refine SW.ai ?_;refine Wf ?_;refine SF.take 13 [] [] aJ rfl (by kernel_rfl) (by kernel_rfl) (by kernel_rfl) ?_;repeat ((show SW _ _ _ _ (⟨_,Op.load _ _,_,_,_,none⟩::_) _ _;refine SW.st (aT hw rfl gA) rfl ?_))
 refine SW.ai ?_;refine SF.one 14 rfl (by kernel_rfl) rfl ?_;refine SW.call rfl rfl (Bk r.Heap p.1 cpu x.At _ hS.heap.rd h1.small h1.uJ lP) fun v w4 ap hv => ?_
 obtain ⟨H,rfl,hH⟩:=hv;replace hH:=hH.low (Nat.le_trans hx.size hw.size);(replace hw:=Ext.trans hw ap;replace hb:=hb.ext ap;replace hS:=hS.ext ap);refine SW.nil (ah.sf ap ?_);refine Wf ?_;refine SF.xI 17 aJ rfl (by kernel_rfl) (by kernel_rfl) rfl (fun _=>bo rfl) rfl ?_;refine Wf ?_;refine SF.last rfl (by kernel_rfl) (by kernel_rfl) ?_;refine SW.ko 1 hb rfl rfl rfl (Nat.le_of_ble_eq_true rfl) (dJ H) (ba ⟨r.Words,H,r.aa⟩) rfl fun w5 bC hg => ?_
 have hG:=hb.gr hg;replace hx:=(hx.trans hw).own Af hg;have Q5:∀ j x,j≠b→aW w0 j 44 x→aW w5 j 44 x:=fun j x hj h=>(h.ext hw).grown hg (by simpa using hj)
 have Q6:SX w5 wb.heap.size ⟨r.Words,H,r.aa⟩ (bV s i ((ga p.1 cpu x.At).2,p.2)) cs:=(hS.aw hG rfl).Me (hH.aw hG rfl)
 clear hw tN hS hb hC gA;have hw:=Ext.refl w5;have hC:=Q6.get kO hi;repeat' (first|refine Wz ?_|refine SW.st (aq rfl (Q6.row.sl.fw df (j:=4) (u := .slice cs[i].ab.A cs[i].ab.n cs[i].ab.c) rfl)) rfl ?_)
 refine SW.dt rfl rfl (wA _ _ _ wb.heap.size _ _ hC.aH k oS (by omega) hx.size) fun v w6 hv => ?_
 obtain ⟨rfl,Un,qT⟩:=hv;have sO:=hC.aH.gr qT;have Sj:=Q6.zH kO hi Un qT;have aA:=bC.aw sO rfl;replace hx:=aO hx qT (Nat.le_refl _) hC.aH.bc;have Q7:∀ j x,j≠b→aW w0 j 44 x→aW w6 j 44 x:=fun j x hj h=>(Q5 j x hj h).aw sO rfl
 have dN:=Sj.row;refine Wz ?_;refine SW.fH i 4 ⟨cs[i].Names,cs[i].aE,cs[i].bG,cs[i].Order,⟨cs[i].ab.A,cs[i].ab.n-1,cs[i].ab.c⟩,cs[i].ar⟩ dN rfl rfl rfl df (by decide) rfl rfl fun w7 gp Mo => ?_
 have s9:=dN.gr Mo;have Uo:=Sj.wg gp Mo;replace hx:=aO hx Mo (Nat.le_refl _) dN.bc;refine Wz ?_;exact ah.vB rfl ⟨_,rfl,rfl,H,_,hx,aA.aw s9 rfl,Uo,fun j x hj h=>(Q7 j x hj h).aw s9 rfl⟩
open Go.RowKit
open Go.RowKit
theorem BD (u:dv) (c:aF) (x:Slab) (w:World) (hr:CF w u c) (hn:u.ar.n≤9223372036854775807) :
 bq Tryz.prog 100 [.agg (eA u).toArray,.agg (aX x).toArray] w fun v _=>v = .bool (kZ c x):=by
 refine aG Tryz.func100 rfl Tryz.ntmps100 rfl ?_;refine CW.seq (CW.region (SW.box rfl rfl fun b2 w1 hw j0 aD => ?_));refine SW.box rfl rfl fun b3 w3 jA bQ ax => ?_
 (replace hw:=Ext.trans hw jA;replace aD:=aD.ext jA);obtain ⟨q,hq⟩ : ∃ q,decide (x.At∈c.ar)=q:=⟨_,rfl⟩
 have cC:∀ w',Ext w w'→bq Tryz.prog 95 [.slice u.ar.A u.ar.n u.ar.c,.int .i64 x.At] w' fun v _=>v = .bool q:=fun w' hx=>by
  have:=fi _ _ u.ar.c _ x.At _ (hr.a8.ext hx) hn
  rwa [hq] at this
 have zN:=hr.g7;by_cases hf:x.aj=c.bG
 ·repeat' (first|refine Wz ?_|(refine SW.call rfl rfl (cC _ hw) ?_;intro v w1 ae hv;subst hv;replace hw:=Ext.trans hw ae;replace aD:=aD.ext ae;replace ax:=ax.ext ae;clear ae))
  all_goals try omega
  exact ah.aY rfl rfl ⟨_,rfl,hw,by unfold kZ;rw [hq,decide_eq_true hf];simp⟩
 ·refine Wz ?_;all_goals try omega
  exact ah.aY rfl rfl ⟨_,rfl,hw,by unfold kZ;rw [decide_eq_false hf];simp⟩
theorem pS.JX {w w':World} {lo:Nat} {r:eQ} {s:ag} {cs:List dv} {i:Nat} {p:Heap×aF} {l':List Slab} (h:SX w lo r (bV s i p) cs) (hi:i<cs.length) (r6:i<s.aa.length) (hO:Own w' lo 91 3 aX cs[i].ab.A cs[i].ab.n cs[i].ab.c l') (hg:w.grownBy w' (aM cs[i].ab.A cs[i].ab.c)) :
 SX w' lo r (bV s i (p.1,⟨p.2.Names,p.2.aE,p.2.bG,p.2.Order,l',p.2.ar⟩)) cs:=by
 have:=h.zH hi r6 hO hg
 have e:cs.set i ⟨cs[i].Names,cs[i].aE,cs[i].bG,cs[i].Order,⟨cs[i].ab.A,cs[i].ab.n,cs[i].ab.c⟩,cs[i].ar⟩=cs:=List.set_getElem_self hi
 rwa [e] at this
theorem BE {α:Type} (p : α → Bool) (l:List α) (k:Nat) (hk:k<l.length) : (l.take (k+1)).countP p=(l.take k).countP p+(if p l[k] then 1 else 0):=by
 rw [List.take_succ_eq_append_getElem hk,List.countP_append,List.countP_singleton]
theorem JY {s:ag} {c:aF} {k:Nat} {x:Slab} {cpu a:Int} (h:kZ (fu c k x a) ⟨x.At,x.aj+1,a⟩=false) : qD s c k x cpu a=(s.Heap,fu c k x a):=by unfold qD;rw [h];simp
theorem Ib {s:ag} {c:aF} {k:Nat} {x:Slab} {cpu a:Int} (h : ¬ 1<(fu c k x a).ab.countP (kZ (fu c k x a))) : qD s c k x cpu a=(s.Heap,fu c k x a):=by unfold qD;rw [decide_eq_false h];simp
theorem Ic {s:ag} {c:aF} {k:Nat} {x:Slab} {cpu a:Int} (h:kZ (fu c k x a) ⟨x.At,x.aj+1,a⟩=true) (h1 : 1<(fu c k x a).ab.countP (kZ (fu c k x a))) : qD s c k x cpu a=((ga s.Heap cpu x.At).2,kw (fu c k x a) k):=by unfold qD;rw [h,decide_eq_true h1];simp
set_option maxHeartbeats 8000000 in
theorem zQ (r:eQ) (s:ag) (n:ByteArray) (cpu a:Int) (w:World) (hr:Ab w r s) (hf:s.dW) (Ng:n.size≤140737488351232) (ha : -9223372036854775808≤a∧a≤9223372036854775807) :
 bq Tryz.prog 44 [.agg (ba r).toArray,.string n,.int .i64 cpu,.int .i64 a] w fun v w' => ∃ u,rG s n cpu a u∧gE w.heap.size u v w':=by
 refine aG Tryz.func44 rfl Tryz.ntmps44 rfl ?_;refine CW.seq (CW.region (SW.box rfl rfl fun b4 w1 hw jF bd => ?_));refine SW.alloc rfl fun b8 w3 jA zM bA => ?_
 have kn:w.heap.size≤b8:=Nat.le_trans hw.size zM
 have bW:b8≠b4:=by have:=bd.lt;omega
 (replace hw:=Ext.trans hw jA;replace bd:=bd.ext jA);refine Wz ?_;refine SW.call rfl rfl (Ev r s n cpu _ (hr.ext hw) hf Ng) fun v w4 ap hv => ?_
 have qO:=hw.size;(replace hw:=Ext.trans hw ap;replace bd:=bd.ext ap;replace bA:=bA.ext ap);rcases hv with ⟨he,rfl⟩|⟨he,q,cs,rfl,hO,hI⟩
 ·obtain ⟨e,hE⟩ : ∃ e,lJ s n cpu=e:=⟨_,rfl⟩;have hP:=rG.ask (a:=a) he;rw [hE] at he hP;rw [hE];refine Wz ?_;refine SW.ak bd rfl rfl rfl rfl (bt .zero) fun w5 dZ hg => ?_
  replace bA:=bA.grown hg (by simpa using bW);replace hw:=hw.own jF hg;refine Wz ?_;all_goals try omega
  refine SW.ak bA rfl rfl rfl rfl (bt .zero) fun w6 bU hg => ?_
  replace hw:=hw.own kn hg;refine Wz ?_;exact ah.cX rfl rfl rfl bU rfl ⟨_,rfl,hw,_,hP,gE.zero e _ _⟩
 ·replace hO:=hO.low qO;replace hI:=hI.low qO;obtain ⟨ix,uF⟩ : ∃ ix,idxOf (gD n) s.aa=ix:=⟨_,rfl⟩;rw [uF];refine Wz ?_;refine SW.ak bd rfl rfl rfl rfl (bt q) fun w5 dZ hg => ?_
  have hG:=bd.gr hg;replace bA:=bA.grown hg (by simpa using bW);replace hw:=hw.own jF hg;(replace hO:=hO.aw hG rfl;replace hI:=hI.aw hG rfl);replace bd:=dZ;clear dZ hG hg;refine Wz ?_;refine SW.call rfl rfl (we q s a _ hO.Bi.rd hf ha) fun v w6 ap hv => ?_
  obtain ⟨⟨j,k,e⟩,hF,rfl⟩:=hv;(replace hw:=Ext.trans hw ap;replace bd:=bd.ext ap;replace bA:=bA.ext ap;replace hO:=hO.ext ap;replace hI:=hI.ext ap);simp only [Bg];by_cases hh:e=0∧j=ix
  ·obtain ⟨rfl,rfl⟩:=hh;have Up:=hF;obtain ⟨i,k',rfl,rfl,hq,hA,NP⟩:=hF.Og;have hi:=hA.hi;have hk:=hA.hk;have hM:=ie.1 hq;have lP:=Mf hM hA;have hP:=rG.put he Up uF hi hk;have hm:=hM.most;obtain ⟨an,rfl⟩:=Int.eq_ofNat_of_zero_le lP.1;have NT:=hM.words;have e0:=nI hi;have h1:=hf.jv;have h2:=hf.Pr hi;obtain ⟨x,hx⟩ : ∃ x,s.aa[i].ab[k']=x:=⟨_,rfl⟩;have lN:=h2.put hk (an:Int);rw [hx] at NP hP lN;have n7:=hO;have Oz:=hO.words.len;obtain ⟨e1,e2⟩:=hO.len;have kO:i<cs.length:=by omega
   have df:i<q.aa.n:=by omega
   have Oy:=hO.row.sl.base;have Uh:=hO.words.sl.base;have hC:=hO.each.get i kO hi;have q1:=hC.aH.len;have q2:=h2.small.aH;have q3:=hC.a8.len;have q4:=h2.small.a8;have oS:k'<cs[i].ab.n:=by omega
   have Nd:=hC.aH.sl.base;have gX:∀ w',SX w' w.heap.size q s cs→w'.cell? ((((cs[i].ab.A).getD default).add (k'*3)).add 2)=some (Value.int .i64 x.cr):=fun w' h=>(h.each.get i kO hi).aH.sl.fw oS (j:=2) (show (aX (s.aa[i].ab[k']'(by omega)))[2]?=some (Value.int .i64 x.cr) by rw [hx];rfl)
   repeat' (first|refine Wz ?_|refine SW.st (aq rfl (hO.row.sl.fw df (j:=4) (u := .slice cs[i].ab.A cs[i].ab.n cs[i].ab.c) rfl)) rfl ?_)
   refine CW.iL 8 8 (fun _=>True) mixed (by kernel_rfl) fun w1 ae aJ => ?_
   replace hw:=Ext.trans hw ae;replace bd:=bd.ext ae;replace bA:=bA.ext ae;replace hO:=hO.ext ae;replace hI:=hI.ext ae;clear ae;refine Wf ?_;refine SF.take 6 [] [] aJ rfl (by kernel_rfl) (by kernel_rfl) (by kernel_rfl) ?_;repeat ((show SW _ _ _ _ (⟨_,Op.load _ _,_,_,_,none⟩::_) _ _;refine SW.st (aq rfl (gX _ hO)) rfl ?_))
   refine SW.ai ?_;refine Wf ?_;refine SF.last rfl (by kernel_rfl) (by kernel_rfl) ?_;refine SW.oB an hO.words rfl rfl (by omega) fun w7 KL hg => ?_
   have hG:=hO.words.gr hg;have hS:=hO.Hs hI KL hg;replace hw:=aO hw hg (Nat.le_refl _) hO.words.bc;(replace bd:=bd.aw hG rfl;replace bA:=bA.aw hG rfl);obtain ⟨s1,iF⟩ : ∃ s1:ag,C7 s x (an:Int)=s1:=⟨_,rfl⟩;have e4:(⟨s.Words.set an x.cr,s.Heap,s.aa⟩ : ag)=s1:=by rw [← iF];simp [C7]
   rw [e4] at hS;have ME:s1.aa=s.aa:=by rw [← e4]
   have Q8:s1.Heap=s.Heap:=by rw [← e4]
   have JZ:i<s1.aa.length:=by rw [ME];exact hi
   have xf:s1.aa[i]=s.aa[i]:=by simp [ME]
   have e5:=nI JZ;rw [xf,Q8] at e5;rw [← e5] at hS;replace hC:=hS.get kO JZ;simp only at hC;refine Wz ?_;refine SW.fH k' 2 ⟨x.At,x.aj,(an:Int)⟩ hC.aH rfl rfl rfl oS (by decide) rfl (by simp only [hx];rfl) fun w8 Nh Mp => ?_
   have g8:=Nh.sl.fw oS (j:=1) (show (aX ((s.aa[i].ab.set k' ⟨x.At,x.aj,(an:Int)⟩)[k']'(by rw [List.length_set];exact hk)))[1]?=some (Value.int .i64 x.aj) by rw [List.getElem_set_self];rfl);repeat' (first|refine Wz ?_|refine SW.st (aq rfl g8) rfl ?_)
   refine SW.fH k' 1 ⟨x.At,x.aj+1,(an:Int)⟩ Nh rfl rfl rfl oS (by decide) rfl (by simp only [List.getElem_set_self];rfl) fun w9 Ni Pw => ?_
   have xJ:=bH Mp Pw (.inl rfl);rw [List.set_set] at Ni;have KN:=hC.aH.gr xJ;have mS:=hS.JX kO JZ Ni xJ;replace hw:=aO hw xJ (Nat.le_refl _) hC.aH.bc;(replace bd:=bd.aw KN rfl;replace bA:=bA.aw KN rfl);obtain ⟨c1,J0⟩ : ∃ c1,fu s.aa[i] k' x (an:Int)=c1:=⟨_,rfl⟩;have e6:(⟨s.aa[i].Names,s.aa[i].aE,s.aa[i].bG,s.aa[i].Order,s.aa[i].ab.set k' ⟨x.At,x.aj+1,(an:Int)⟩,s.aa[i].ar⟩ : aF)=c1:=J0
   simp only at mS;rw [e6] at mS;have xS:c1.ab=s.aa[i].ab.set k' ⟨x.At,x.aj+1,(an:Int)⟩:=by rw [← e6]
   have Cb:k'<c1.ab.length:=by rw [xS,List.length_set];exact hk
   have Hx:c1.ab[k']=⟨x.At,x.aj+1,(an:Int)⟩:=by simp [xS]
   have xo:c1.ab.length=cs[i].ab.n:=by rw [xS,List.length_set];exact hC.aH.len
   rw [J0] at lN;clear hC hS Nh Ni Mp Pw xJ hO hI n7 KL gX g8 hg hG KN e6;have hC:=mS.get kO JZ;have Nd:=hC.aH.sl.base;simp only at hC;obtain ⟨t,ht⟩ : ∃ t,kZ c1 ⟨x.At,x.aj+1,(an:Int)⟩=t:=⟨_,rfl⟩
   have cI:∀ w',Ext w9 w'→bq Tryz.prog 100 [.agg (eA cs[i]).toArray,.agg (aX ⟨x.At,x.aj+1,(an:Int)⟩).toArray] w' fun v _=>v = .bool t:=fun w' hx=>by
    have:=BD cs[i] c1 ⟨x.At,x.aj+1,(an:Int)⟩ w' (hC.rd.ext hx) (by omega)
    rwa [ht] at this
   have gk:∀ (w':World),mJ w' w.heap.size cs[i] c1 → ∀ j v,(aX ⟨x.At,x.aj+1,(an:Int)⟩)[j]?=some v→w'.cell? (((cs[i].ab.A.getD default).add (k'*3)).add j)=some v:=fun w' h j v hv=>by
    refine h.aH.sl.all oS j v ?_;rw [Hx];exact hv
   have Gk:=hw;replace hw:=Ext.refl w9;cases t
   ·have OK:=JY (s:=s) (cpu:=cpu) (c:=s.aa[i]) (k:=k') (x:=x) (a:=(an:Int)) (by rw [J0];exact ht);rw [J0] at OK;rw [OK,iF] at hP;repeat' (first|refine Wz ?_|((apply CW.bl mixed;(· kernel_rfl);rotate_left;intro w1 ae;replace hw:=Ext.trans hw ae;replace bd:=bd.ext ae;replace bA:=bA.ext ae;replace mS:=mS.ext ae;clear ae;rotate_right))|refine SW.st (aB rfl rfl ((mS.row.sl.all df))) rfl ?_|refine SW.st (aB rfl rfl ((gk _ (mS.get kO JZ)))) rfl ?_|refine SW.cx rfl rfl (fun w1 ae=>(cI _ (Ext.trans hw ae))) ?_|exact SW.dF rfl)
    replace hw:=Ext.trans Gk hw;refine SW.ak bA rfl rfl rfl rfl (bt q) fun xh bU hg => ?_
    have hG:=bA.gr hg;replace hw:=hw.own kn hg;replace mS:=mS.aw hG rfl;refine Wz ?_;exact ah.cX rfl rfl rfl bU rfl ⟨_,rfl,hw,_,hP,⟨_,rfl,mS.Bi⟩⟩
   ·repeat' (first|refine Wz ?_|((apply CW.bl mixed;(· kernel_rfl);rotate_left;intro w1 ae;replace hw:=Ext.trans hw ae;replace bd:=bd.ext ae;replace bA:=bA.ext ae;replace mS:=mS.ext ae;clear ae;rotate_right))|refine SW.st (aB rfl rfl ((mS.row.sl.all df))) rfl ?_|refine SW.st (aB rfl rfl ((gk _ (mS.get kO JZ)))) rfl ?_|refine SW.st (aq rfl (mS.row.sl.fw df (j:=4) (u := .slice cs[i].ab.A cs[i].ab.n cs[i].ab.c) rfl)) rfl ?_|refine SW.cx rfl rfl (fun w1 ae=>(cI _ (Ext.trans hw ae))) ?_|exact SW.dF rfl)
    replace hw:=Ext.trans Gk hw;clear cI hC Gk
    refine CW.loop (fun t:Nat×Nat=>[(2,.int .i64 cpu),(4,.pointer (some ⟨b4,0,none⟩)),(8,.pointer (some ⟨b8,0,none⟩)),(10,.int .i64 (i:Int)),(13,.int .i64 (k':Int)),(14,.pointer (some ((q.aa.A.getD default).add (i*6)))),(16,.int .i64 (t.2:Int)),(85,.slice cs[i].ab.A cs[i].ab.n cs[i].ab.c),(86,.int .i64 (cs[i].ab.n:Int)),(87,.int .i64 (t.1:Int))])
     (fun t w'=>t.1≤cs[i].ab.n∧t.2=(c1.ab.take t.1).countP (kZ c1)∧Ext w w'∧aW w' b4 44 (ba q)∧aW w' b8 44 (ba .zero)∧SX w' w.heap.size q (bV s1 i (s.Heap,c1)) cs) (fun t=>cs[i].ab.n-t.1) (0,0)
     ⟨rfl,rfl,rfl,rfl,rfl,rfl,rfl,rfl,rfl,rfl,trivial⟩ ⟨by omega,by simp,hw,bd,bA,mS⟩ ?_
    clear hw bd bA mS;rintro ⟨j,m⟩ rN ⟨hj,hm,hw,bd,bA,mS⟩
    simp only at hj hm ⊢;have hC:=mS.get kO JZ;simp only at hC
    have P7:m≤j:=by
     rw [hm];exact Nat.le_trans List.countP_le_length (by rw [List.length_take];omega)
    by_cases nd:j<cs[i].ab.n
    ·have pq:j<c1.ab.length:=by omega
     obtain ⟨y,hy⟩ : ∃ y,c1.ab[j]=y:=⟨_,rfl⟩;have gy:=hC.aH.sl.all nd;rw [show c1.ab[j]'(hC.aH.sl.lt nd)=y from hy] at gy;obtain ⟨t2,NG⟩ : ∃ t2,kZ c1 y=t2:=⟨_,rfl⟩;have qa:=BE (kZ c1) c1.ab j pq;rw [hy,NG,← hm] at qa;clear hC;repeat' (first|refine Wz ?_|refine SW.st (aB rfl rfl gy) rfl ?_)
     refine SW.alloc rfl fun Uq w1 ae KO FQ => ?_
     skip;refine SW.ak FQ rfl rfl rfl rfl (fP.one (enc:=aX) y) fun w2 KP hg => ?_
     have ap:=ae.own KO hg;have Sk:w.heap.size≤Uq:=Nat.le_trans hw.size KO
     replace hw:=Ext.trans hw ap;replace bd:=bd.ext ap;replace bA:=bA.ext ap;replace mS:=mS.ext ap;replace FQ:=KP;clear KP ae hg ap;clear gy;have hC:=mS.get kO JZ;simp only at hC
     have cI:∀ w',Ext w2 w'→bq Tryz.prog 100 [.agg (eA cs[i]).toArray,.agg (aX y).toArray] w' fun v _=>v = .bool t2:=fun w' hx=>by
      have:=BD cs[i] c1 y w' (hC.rd.ext hx) (by omega)
      rwa [NG] at this
     have Gk:=hw;replace hw:=Ext.refl w2;cases t2
     ·repeat' (first|refine Wz ?_|((apply CW.bl mixed;(· kernel_rfl);rotate_left;intro w1 ae;replace hw:=Ext.trans hw ae;replace bd:=bd.ext ae;replace bA:=bA.ext ae;replace FQ:=FQ.ext ae;replace mS:=mS.ext ae;clear ae;rotate_right))|refine SW.st (aB rfl rfl ((mS.row.sl.all df))) rfl ?_|refine SW.cx rfl rfl (fun w1 ae=>(cI _ (Ext.trans hw ae))) ?_|exact SW.dF rfl)
      replace hw:=Ext.trans Gk hw;exact ah.again (j+1,m) ⟨rfl,rfl,rfl,rfl,rfl,rfl,rfl,rfl,rfl,rfl,trivial⟩ (by simp only;omega) ⟨by simp only;omega,by rw [qa];simp,hw,bd,bA,mS⟩
     ·repeat' (first|refine Wz ?_|((apply CW.bl mixed;(· kernel_rfl);rotate_left;intro w1 ae;replace hw:=Ext.trans hw ae;replace bd:=bd.ext ae;replace bA:=bA.ext ae;replace FQ:=FQ.ext ae;replace mS:=mS.ext ae;clear ae;rotate_right))|refine SW.st (aB rfl rfl ((mS.row.sl.all df))) rfl ?_|refine SW.cx rfl rfl (fun w1 ae=>(cI _ (Ext.trans hw ae))) ?_|exact SW.dF rfl)
      replace hw:=Ext.trans Gk hw;exact ah.again (j+1,m+1) ⟨rfl,rfl,rfl,rfl,rfl,rfl,rfl,rfl,rfl,rfl,trivial⟩ (by simp only;omega) ⟨by simp only;omega,by rw [qa];simp,hw,bd,bA,mS⟩
    ·obtain rfl:j=cs[i].ab.n:=by omega
     rw [List.take_of_length_le (by omega)] at hm;clear hC;by_cases Cd : 1<m
     ·have Sm:=Ic (s:=s) (cpu:=cpu) (c:=s.aa[i]) (k:=k') (x:=x) (a:=(an:Int)) (by rw [J0];exact ht) (by rw [J0,← hm];exact Cd);rw [J0] at Sm;rw [Sm,iF] at hP;clear gk;refine Wz ?_;refine SW.dt rfl rfl (BC w _ b4 q s1 cs i k' (s.Heap,c1) cpu hw bd jF mS JZ (by rw [ME];omega) Cb h1 lN) fun v xA hv => ?_
      obtain ⟨rfl,H,VJ,hh⟩:=hv;simp only [Hx] at hh;replace hw:=hh.ext;replace bA:=hh.kp _ _ bW bA;have hb:=hh.dD;have mS:=hh.sx;refine Wz ?_;refine SW.ak bA rfl rfl rfl rfl (bt ⟨q.Words,H,q.aa⟩) fun xh bU hg => ?_
      have hG:=bA.gr hg;replace hw:=hw.own kn hg;replace mS:=mS.aw hG rfl;refine Wz ?_;exact ah.cX rfl rfl rfl bU rfl ⟨_,rfl,hw,_,hP,⟨_,rfl,mS.Bi⟩⟩
     ·have OK:=Ib (s:=s) (cpu:=cpu) (c:=s.aa[i]) (k:=k') (x:=x) (a:=(an:Int)) (by rw [J0,← hm];exact Cd);rw [J0] at OK;rw [OK,iF] at hP;refine Wz ?_;refine SW.ak bA rfl rfl rfl rfl (bt q) fun xh bU hg => ?_
      have hG:=bA.gr hg;replace hw:=hw.own kn hg;replace mS:=mS.aw hG rfl;refine Wz ?_;exact ah.cX rfl rfl rfl bU rfl ⟨_,rfl,hw,_,hP,⟨_,rfl,mS.Bi⟩⟩
  ·have hP:=rG.none (n:=n) (cpu:=cpu) he hF (by rw [uF];exact hh)
   rcases (show e≠0∨(e=0∧j≠ix) by
    by_cases e0:e=0
    ·exact .inr ⟨e0,fun e1=>hh ⟨e0,e1⟩⟩
    ·exact .inl e0) with g|⟨g,g2⟩
   all_goals
    refine Wz ?_;all_goals try omega
    refine SW.ak bA rfl rfl rfl rfl (bt .zero) fun w7 bU hg => ?_
    replace hw:=hw.own kn hg;refine Wz ?_;exact ah.cX rfl rfl rfl bU rfl ⟨_,rfl,hw,_,hP,gE.zero 4 _ _⟩
open Go.RowKit
open Go.RowKit
theorem MF {s:ag} {a u1 u2 u3:Int} (hu:eg s a (u1,u2,u3)) (hq:en s=true) :
 (∃ i:Nat,u1=(i:Int)∧u3=0 ∧ ∃ hi:i<s.aa.length,oV s.aa[i]=true∧ol s a (some i)) ∨
 (ol s a none∧(u3=4 ∨ ∃ i:Nat,u1=(i:Int)∧u3=0 ∧ ∃ hi:i<s.aa.length,oV s.aa[i]=false)):=by
 by_cases h0:u3=0
 ·obtain ⟨i,hi,L4⟩:=hu.Hq h0;simp only at L4;subst h0 L4;cases Gi:oV s.aa[i]
  ·exact .inr ⟨.no hu fun i2 L5 _ e=>by
    have e:i=i2:=by simp only at e;omega
    subst e;exact Gi,.inr ⟨i,rfl,rfl,hi,Gi⟩⟩
  ·exact .inl ⟨i,rfl,rfl,hi,Gi,.yes hu hi Gi⟩
 ·exact .inr ⟨.no hu fun i hi h=>absurd h h0,.inl ((hu.code hq).resolve_left h0)⟩
set_option maxHeartbeats 4000000 in
theorem FR (r:eQ) (s:ag) (cpu a:Int) (w:World) (hr:Ab w r s) (hf:s.dW) (ha : -9223372036854775808≤a∧a≤9223372036854775807) (hS:iK w) :
 bq Tryz.prog 21 [.agg (ba r).toArray,.int .i64 cpu,.int .i64 a] w fun v w' => ∃ u,ki s cpu a u∧gE w.heap.size u v w':=by
 refine aG Tryz.func21 rfl Tryz.ntmps21 rfl ?_;refine CW.seq (CW.region (SW.box rfl rfl fun b3 w1 hw bQ ax => ?_));refine SW.alloc rfl fun b6 w2 bF eu aA => ?_
 have dl:w.heap.size≤b6:=Nat.le_trans hw.size eu
 have bW:b6≠b3:=by have:=ax.lt;omega
 (replace hw:=Ext.trans hw bF;replace ax:=ax.ext bF);have hs:=hf.small;obtain ⟨q,hq⟩ : ∃ q,en s=q:=⟨_,rfl⟩
 have c1:∀ w',Ext w w'→bq Tryz.prog 41 [.agg (ba r).toArray] w' fun v _=>v = .int .i64 (if q then 0 else 8):=fun w' hx=>by
  have:=kg r s w' (hr.ext hx) hf
  rwa [hq] at this
 cases q
 ·simp only [Bool.false_eq_true,if_false] at c1;repeat' (first|refine Wz ?_|(refine SW.call rfl rfl (c1 _ hw) ?_;intro v w1 ae hv;subst hv;replace hw:=Ext.trans hw ae;replace ax:=ax.ext ae;replace aA:=aA.ext ae;clear ae))
  refine SW.ak aA rfl rfl rfl rfl (bt .zero) fun w5 bU hg => ?_
  replace hw:=hw.own dl hg;refine Wz ?_;exact ah.cX rfl rfl rfl bU rfl ⟨_,rfl,hw,_,.bad hq,gE.zero 8 _ _⟩
 simp only [if_true] at c1;have hM:=ie.1 hq;have eC:r.Heap.bw=s.Heap.bw:=hr.heap.cpus
 by_cases qa:gb s cpu
 ·have MG:=qa;unfold gb at MG;repeat' (first|refine Wz ?_|(refine SW.call rfl rfl (c1 _ hw) ?_;intro v w1 ae hv;subst hv;replace hw:=Ext.trans hw ae;replace ax:=ax.ext ae;replace aA:=aA.ext ae;clear ae))
  refine SW.call rfl rfl (we r s a _ (hr.ext hw) hf ha) fun v w5 nA hv => ?_
  obtain ⟨u,hu,rfl⟩:=hv;(replace hw:=Ext.trans hw nA;replace ax:=ax.ext nA;replace aA:=aA.ext nA);clear c1;obtain ⟨cs,hc⟩:=hr.bR;obtain ⟨z1,z2⟩:=hc.len;have hA:=hc.row.base;obtain ⟨u1,u2,u3⟩:=u;simp only [Bg];rcases MF hu hq with ⟨i,rfl,rfl,hi,Gi,hO⟩|⟨hO,hN⟩
  ·have df:i<r.aa.n:=by omega
   have C1:i<cs.length:=by omega
   have iS:=hc.each.get i C1 hi;have q1:=iS.names.len;have q2:=(hs.each _ (List.getElem_mem hi)).names;have q3:=(hM.each i hi).may.names;have Gx : 0<cs[i].Names.n:=by omega
   have VK:=iS.names.base
   have c2:∀ w',Ext w w'→bq Tryz.prog 43 [.agg (eA cs[i]).toArray] w' fun v _=>v = .bool true:=fun w' hx=>by
    have:=wc cs[i] _ w' (iS.ext hx) (by omega) (hS.ext hx)
    rwa [Gi] at this
   have gN:=iS.names.one Gx (congrArg encStr (rfl:s.aa[i].Names[0]=s.aa[i].Names[0]));have eN:s.aa[i].Names[0]=rH s.aa[i]:=by simp [rH,q3]
   rw [eN] at gN;repeat' (first|refine Wz ?_|refine SW.st (aU hw rfl rfl ((hc.row.all df))) rfl ?_|(refine SW.call rfl rfl (c2 _ hw) ?_;intro v w1 ae hv;subst hv;replace hw:=Ext.trans hw ae;replace ax:=ax.ext ae;replace aA:=aA.ext ae;clear ae))
   refine CW.any 14 mixed (da (by kernel_rfl)) rfl fun w1 ae aJ => ?_
   replace hw:=Ext.trans hw ae;replace ax:=ax.ext ae;replace aA:=aA.ext ae;clear ae;refine Wa ?_;refine SA.take 6 aJ rfl (by kernel_rfl) (by kernel_rfl) rfl ?_;repeat ((show SW _ _ _ _ (⟨_,Op.load _ _,_,_,_,none⟩::_) _ _;refine SW.st (aT hw rfl (hc.row.fw df (j:=0) (u := .slice cs[i].Names.A cs[i].Names.n cs[i].Names.c) rfl)) rfl ?_))
   refine SW.ai ?_;refine Wa ?_;refine SA.take 8 aJ rfl (by kernel_rfl) (by kernel_rfl) rfl ?_;repeat ((show SW _ _ _ _ (⟨_,Op.load _ _,_,_,_,none⟩::_) _ _;refine SW.st (aT hw rfl gN) rfl ?_))
   refine SW.ai ?_;refine Wa ?_;refine SA.one 11 rfl (by kernel_rfl) rfl ?_;refine SW.call rfl rfl (zQ r s _ cpu a _ (hr.ext hw) hf (HF hf hi) ha) fun v w4 ap hv => ?_
   obtain ⟨u,hP,s1,rfl,iF⟩:=hv;replace iF:=iF.low hw.size;(replace hw:=Ext.trans hw ap;replace ax:=ax.ext ap;replace aA:=aA.ext ap);refine SW.nil (ah.sa ap ?_);refine Wa ?_;refine SA.done (by kernel_rfl) ?_;refine SW.ak aA rfl rfl rfl rfl (bt s1) fun w6 hR hg => ?_
   have hG:=aA.gr hg;replace hw:=hw.own dl hg;(replace iF:=iF.aw hG rfl);refine Wz ?_;exact ah.cX rfl rfl rfl hR rfl ⟨_,rfl,hw,_,.obj hq qa hi hO hP,_,rfl,iF⟩
  have zF:=fun hW=>FC hM qa (a:=a) hW
  rcases hN with rfl|⟨i,rfl,rfl,hi,Gi⟩
  refine Wz ?_;rotate_left;have df:i<r.aa.n:=by omega
  have C1:i<cs.length:=by omega
  have iS:=hc.each.get i C1 hi;have q1:=iS.names.len;have q2:=(hs.each _ (List.getElem_mem hi)).names
  have c2:∀ w',Ext w w'→bq Tryz.prog 43 [.agg (eA cs[i]).toArray] w' fun v _=>v = .bool false:=fun w' hx=>by
   have:=wc cs[i] _ w' (iS.ext hx) (by omega) (hS.ext hx)
   rwa [Gi] at this
  repeat' (first|refine Wz ?_|refine SW.st (aU hw rfl rfl ((hc.row.all df))) rfl ?_|(refine SW.call rfl rfl (c2 _ hw) ?_;intro v w1 ae hv;subst hv;replace hw:=Ext.trans hw ae;replace ax:=ax.ext ae;replace aA:=aA.ext ae;clear ae))
  all_goals
   refine SW.call rfl rfl (sQ r s a _ (hr.ext hw) hs hM ha) fun v w6 C0 hv => ?_
   obtain ⟨ix,rfl,uF⟩:=hv;(replace hw:=Ext.trans hw C0;replace ax:=ax.ext C0;replace aA:=aA.ext C0);cases hW:ca s a
   ·repeat' (first|refine Wz ?_|(refine CW.dh rfl ?_))
    refine SW.ak aA rfl rfl rfl rfl (bt .zero) fun w7 bU hg => ?_
    replace hw:=hw.own dl hg;refine Wz ?_;exact ah.cX rfl rfl rfl bU rfl ⟨_,rfl,hw,_,.no hq qa hO hW,gE.zero 4 _ _⟩
   ·obtain ⟨IQ,VL,_⟩:=iv hW;repeat' (first|refine Wz ?_|(refine CW.di rfl ?_)|refine SW.st (aB rfl rfl ((mq ax))) rfl ?_)
    refine SW.call rfl rfl (Bk r.Heap s.Heap cpu (a / 16) _ (hr.heap.ext hw) hs.heap hf.cj (by omega)) fun v w7 j4 hv => ?_
    obtain ⟨H,rfl,hH⟩:=hv;rw [zF hW];replace hH:=hH.low hw.size;(replace hw:=Ext.trans hw j4;replace ax:=ax.ext j4;replace aA:=aA.ext j4);refine Wz ?_;refine SW.alloc rfl fun Pu w1 ae yr rL => ?_
    skip;refine SW.ak rL rfl rfl rfl rfl (dJ H) fun w2 Bs hg => ?_
    have ap:=ae.own yr hg;have Om:w.heap.size≤Pu:=Nat.le_trans hw.size yr
    replace hw:=Ext.trans hw ap;replace ax:=ax.ext ap;replace aA:=aA.ext ap;replace hH:=hH.ext ap;replace rL:=Bs;clear Bs ae hg ap;refine Wz ?_;refine SW.call rfl rfl (nM r s _ (hr.ext hw) hs) fun v w9 oo hv => ?_
    obtain ⟨p,cs',rfl,KQ,_⟩:=hv;have hP:=KQ.Bi.low hw.size;clear KQ;(replace hw:=Ext.trans hw oo;replace ax:=ax.ext oo;replace aA:=aA.ext oo;replace rL:=rL.ext oo;replace hH:=hH.ext oo);refine SW.ak ax rfl rfl rfl rfl (bt p) fun rN cW hg => ?_
    have hG:=ax.gr hg;replace aA:=aA.grown hg (by simpa using bW);replace hw:=hw.own bQ hg;(replace rL:=rL.aw hG rfl;replace hH:=hH.aw hG rfl;replace hP:=hP.aw hG rfl);replace ax:=cW;clear cW hG hg;refine Wz ?_;refine SW.ko 1 ax rfl rfl rfl (Nat.le_of_ble_eq_true rfl) (dJ H) (ba ⟨p.Words,H,p.aa⟩) rfl fun xA cW hg => ?_
    have hG:=ax.gr hg;replace aA:=aA.grown hg (by simpa using bW);replace hw:=hw.own bQ hg;(replace hH:=hH.aw hG rfl;replace hP:=hP.aw hG rfl);refine Wz ?_;refine SW.ak aA rfl rfl rfl rfl (bt ⟨p.Words,H,p.aa⟩) fun xh hR hg => ?_
    have hG:=aA.gr hg;replace hw:=hw.own dl hg;(replace hH:=hH.aw hG rfl;replace hP:=hP.aw hG rfl);refine Wz ?_;exact ah.cX rfl rfl rfl hR rfl ⟨_,rfl,hw,_,.whole hq qa hO hW,_,rfl,hP.words,hH,hP.bR⟩
 ·have MG:=qa;unfold gb at MG;have:cpu<0∨(0≤cpu∧s.Heap.bw≤cpu):=by omega
  rcases this with h1|h1
  all_goals repeat' (first|refine Wz ?_|(refine SW.call rfl rfl (c1 _ hw) ?_;intro v w1 ae hv;subst hv;replace hw:=Ext.trans hw ae;replace ax:=ax.ext ae;replace aA:=aA.ext ae;clear ae))
  all_goals
   refine SW.ak aA rfl rfl rfl rfl (bt .zero) fun w5 bU hg => ?_
   replace hw:=hw.own dl hg;refine Wz ?_;exact ah.cX rfl rfl rfl bU rfl ⟨_,rfl,hw,_,.range hq qa,gE.zero 1 _ _⟩
open Go.RowKit
theorem Dn (n:Int) (w:World) (hS:iK w) : bq Tryz.prog 65 [.int .i64 n] w fun v _=>v = .tuple #[.string (jQ n),.bool (decide (n≤32))]:=by
 refine aG Tryz.func65 rfl Tryz.ntmps65 rfl ?_;have hw:=Ext.refl w;repeat' (first|refine Wz ?_|refine SW.st (aB rfl rfl ((yf hS))) rfl ?_)
 refine CW.loop (fun j:Nat=>[(0,.int .i64 n),(6,.agg (kL.map (Value.int .i64)).toArray),(7,.int .i64 (j:Int))]) (fun j w'=>j≤6∧Ext w w' ∧ ∀ m,m<j→kP m<n) (fun j=>6-j) 0
  ⟨rfl,rfl,rfl,trivial⟩ ⟨by omega,hw,fun m h=>by omega⟩ ?_
 clear hw;rintro j w' ⟨hj,hw,hI⟩
 by_cases KR:j<6
 ·obtain ⟨k1,k2,k3,k4⟩:=En KR;have QG:=Ia (n:=n) KR hI;obtain ⟨z,hz⟩ : ∃ z,kP j=z:=⟨_,rfl⟩;rw [hz] at k1 k2 k3 k4 QG;have IZ:(kL.map (Value.int .i64))[j]?=some (.int .i64 z):=by rw [List.getElem?_map,k2];rfl
  by_cases Ur:n≤z
  ·obtain ⟨e1,e2⟩:=QG Ur;repeat' (first|refine Wz ?_|(refine SW.call rfl rfl (sP z k1 _) ?_;intro v w1 ae hv;subst hv;replace hw:=Ext.trans hw ae;clear ae)|(refine SW.st (nl j rfl rfl rfl KR IZ) rfl ?_))
   exact ah.cb rfl rfl rfl ⟨_,rfl,hw,by rw [e1,decide_eq_true e2]⟩
  ·repeat' (first|refine Wz ?_|(refine SW.st (nl j rfl rfl rfl KR IZ) rfl ?_))
   refine ah.again (j+1) ⟨rfl,rfl,rfl,trivial⟩ (by omega) ⟨by omega,hw,fun m h => ?_⟩;by_cases e:m=j
   ·subst e;omega
   ·exact hI m (by omega)
 ·obtain rfl:j=6:=by omega
  obtain ⟨e1,e2⟩:=FO hI;refine Wz ?_;exact ah.cb rfl rfl rfl ⟨_,rfl,hw,by rw [e1,decide_eq_false (by omega)]⟩
def Dp (lo:Nat) (u:ag×Int×Int) (v:Value) (w:World) : Prop := ∃ q,v = .tuple #[.agg (ba q).toArray,.int .i64 u.2.1,.int .i64 u.2.2]∧lR w lo q u.1
theorem Dp.zero (e:Int) (lo:Nat) (w:World) : Dp lo (.zero,0,e) (.tuple #[.agg (ba .zero).toArray,.int .i64 0,.int .i64 e]) w :=
 ⟨.zero,rfl,Own.gz _ _ _ _ _ _,gZ.zero w lo,⟨[],dV.nil _ _⟩⟩
set_option maxHeartbeats 4000000 in
theorem Dq (r:eQ) (s:ag) (cpu n:Int) (w:World) (hr:Ab w r s) (hf:s.dW) (hS:iK w) (kq:nq w) :
 bq Tryz.prog 26 [.agg (ba r).toArray,.int .i64 cpu,.int .i64 n] w fun v w' => ∃ u,fG s cpu n u∧Dp w.heap.size u v w':=by
 refine aG Tryz.func26 rfl Tryz.ntmps26 rfl ?_;refine CW.seq (CW.region (SW.box rfl rfl fun b3 w1 hw bQ ax => ?_));refine SW.alloc rfl fun b6 w2 bF eu aA => ?_
 have dl:w.heap.size≤b6:=Nat.le_trans hw.size eu
 have bW:b6≠b3:=by have:=ax.lt;omega
 (replace hw:=Ext.trans hw bF;replace ax:=ax.ext bF);have hs:=hf.small;obtain ⟨q,hq⟩ : ∃ q,en s=q:=⟨_,rfl⟩
 have c1:∀ w',Ext w w'→bq Tryz.prog 41 [.agg (ba r).toArray] w' fun v _=>v = .int .i64 (if q then 0 else 8):=fun w' hx=>by
  have:=kg r s w' (hr.ext hx) hf
  rwa [hq] at this
 cases q
 ·simp only [Bool.false_eq_true,if_false] at c1;repeat' (first|refine Wz ?_|(refine SW.call rfl rfl (c1 _ hw) ?_;intro v w1 ae hv;subst hv;replace hw:=Ext.trans hw ae;replace ax:=ax.ext ae;replace aA:=aA.ext ae;clear ae))
  refine SW.ak aA rfl rfl rfl rfl (bt .zero) fun w5 bU hg => ?_
  replace hw:=hw.own dl hg;refine Wz ?_;exact ah.gK rfl rfl rfl rfl bU rfl ⟨_,rfl,hw,_,.bad hq,Dp.zero 8 _ _⟩
 simp only [if_true] at c1;have hM:=ie.1 hq;by_cases Gv:n<1
 ·repeat' (first|refine Wz ?_|(refine SW.call rfl rfl (c1 _ hw) ?_;intro v w1 ae hv;subst hv;replace hw:=Ext.trans hw ae;replace ax:=ax.ext ae;replace aA:=aA.ext ae;clear ae))
  refine SW.ak aA rfl rfl rfl rfl (bt .zero) fun w5 bU hg => ?_
  replace hw:=hw.own dl hg;refine Wz ?_;exact ah.gK rfl rfl rfl rfl bU rfl ⟨_,rfl,hw,_,.range hq Gv,Dp.zero 1 _ _⟩
 have c2:∀ w',Ext w w'→bq Tryz.prog 65 [.int .i64 n] w' fun v _=>v = .tuple #[.string (jQ n),.bool (decide (n≤32))]:=fun w' hx=>Dn n w' (hS.ext hx)
 have m7:=Bx n;by_cases Ck:n≤32
 ·rw [decide_eq_true Ck] at c2;obtain ⟨cs,Q9⟩ : ∃ cs,jQ n=cs:=⟨_,rfl⟩;have hR:=fun u (h:om s (jQ n) cpu u)=>fG.obj (cpu:=cpu) (n:=n) hq ⟨by omega,Ck⟩ h
  rw [Q9] at c2 m7 hR;repeat' (first|refine Wz ?_|(refine CW.dh rfl ?_)|((first|refine SW.call rfl rfl (c1 _ hw) ?_|refine SW.call rfl rfl (c2 _ hw) ?_);intro v w1 ae hv;subst hv;replace hw:=Ext.trans hw ae;replace ax:=ax.ext ae;replace aA:=aA.ext ae;clear ae))
  refine SW.call rfl rfl (xC r s cs cpu _ (hr.ext hw) hf m7 (kq.ext hw)) fun v w5 nA hv => ?_
  obtain ⟨u,hu,q,rfl,hO⟩:=hv;replace hO:=hO.low hw.size;(replace hw:=Ext.trans hw nA;replace ax:=ax.ext nA;replace aA:=aA.ext nA);refine Wz ?_;refine SW.ak aA rfl rfl rfl rfl (bt q) fun w6 bU hg => ?_
  have hG:=aA.gr hg;replace hw:=hw.own dl hg;(replace hO:=hO.aw hG rfl);refine Wz ?_;exact ah.gK rfl rfl rfl rfl bU rfl ⟨_,rfl,hw,_,hR u hu,q,rfl,hO⟩
 rw [decide_eq_false Ck] at c2;repeat' (first|refine Wz ?_|(refine CW.di rfl ?_)|((first|refine SW.call rfl rfl (c1 _ hw) ?_|refine SW.call rfl rfl (c2 _ hw) ?_);intro v w1 ae hv;subst hv;replace hw:=Ext.trans hw ae;replace ax:=ax.ext ae;replace aA:=aA.ext ae;clear ae))
 clear c1 c2
 refine CW.loop (fun j:Nat=>[(1,.int .i64 cpu),(2,.int .i64 n),(3,.pointer (some ⟨b3,0,none⟩)),(6,.pointer (some ⟨b6,0,none⟩)),(38,.int .i64 (j:Int))])
  (fun j w'=>j≤5∧Ext w w'∧aW w' b3 44 (ba r)∧aW w' b6 44 (ba .zero) ∧ ∀ m:Nat,m<j→16*pw (m:Int)<n) (fun j=>5-j) 0
  ⟨rfl,rfl,rfl,rfl,rfl,trivial⟩ ⟨by omega,hw,ax,aA,fun m h=>by omega⟩ ?_
 clear hw ax aA;rintro j w' ⟨hj,hw,ax,aA,hI⟩
 by_cases LI:j<5
 ·have Po:=bT (o:=(j:Int)) (by omega) (by omega);have lP:=MD (n:=n) LI hI;obtain ⟨p,hp⟩ : ∃ p,pw (j:Int)=p:=⟨_,rfl⟩;rw [hp] at Po lP;have Px:(16:Int)*2 ^ ((j:Int)).toNat=16*p:=by rw [← hp];rfl
  by_cases Us:n≤16*p
  ·obtain ⟨e1,e2⟩:=lP Us;have OL:=fun u (h:ct s.Heap cpu (zO n) 0 u) he=>fG.fault hq ⟨by omega,e2⟩ h he
   have bU:=fun u (h:ct s.Heap cpu (zO n) 0 u) he=>fG.bM hq ⟨by omega,e2⟩ h he
   rw [e1] at OL bU;repeat' (first|refine Wz ?_|refine SW.st (aB rfl rfl ((mq ax))) rfl ?_|(refine SW.st (fb (r:=16*p) rfl rfl (by omega) (by omega) Px (by omega) (by omega)) rfl ?_))
   refine SW.call rfl rfl (sZ r.Heap s.Heap cpu (j:Int) 0 _ (hr.heap.ext hw) hs.heap hf.cj (kq.ext hw)) fun v w7 j4 hv => ?_
   obtain ⟨u,hu,H,rfl,hH⟩:=hv;replace hH:=hH.low hw.size;(replace hw:=Ext.trans hw j4;replace ax:=ax.ext j4;replace aA:=aA.ext j4);by_cases he:u.2.2=0
   ·have VM:=hu.at_ he;rw [he];refine Wz ?_;refine SW.alloc rfl fun Py w1 ae yw wB => ?_
    skip;refine SW.ak wB rfl rfl rfl rfl (dJ H) fun w2 BF hg => ?_
    have ap:=ae.own yw hg;have OM:w.heap.size≤Py:=Nat.le_trans hw.size yw
    replace hw:=Ext.trans hw ap;replace ax:=ax.ext ap;replace aA:=aA.ext ap;replace hH:=hH.ext ap;replace wB:=BF;clear BF ae hg ap;refine Wz ?_;refine SW.call rfl rfl (nM r s _ (hr.ext hw) hs) fun v w9 oo hv => ?_
    obtain ⟨p,cs',rfl,KQ,_⟩:=hv;have hP:=KQ.Bi.low hw.size;clear KQ;(replace hw:=Ext.trans hw oo;replace ax:=ax.ext oo;replace aA:=aA.ext oo;replace wB:=wB.ext oo;replace hH:=hH.ext oo);refine SW.ak ax rfl rfl rfl rfl (bt p) fun rN cW hg => ?_
    have hG:=ax.gr hg;replace aA:=aA.grown hg (by simpa using bW);replace hw:=hw.own bQ hg;(replace wB:=wB.aw hG rfl;replace hH:=hH.aw hG rfl;replace hP:=hP.aw hG rfl);replace ax:=cW;clear cW hG hg;refine Wz ?_;refine SW.ko 1 ax rfl rfl rfl (Nat.le_of_ble_eq_true rfl) (dJ H) (ba ⟨p.Words,H,p.aa⟩) rfl fun xA cW hg => ?_
    have hG:=ax.gr hg;replace aA:=aA.grown hg (by simpa using bW);replace hw:=hw.own bQ hg;(replace hH:=hH.aw hG rfl;replace hP:=hP.aw hG rfl);refine Wz ?_;refine SW.ak aA rfl rfl rfl rfl (bt ⟨p.Words,H,p.aa⟩) fun xh hR hg => ?_
    have hG:=aA.gr hg;replace hw:=hw.own dl hg;(replace hH:=hH.aw hG rfl;replace hP:=hP.aw hG rfl);refine Wz ?_;exact ah.gK rfl rfl rfl rfl hR rfl ⟨_,rfl,hw,_,bU u hu he,⟨p.Words,H,p.aa⟩,by rw [Int.mul_comm],hP.words,hH,hP.bR⟩
   ·have hv:=OL u hu he;obtain ⟨e,nZ⟩ : ∃ e,u.2.2=e:=⟨_,rfl⟩;rw [nZ] at he hv ⊢;refine Wz ?_;refine SW.alloc rfl fun Py w1 ae yw wB => ?_
    skip;refine SW.ak wB rfl rfl rfl rfl (dJ H) fun w2 BF hg => ?_
    have ap:=ae.own yw hg;have OM:w.heap.size≤Py:=Nat.le_trans hw.size yw
    replace hw:=Ext.trans hw ap;replace aA:=aA.ext ap;replace wB:=BF;clear BF ae hg ap;refine Wz ?_;refine SW.ak aA rfl rfl rfl rfl (bt .zero) fun xh hR hg => ?_
    replace hw:=hw.own dl hg;refine Wz ?_;exact ah.gK rfl rfl rfl rfl hR rfl ⟨_,rfl,hw,_,hv,Dp.zero _ _ _⟩
  ·repeat' (first|refine Wz ?_|(refine SW.st (fb (r:=16*p) rfl rfl (by omega) (by omega) Px (by omega) (by omega)) rfl ?_))
   refine ah.again (j+1) ⟨rfl,rfl,rfl,rfl,rfl,trivial⟩ (by omega) ⟨by omega,hw,ax,aA,fun m h => ?_⟩;by_cases e:m=j
   ·subst e;rw [hp];omega
   ·exact hI m (by omega)
 ·obtain rfl:j=5:=by omega
  have hn:=JW hI;refine Wz ?_;refine SW.ak aA rfl rfl rfl rfl (bt .zero) fun w5 bU hg => ?_
  replace hw:=hw.own dl hg;refine Wz ?_;exact ah.gK rfl rfl rfl rfl bU rfl ⟨_,rfl,hw,_,.size hq hn,Dp.zero 9 _ _⟩
end Go.Proofs.YtbidkghlpijecaaGreatDoor
