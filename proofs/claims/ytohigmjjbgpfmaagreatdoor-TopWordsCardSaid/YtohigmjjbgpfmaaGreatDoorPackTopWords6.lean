/- Part 6 of what topWords_holds leans on. -/
import Derived.Test.YtohigmjjbgpfmaaGreatDoorPackTopWords5
set_option linter.unusedVariables false
set_option linter.unusedSimpArgs false
set_option linter.defProp false
open Go.Proofs.Tryz
namespace Go.Proofs.YtohigmjjbgpfmaaGreatDoor
open Go.RowKit
variable {α:Type} {af:Array Edge} {ops:Array Oper} {Q:Exit->Act->World->Prop} {Z cs:List Value} {bytes d sz:Nat} {y:Operand} {P:Program} {T e t:TypeId} {w:World} {enc:α -> List Value}
theorem sS:∀ (vs X Y Z:List Value),vs.length=Y.length->setAt (X++Y++Z) X.length vs=X++vs++Z
 | [],X,Y,Z,h=>by
   have:Y=[]:=List.length_eq_zero_iff.1 (by simpa using h.symm)
   subst this;rfl
 | v::r,X,[],Z,h=>by simp at h
 | v::r,X,y::Y,Z,h=>by
   have e:=sS r (X++[v]) Y Z (by simpa using h);simp only [List.length_append,List.length_singleton] at e;simp only [setAt]
   have e2:(X++(y::Y)++Z).set X.length v=X++[v]++Y++Z:=by
    rw [ac6,ad2 _ _ (ac3 _)];simp
   rw [e2,e];simp
theorem LX {u v:Value} {ds:List Value} (hu:u.cells.toList=cs) (hv:v.cells.toList=ds) (hc:cs.length=sz) (hd:ds.length=sz) (hZ:Z.length=2*sz) :
 Instr.fill (fun i=>some (i*sz,sz)) Z.toArray [(0,u),(1,v)]=some (cs++ds).toArray:=by
 have h1:u.cells.size=sz:=by rw [<- aea,hu,hc]
 have h2:v.cells.size=sz:=by rw [<- aea,hv,hd]
 have eZ:Z=[]++Z.take sz++Z.drop sz:=by simp
 have s1:setAt Z 0 cs=cs++Z.drop sz:=by
  have:=sS cs [] (Z.take sz) (Z.drop sz) (by simp;omega)
  rw [<- eZ] at this;simpa using this
 have s2:setAt (cs++Z.drop sz) sz ds=cs++ds:=by
  have:=sS ds cs (Z.drop sz) [] (by simp;omega)
  rw [aeq,hc] at this;simpa using this
 have fold:∀ (x:Value) (off:Nat) (X:List Value),Array.foldl (fun (cs:Array Value) (p:Value×Nat)=>cs.setIfInBounds (off+p.2) p.1) X.toArray x.cells.zipIdx=(setAt X off x.cells.toList).toArray:=fun x off X=>by
  have:=qq x.cells.toList 0 off X
  rw [aeM] at this;rw [<- this,<- aeS];simp [Array.toList_zipIdx]
 simp only [Instr.fill];rw [if_neg (by simp;omega)];have f1:=fold u (0*sz) Z;rw [hu,Nat.zero_mul,s1] at f1;have f2:=fold v (1*sz) (cs++Z.drop sz);rw [hv,Nat.one_mul,s2] at f2;simp only [Nat.zero_mul,Nat.one_mul] at f1 f2 ⊢;simp only [f1,f2];rw [if_neg (by simp;omega)]
theorem SW.wh {n:Nat} {rest:List Oper} {L:Env} {pos:String} {z:Value}
 [S:bz P t e sz] [E:dn P e z sz bytes] [C:im enc sz] {x:Operand} {u v:Value} (a b : α) (hx:cK L x=some u) (hy:cK L y=some v) (hu:u.cells.toList=enc a) (hv:v.cells.toList=enc b) (hs:Nat.ble sz 1000=true)
 (hn:Nat.blt d n=true) (h:∀ g w',Ext w w'->w.heap.size<=g->Own w' w.heap.size e sz enc (some ⟨g,0,none⟩) 2 2 [a,b]->SW P n ops (.gL Q) rest ((d,.slice (some ⟨g,0,none⟩) 2 2)::L) w') :
 SW P n ops (.gL Q) (⟨some d,.buildSlice t 2 #[(0,x),(1,y)],T,pos,af,none⟩::rest) L w :=
 ⟨fun q hq=>by
  obtain ⟨i,hi,hz,nd,xU⟩:=ee P e (z:=z) (sz:=sz) (bytes:=bytes);have hle:sz<=1000:=by simpa using hs
  have hp : 0<sz:=E.pos
  simp only [swp];refine wpList_buildSlice rfl t e 2 _ rfl (enc a++enc b).toArray i z S.ou hi hz (by rw [nd];omega) (by rw [nd];omega) ?_ ?_
  ·have e1:(Array.map (fun (p:Nat×Operand)=>(p.1,q.eval p.2)) #[(0,x),(1,y)]).toList=[(0,u),(1,v)]:=by
    simp [hq.eval hx,hq.eval hy]
   have e2:∀ X:Array Value,X=X.toList.toArray:=fun X=>rfl
   rw [e1,e2 (Array.map _ (Array.range _)),nd];exact LX hu hv (C.len a) (C.len b) (by simp)
  ·refine (h w.heap.size _ (Ext.alloc w _) (ac3 _) ⟨rfl,.inr ⟨by omega,w.heap.size,_,rfl,ac3 _,aS.new w e (enc a++enc b),ac3 _,by simp only [maxLen];omega,by simp [C.len];omega,?_⟩⟩).out _ (hq.put hn _);simp only [List.flatMap_cons,List.flatMap_nil,List.append_nil];exact adf (by simp [C.len];omega)⟩
variable {ad:Addr} {ty:TypeId}
section
variable {P:Program} {L:Env} {w:World} {d:Option Nat} {T:TypeId} {pos:String} {af:Array Edge} {g:Option (Nat×Bool)}
theorem EM [c:Ia P t] {x lo hi:Operand} {s r:ByteArray} {i j:Int} (hx:cK L x=some (.string s)) (dz:cK L lo=some (.int .i64 i)) (ZV:cK L hi=some (.int .i64 j)) (h0 : 0<=i) (h1:i<=j) (h2:j<=s.size) (hr:s.extract i.toNat j.toNat=r) :
 St P ⟨d,.slice t x (some lo) (some hi) none,T,pos,af,g⟩ L w (.string r) :=
 ⟨fun _ a ha w' _=>by
  subst hr;have e1:=ha.eval hx;have e2:=ha.eval dz;have e3:=ha.eval ZV;have h3:i<=(j.toNat:Int):=by omega
  have h4 : ¬ max j 0<i:=by omega
  generalize a.eval = ρ at *
  simp [execOp,e1,e2,e3,Instr.sliceAt,Instr.slice,Instr.sliceBounds,Instr.sliceBound,asIntOf,run_underlying c.ou,h0,h1,h2,h3,h4,show 0<=j by omega]⟩
theorem JE {x:Operand} {s r:ByteArray} (hx:cK L x=some (.string s)) (hy:cK L y=some (.string r)) (hb:s.size+r.size<=9223372036854775807) : St P ⟨d,.binOp .add t x y ty,T,pos,af,g⟩ L w (.string (s++r)) :=
 ⟨fun _ a ha w' _=>by
  have e1:=ha.eval hx;have e2:=ha.eval hy;generalize a.eval = ρ at *
  have h1 : ¬ IntKind.i64.max<((s.size+r.size:Nat) : Int):=by
   have:IntKind.i64.max=9223372036854775807:=rfl
   omega
  simp only [Int.natCast_add] at h1;simp [go_sem,e1,e2,Op.stringOp,h1];omega⟩
theorem EN {len:Nat} [c:yF P t len e sz] {x:Operand} (hx:cK L x=some (.pointer (some ad))) : St P ⟨d,.slice t x none none none,T,pos,af,g⟩ L w (.slice (some ad) len len) :=
 ⟨fun _ a ha w' _=>by
  have e1:=ha.eval hx;generalize a.eval = ρ at *
  simp [execOp,e1,Instr.sliceAt,Instr.sureAddr,Instr.sliceBounds,run_underlying c.ou,run_sizeOf c.size,add_zero]⟩
end
variable {w':World}
def kL:List Int:=[1,2,4,8,16,32]
def JF (k:Int) : ByteArray:=if k=1 then ⟨#[49]⟩ else if k=2 then ⟨#[50]⟩ else if k=4 then ⟨#[52]⟩ else if k=8 then ⟨#[56]⟩ else if k=16 then ⟨#[49,54]⟩ else ⟨#[51,50]⟩
def gx (k:Int) : ByteArray:=if k=1 then ⟨#[107,49]⟩ else if k=2 then ⟨#[107,50]⟩ else if k=4 then ⟨#[107,52]⟩ else if k=8 then ⟨#[107,56]⟩ else if k=16 then ⟨#[107,49,54]⟩ else ⟨#[107,51,50]⟩
theorem va {k:Int} (h:k∈kL) : k=1∨k=2∨k=4∨k=8∨k=16∨k=32:=by simpa [kL] using h
theorem JG (k:Int) (hk:k∈kL) (w:World) : bI prog 161 [.int .i64 k] w fun v _=>v = .string (JF k):=by
 refine aE func161 rfl ntmps161 rfl ?_;have hw:=Ext.refl w;rcases va hk with rfl|rfl|rfl|rfl|rfl|rfl
 all_goals
  refine Wz ?_;refine SW.st (EM rfl rfl rfl (by decide) (by decide) (of_decide_eq_true (by kernel_rfl)) rfl) rfl ?_;refine Wz ?_;exact ae.bj rfl rfl ⟨_,rfl,hw,congrArg Value.string (by kernel_rfl)⟩
theorem Bd (k:Int) (hk:k∈kL) (w:World) : bI prog 142 [.int .i64 k,.int .i64 10] w fun v _=>v = .string (JF k):=by
 refine aE func142 rfl ntmps142 rfl ?_;have hw:=Ext.refl w;have bW : 1<=k∧k<=32:=by rcases va hk with h|h|h|h|h|h<;>omega
 repeat' (first|refine Wz ?_|(refine Wk (JG k hk _) ?_;intro v w1 ai hv;subst hv;have hw:=hw.trans ai;clear ai))
 exact ae.bj rfl rfl ⟨_,rfl,hw,rfl⟩
theorem JH (k:Int) (hk:k∈kL) (w:World) : bI prog 93 [.int .i64 k] w fun v _=>v = .string (JF k):=by
 refine aE func93 rfl ntmps93 rfl ?_;have hw:=Ext.refl w;repeat' (first|refine Wz ?_|(refine Wk (Bd k hk _) ?_;intro v w1 ai hv;subst hv;have hw:=hw.trans ai;clear ai))
 exact ae.bj rfl rfl ⟨_,rfl,hw,rfl⟩
theorem LY (k:Int) (hk:k∈kL) (w:World) : bI prog 54 [.int .i64 k] w fun v _=>v = .string (JF k):=by
 refine aE func54 rfl ntmps54 rfl ?_;have hw:=Ext.refl w;repeat' (first|refine Wz ?_|(refine Wk (JH k hk _) ?_;intro v w1 ai hv;subst hv;have hw:=hw.trans ai;clear ai))
 exact ae.bj rfl rfl ⟨_,rfl,hw,rfl⟩
theorem wi (k:Int) (hk:k∈kL) (w:World) : bI prog 24 [.int .i64 k] w fun v _=>v = .string (gx k):=by
 refine aE func24 rfl ntmps24 rfl ?_;have hw:=Ext.refl w;have e:(⟨#[107]⟩ : ByteArray)++JF k=gx k:=by rcases va hk with rfl|rfl|rfl|rfl|rfl|rfl<;>kernel_rfl
 have hs:(⟨#[107]⟩ : ByteArray).size+(JF k).size<=9223372036854775807:=by rcases va hk with rfl|rfl|rfl|rfl|rfl|rfl<;>decide
 repeat' (first|refine Wz ?_|(refine Wk (LY k hk _) ?_;intro v w1 ai hv;subst hv;have hw:=hw.trans ai;clear ai)|(refine SW.st ((JE rfl rfl hs).eq (congrArg Value.string e)) rfl ?_))
 exact ae.bj rfl rfl ⟨_,rfl,hw,rfl⟩
def oR (c:aQ) : Bool:=kL.any fun k=>dO (gx k) c
structure iv (w:World) : Prop where
 sl:Sl w 1 bw (some ⟨0,0,none⟩) 6 kL
theorem iv.ext (h:iv w) (hx:Ext w w') : iv w':=⟨h.sl.ext hx⟩
theorem JI (k:Int) (hk:k∈kL) (x:dN) (c:aQ) (b1:Nat) (w:World) (h1:aS w b1 107 (fK x)) (hx:Gu w x c) (hn:x.Names.n<=9223372036854775807) :
 bI prog 126 ([.int .i64 k]++[.pointer (some ⟨b1,0,none⟩)]) w fun v _=>v = .bool (dO (gx k) c):=by
 refine aE func126 rfl ntmps126 rfl ?_;have hw:=Ext.refl w;repeat' (first|refine Wz ?_|((apply CW.bF mixed;(· kernel_rfl);rotate_left;intro w1 ai;have hw:=hw.trans ai;clear ai;rotate_right))|refine SW.dF rfl rfl (fun w1 ai=>(wi k hk _)) ?_|refine SW.dF rfl rfl (fun w1 ai=>(nY _ _ _ _ _ _ (hx.names.ext (hw.trans ai)) hn)) ?_|exact SW.eI rfl)
 exact ae.bj rfl rfl ⟨_,rfl,hw,rfl⟩
theorem zD (x:dN) (c:aQ) (w:World) (hx:Gu w x c) (hn:x.Names.n<=9223372036854775807) (hS:iv w) :
 bI prog 72 [.agg (fK x).toArray] w fun v _=>v = .bool (oR c):=by
 refine aE func72 rfl ntmps72 rfl ?_;refine CW.seq (CW.region (SW.box rfl rfl fun b1 w1 hw lc aW => ?_));repeat' (first|refine Wz ?_|refine SW.st (EN rfl) rfl ?_|(refine SW.st (jg (vs:=[.pointer (some ⟨b1,0,none⟩)]) rfl) rfl ?_))
 refine Wk (iE _ _ _ kL _ (hS.sl.ext hw) _ [.pointer (some ⟨b1,0,none⟩)] (fun k=>dO (gx k) c) (fun k => .int .i64 k) (fun k=>rfl) (fun k hk w1 lf=>JI k hk x c b1 w1 (aW.ext lf) (hx.ext (hw.trans lf)) hn) (by omega)) fun v w4 ko hv => ?_
 subst hv;have hw:=hw.trans ko;refine Wz ?_;exact ae.bj rfl rfl ⟨_,rfl,hw,rfl⟩
def ji (n:Int) : ByteArray:=if n<=1 then gx 1 else if n<=2 then gx 2 else if n<=4 then gx 4 else if n<=8 then gx 8 else if n<=16 then gx 16 else if n<=32 then gx 32 else ⟨#[]⟩
variable {held:Bool} {ps:List MemPlace} {fuel:Nat} {spare:Nat->Bool} {W:World}
theorem EO : prog.globalNamed "paddock/kmem.sizes" = some 0 := by kernel_rfl
theorem GQ:(prog.globals[0]?).map (·.type)=some 78:=by kernel_rfl
set_option maxRecDepth 100000 in
theorem EP {p:List MemPlace} {enc:TypeId×Value->Unit} {base:Nat} (h:DataW.trod enc prog W base spare held fuel 78 cs=some (Rows.laid_paddock_kmem_sizes,p)) :
 cs=[.int .i64 1,.int .i64 2,.int .i64 4,.int .i64 8,.int .i64 16,.int .i64 32]:=by
 have c6:prog.cellsOf 78=6:=by kernel_rfl
 have c1:prog.cellsOf 3=1:=by kernel_rfl
 obtain ⟨xs,m,rfl,hx,hlen,hn,FT⟩:=DataW.trod_array Tryz.underlying78 h;rw [c6] at hlen;rw [c1] at FT;simp only [Prod.mk.injEq] at hx
 have one:∀ (a:Value) (u:Int) (x:DataW Unit×List MemPlace),DataW.trod enc prog W base spare held m 3 [a]=some x->x.1 = .lit (.int .i64 u)->a = .int .i64 u:=by
  intro a u x hx e;obtain ⟨z0,e0,f0,_⟩:=DataW.trod_int Tryz.underlying3 hx;rw [f0] at e;simp at e e0;rw [e0,e]
 match cs,hlen,xs,hn with
 | [a,b,c,d,e,f],_,[x0,x1,x2,x3,x4,x5],_ =>
   have lf:=hx.1;simp only [Rows.laid_paddock_kmem_sizes,List.map_cons,List.map_nil,DataW.agg.injEq,List.cons.injEq,and_true] at lf;obtain rfl:=one a 1 x0 (FT 0 (by decide)) lf.1.symm;obtain rfl:=one b 2 x1 (FT 1 (by decide)) lf.2.1.symm;obtain rfl:=one c 4 x2 (FT 2 (by decide)) lf.2.2.1.symm;obtain rfl:=one d 8 x3 (FT 3 (by decide)) lf.2.2.2.1.symm;obtain rfl:=one e 16 x4 (FT 4 (by decide)) lf.2.2.2.2.1.symm;obtain rfl:=one f 32 x5 (FT 5 (by decide)) lf.2.2.2.2.2.symm
   rfl
theorem LZ (h : DataW.LaidVars prog W [("paddock/kmem.sizes", Rows.laid_paddock_kmem_sizes)] ps) : iv W := by
 obtain ⟨g0,t0,BL,f0,p0,q0,Gb,UJ,DQ,RZ,_⟩:=h;obtain rfl:=Option.some.inj (EO.symm.trans Gb);obtain rfl:=Option.some.inj (GQ.symm.trans UJ);have hc:=EP RZ
 have wS:∀ i,W.cell? ⟨0,i,none⟩=BL.toList[i]?:=fun i=>by
  have:=World.var?_cell Gb DQ i
  simpa using this
 refine ⟨⟨rfl,fun _=>rfl,fun i hi j u hu => ?_⟩⟩;have hi6:i<6:=hi
 rw [add_add];show W.cell? ((⟨0,0,none⟩ : Addr).add _)=_
 rw [cU,wS,hc]
 have hj:j=0:=by
  rcases adj j with h|h
  ·exact h
  ·rw [adP (by simp [bw];omega)] at hu;cases hu
 subst hj;rcases (show i=0∨i=1∨i=2∨i=3∨i=4∨i=5 by omega) with rfl|rfl|rfl|rfl|rfl|rfl
 all_goals simpa [kL,bw] using hu
variable {D1 D2 D3:DataW Unit}
theorem JJ (h : DataW.LaidVars prog W [("paddock/buddy.others", Rows.laid_paddock_buddy_others)] ps) : mD W := by
 obtain ⟨g0,t0,BL,f0,p0,q0,Gb,UJ,DQ,RZ,_⟩:=h;obtain rfl:=Option.some.inj (CZ.symm.trans Gb);obtain rfl:=Option.some.inj (Ei.symm.trans UJ);have hc:=C0 RZ;refine ⟨fun k hk j v hv => ?_⟩
 have wS:∀ i,W.cell? ⟨1,i,none⟩=BL.toList[i]?:=fun i=>by
  have:=World.var?_cell Gb DQ i
  simpa using this
 rw [add_add,cU,wS,hc];rcases (show k=0∨k=1∨k=2 by omega) with rfl|rfl|rfl
 all_goals
  match j,hv with
  | 0,hv=>simpa [AY,AZ] using hv
  | 1,hv=>simpa [AY,AZ] using hv
theorem si (hp : ([("math/bits.deBruijn32tab", D1), ("math/bits.deBruijn64tab", D2), ("internal/strconv.uint64pow10", D3), ("paddock/buddy.others", Rows.laid_paddock_buddy_others), ("paddock/kmem.sizes", Rows.laid_paddock_kmem_sizes)].all fun x => x.2.handleName?.isNone) = true)
 (h : laidMetH prog [("math/bits.deBruijn32tab", D1), ("math/bits.deBruijn64tab", D2), ("internal/strconv.uint64pow10", D3), ("paddock/buddy.others", Rows.laid_paddock_buddy_others), ("paddock/kmem.sizes", Rows.laid_paddock_kmem_sizes)] W) : iv W ∧ mD W := by
 rw [MakeChecks.laidMetH_plain _ _ _ hp] at h;obtain ⟨ps,⟨_,_,_,_,_,_,_,_,_,_,⟨_,_,_,_,_,_,_,_,_,_,⟨_,_,_,_,_,_,_,_,_,_,⟨g0,t0,BL,f0,p0,q0,a1,a2,a3,a4,h5,_⟩,_⟩,_⟩,_⟩,_,_⟩:=h;exact ⟨LZ h5,JJ ⟨g0,t0,BL,f0,p0,[],a1,a2,a3,a4,rfl,rfl⟩⟩
theorem vc (A:Option Addr) (n c:Nat) (l:List ByteArray) (w:World) (hl:Sl w 1 encStr A n l) (hn:n*16<=140737488355328) : bI prog 39 [.slice A n c] w (yS w 9 1 encStr n l):=by
 refine aE func39 rfl ntmps39 rfl ?_;have hw:=Ext.refl w;refine Wz ?_;refine SW.st (rO rfl rfl) rfl ?_;repeat' (first|refine Wz ?_|(refine CW.cond rfl (fun h => ?_) (fun h => ?_)))
 ·have F4:n=0:=by
   rcases adj n with h0|h0
   ·exact h0
   ·have:=hl.base h0;simp_all
  subst F4;have:l=[]:=adl hl.len
  subst this;exact ae.bj rfl rfl ⟨_,rfl,hw,none,0,rfl,Own.fv _ _ _ _ _ _⟩
 ·refine SW.yL rfl fun b w1 ai hb => ?_
  have hw:=hw.trans ai;refine Wz ?_;refine SW.uH (aet n) (adV l) (Own.fv w1 w.heap.size _ _ encStr (some ⟨b,0,none⟩)) (hl.ext hw) hw.size rfl rfl rfl (by omega) (by omega) fun A2 c2 w2 hO hg => ?_
  have hw:=aF hw hg (ac3 _) (by simp [aI]);refine Wz ?_;exact ae.bj rfl rfl ⟨_,rfl,hw,A2,c2,rfl,hO⟩
variable {s:ah} {lo ov:Nat}
def apart (a b:ga) : Prop := ∀ k,aI a.A a.c=some k->aI b.A b.c≠some k
theorem pP {a b:ga} {l:List α} (h:Own w lo e sz enc a.A a.n a.c l) (hb:∀ k,aI b.A b.c=some k->w.heap.size<=k) : apart a b:=fun k h1 h2=>by
 have:=h.lt_size k h1
 have:=hb k h2
 omega
structure ly (u v:dN) : Prop where
 names:apart u.Names v.Names
 aD:apart u.ab v.ab
 aZ:apart u.ao v.ao
structure xG (words:ga) (cs:List dN) : Prop where
 pair:cs.Pairwise ly
 words:∀ u∈cs,apart words u.ao
theorem xG.nil (x:ga) : xG x []:=⟨.nil,fun _ h=>by simp at h⟩
theorem xG.snoc {x:ga} {cs:List dN} {v:dN} (h:xG x cs) (h1:∀ u∈cs,ly u v) (h2:apart x v.ao) : xG x (cs++[v]):=by
 refine ⟨adp.2 ⟨h.pair,by simp,fun a ha b hb => ?_⟩,fun u hu => ?_⟩
 ·simp at hb;subst hb;exact h1 a ha
 ·rcases ac9.1 hu with hu|hu
  ·exact h.words u hu
  ·simp at hu;subst hu;exact h2
structure Ip (w:World) (lo:Nat) (r:db) (s:ah) (cs:List dN) : Prop where
 words:Own w lo 3 1 bw r.Words.A r.Words.n r.Words.c s.Words
 heap:jC w lo r.Heap s.Heap
 br:fj w lo r.aa cs s.aa
 sep:xG r.Words cs
theorem Ip.low {r:db} {cs:List dN} (h:Ip w lo r s cs) (hl:ov<=lo) : Ip w ov r s cs:=⟨h.words.low hl,h.heap.low hl,h.br.low hl,h.sep⟩
theorem fj.mem {s:ga} {cs:List dN} {l:List aQ} (h:fj w lo s cs l) {u:dN} (hu:u∈cs) : ∃ c,oz w lo u c:=by
 obtain ⟨i,hi,rfl⟩:=ac1 hu;exact ⟨_,h.each.get i hi (by rw [<- h.each.len];exact hi)⟩
theorem fj.X4 {s:ga} {cs:List dN} {l:List aQ} (h:fj w lo s cs l) {b:ga} (hb:∀ k,aI b.A b.c=some k->w.heap.size<=k) : ∀ u∈cs,apart u.Names b:=fun u hu=>by
 obtain ⟨c,hc⟩:=h.mem hu;exact pP hc.names hb
theorem fj.X5 {s:ga} {cs:List dN} {l:List aQ} (h:fj w lo s cs l) {b:ga} (hb:∀ k,aI b.A b.c=some k->w.heap.size<=k) : ∀ u∈cs,apart u.ab b:=fun u hu=>by
 obtain ⟨c,hc⟩:=h.mem hu;exact pP hc.aD hb
theorem fj.X6 {s:ga} {cs:List dN} {l:List aQ} (h:fj w lo s cs l) {b:ga} (hb:∀ k,aI b.A b.c=some k->w.heap.size<=k) : ∀ u∈cs,apart u.ao b:=fun u hu=>by
 obtain ⟨c,hc⟩:=h.mem hu;exact pP hc.aZ hb
set_option maxHeartbeats 4000000 in
theorem GR (r:db) (s:ah) (w:World) (hr:AM w r s) (hs:s.small) :
 bI prog 17 [.agg (aP r).toArray] w fun v w' => ∃ q zr,v = .agg (aP q).toArray∧Ip w' w.heap.size q s zr:=by
 refine aE func17 rfl ntmps17 rfl ?_;refine CW.seq (CW.region (SW.box rfl rfl fun b1 w1 hw lc aW => ?_));refine SW.alloc rfl fun b2 w2 bt fk au => ?_
 have uM:=hw.up fk
 have Oa:b2≠b1:=by have:=aW.lt;omega
 (obtain ⟨hw,aW⟩:=cX bt hw aW);obtain ⟨cs,hc⟩:=hr.br;have Sb:=hr.words.len;have s1:=hs.words;have s3:=hs.br;obtain ⟨c1,c2⟩:=hc.len;refine Wz ?_
 obtain ⟨K,hK⟩ : ∃ K:Env->World->Prop,K=fun L' w' => ∃ X c1 G b3,il L' [(1,.pointer (some ⟨b1,0,none⟩)),(2,.pointer (some ⟨b2,0,none⟩)),(3,.pointer (some ⟨b3,0,none⟩))]∧Ext w w'∧aS w' b1 44 (aP r)∧aS w' b2 44 (aP .zero) ∧
  aS w' b3 44 (aP ⟨⟨X,r.Words.n,c1⟩,G,.nil⟩)∧Own w' w.heap.size 3 1 bw X r.Words.n c1 s.Words∧jC w' w.heap.size G s.Heap∧w.heap.size<=b3∧b1≠b3∧b2≠b3:=⟨_,rfl⟩
 refine CW.cut K ?_ ?_
 ·focus
   refine CW.any 8 mixed (dg (by kernel_rfl)) rfl fun w1 ai aJ => ?_
   obtain ⟨hw,aW,au⟩:=cj ai hw aW au;clear ai;refine Wa ?_;refine Wu 4 aJ rfl (aX rfl rfl ((me aW))) ?_;refine SA.two 2 7 rfl rfl (by kernel_rfl) rfl rfl ?_ ?_
   focus
    refine Wk (dB _ _ _ _ _ (hr.words.ext hw) (by omega)) fun v w4 ar hv => ?_
    obtain ⟨X,c4,rfl,hX⟩:=hv;have hX:=hX.low hw.size;obtain ⟨hw,aW,au⟩:=cj ar hw aW au;try have ap:=ap.ext ar
    refine SW.nil (ae.sa ar ?_);refine SA.two 5 7 rfl rfl (by kernel_rfl) rfl rfl ?_ ?_
    focus
     refine Wk (lZ _ _ _ (hr.heap.ext hw) hs.heap) fun v w4 ar hv => ?_
     obtain ⟨G,rfl,hY⟩:=hv;have hY:=hY.low hw.size;obtain ⟨hX,hw,aW,au⟩:=dG ar hX hw aW au;try have ap:=ap.ext ar
     refine SW.nil (ae.sa ar ?_);refine Wa ?_;refine SA.one 7 rfl (by kernel_rfl) rfl ?_;refine SW.alloc rfl fun b3 w4 ar cg ap => ?_
     have fW:=hw.up cg
     have rv:b1≠b3:=by have:=aW.lt;omega
     have pf:b2≠b3:=by have:=au.lt;omega
     obtain ⟨hw,aW,au⟩:=cj ar hw aW au;try have hX:=hX.ext ar
     try have hY:=hY.ext ar
     refine SW.nil (ae.sa ar ?_)
    rotate_left
    focus
     refine SW.alloc rfl fun b3 w4 ar cg ap => ?_
     have fW:=hw.up cg
     have rv:b1≠b3:=by have:=aW.lt;omega
     have pf:b2≠b3:=by have:=au.lt;omega
     obtain ⟨hw,aW,au⟩:=cj ar hw aW au;try have hX:=hX.ext ar
     try have hY:=hY.ext ar
     refine SW.nil (ae.sa ar ?_);refine SA.one 5 rfl (by kernel_rfl) rfl ?_;refine Wk (lZ _ _ _ (hr.heap.ext hw) hs.heap) fun v w4 ar hv => ?_
     obtain ⟨G,rfl,hY⟩:=hv;have hY:=hY.low hw.size;obtain ⟨hX,hw,aW,au⟩:=dG ar hX hw aW au;try have ap:=ap.ext ar
     refine SW.nil (ae.sa ar ?_);refine Wa ?_
    rotate_left
   rotate_left 2
   focus
    refine SW.alloc rfl fun b3 w4 ar cg ap => ?_
    have fW:=hw.up cg
    have rv:b1≠b3:=by have:=aW.lt;omega
    have pf:b2≠b3:=by have:=au.lt;omega
    obtain ⟨hw,aW,au⟩:=cj ar hw aW au;try have hX:=hX.ext ar
    try have hY:=hY.ext ar
    refine SW.nil (ae.sa ar ?_);refine SA.one 2 rfl (by kernel_rfl) rfl ?_;refine Wk (dB _ _ _ _ _ (hr.words.ext hw) (by omega)) fun v w4 ar hv => ?_
    obtain ⟨X,c4,rfl,hX⟩:=hv;have hX:=hX.low hw.size;obtain ⟨hw,aW,au⟩:=cj ar hw aW au;try have ap:=ap.ext ar
    refine SW.nil (ae.sa ar ?_);refine SA.one 5 rfl (by kernel_rfl) rfl ?_;refine Wk (lZ _ _ _ (hr.heap.ext hw) hs.heap) fun v w4 ar hv => ?_
    obtain ⟨G,rfl,hY⟩:=hv;have hY:=hY.low hw.size;obtain ⟨hX,hw,aW,au⟩:=dG ar hX hw aW au;try have ap:=ap.ext ar
    refine SW.nil (ae.sa ar ?_);refine Wa ?_
   rotate_left
   all_goals
    refine SA.done (by kernel_rfl) ?_;skip;refine SW.ag ap rfl rfl rfl rfl (aY ⟨⟨X,r.Words.n,c4⟩,G,.nil⟩) fun w5 cS hg => ?_
    have hG:=ap.gr hg;have hw:=hw.own fW hg;(obtain ⟨hX,hY⟩:=cX hG hX hY);have aW:=aW.grown hg (by simpa using rv);have au:=au.grown hg (by simpa using pf);refine Wz ?_;exact ae.cut (K:=K) (by rw [hK];exact ⟨X,c4,G,b3,⟨rfl,rfl,rfl,trivial⟩,hw,aW,au,cS,hX,hY,fW,rv,pf⟩)
 ·clear aW au hw;subst hK;rintro L' w' ⟨X,c4,G,b3,jw,hw,aW,au,ap,hX,hY,fW,rv,pf⟩
  refine ae.sub jw ?_;refine Wz ?_
  refine CW.loop (fun s:Nat×Option Addr×Nat×List dN=>[(2,.pointer (some ⟨b2,0,none⟩)),(3,.pointer (some ⟨b3,0,none⟩)),(14,.slice r.aa.A r.aa.n r.aa.c),(15,.int .i64 (r.aa.n:Int)),(16,.int .i64 (s.1:Int))])
   (fun t w'=>t.1<=r.aa.n∧Ext w w'∧aS w' b2 44 (aP .zero)∧aS w' b3 44 (aP ⟨⟨X,r.Words.n,c4⟩,G,⟨t.2.1,t.1,t.2.2.1⟩⟩)∧Own w' w.heap.size 3 1 bw X r.Words.n c4 s.Words∧jC w' w.heap.size G s.Heap ∧
     fj w' w.heap.size ⟨t.2.1,t.1,t.2.2.1⟩ t.2.2.2 (s.aa.take t.1)∧xG ⟨X,r.Words.n,c4⟩ t.2.2.2) (fun t=>r.aa.n-t.1) (0,none,0,[]) ⟨rfl,rfl,rfl,rfl,rfl,trivial⟩ ⟨by omega,hw,au,ap,hX,hY,fj.nil _ _,xG.nil _⟩ ?_
  clear aW au ap hX hY hw jw;rintro ⟨k,A,c,zr⟩ w' ⟨hk,hw,au,ap,hX,hY,hO,xB⟩
  simp only at hk ap hO xB ⊢;have hA:=hc.row.base;by_cases gh:k<r.aa.n
  ·have jU:=hc.each.get k (by omega) (by omega);have q:=hs.each _ (ac0 (show k<s.aa.length by omega));have q1:=jU.names.len;have q2:=jU.aD.len;have q3:=jU.aZ.len;have q4:=q.names;have q5:=q.aD;have q6:=q.aZ;have GS:=hO.row.lt_size;repeat' (first|refine Wz ?_|refine Wo hw ((hc.row.all gh)) ?_)
   refine SW.alloc rfl fun b5 w1 ai gm aL => ?_
   skip;refine SW.ag aL rfl rfl rfl rfl (BA _) fun w2 eJ hg => ?_
   have ar:=ai.own gm hg;have jD:=hw.up gm
   obtain ⟨hw,au,ap,hX,hY,hO⟩:=iS ar hw au ap hX hY hO;have aL:=eJ;clear eJ ai hg ar;refine Wz ?_;refine CW.any 10 mixed (dg (by kernel_rfl)) rfl fun w1 ai aJ => ?_
   obtain ⟨hw,au,ap,aL,hX,hY,hO⟩:=ur ai hw au ap aL hX hY hO;clear ai;refine Wa ?_;refine SA.one 2 rfl (by kernel_rfl) rfl ?_;refine Wk (vc _ _ _ _ _ (jU.names.ext hw) (by omega)) fun v w4 ar hv => ?_
   obtain ⟨N,n4,rfl,hN⟩:=hv;have I0:=hO.X4 (b:=⟨N,cs[k].Names.n,n4⟩) hN.ba;have hN:=hN.low hw.size;(obtain ⟨hw,au,ap,aL,hX,hY,hO⟩:=ur ar hw au ap aL hX hY hO);refine SW.nil (ae.sa ar ?_);refine Wa ?_;refine SA.one 5 rfl (by kernel_rfl) rfl ?_;refine Wk (tG _ _ _ _ _ (jU.aD.ext hw) (by omega)) fun v w4 ar hv => ?_
   obtain ⟨M,m4,rfl,hM⟩:=hv;have GU:=hO.X5 (b:=⟨M,cs[k].ab.n,m4⟩) hM.ba;have hM:=hM.low hw.size;(obtain ⟨hw,au,ap,aL,hX,hY,hO,hN⟩:=DJ ar hw au ap aL hX hY hO hN);refine SW.nil (ae.sa ar ?_);refine SA.one 8 rfl (by kernel_rfl) rfl ?_;refine Wk (dB _ _ _ _ _ (jU.aZ.ext hw) (by omega)) fun v w4 ar hv => ?_
   obtain ⟨Q,q7,rfl,hQ⟩:=hv;have LH:=hO.X6 (b:=⟨Q,cs[k].ao.n,q7⟩) hQ.ba;have uu:=pP (a:=⟨X,r.Words.n,c4⟩) (b:=⟨Q,cs[k].ao.n,q7⟩) hX hQ.ba;have hQ:=hQ.low hw.size;(obtain ⟨hw,au,ap,aL,hX,hY,hO,hN,hM⟩:=Lj ar hw au ap aL hX hY hO hN hM);refine SW.nil (ae.sa ar ?_);refine SA.done (by kernel_rfl) ?_;refine Wb (i:=0) aL fun w6 eJ hg => ?_
   have hG:=aL.gr hg;have hw:=hw.own jD hg;have hO:=hO.eG aL hg GS gm;(obtain ⟨au,ap,hX,hY,hN,hM,hQ⟩:=ur hG au ap hX hY hN hM hQ);have aL:=eJ;clear eJ hg hG;refine Wz ?_;refine Wb (i:=4) aL fun w6 eJ hg => ?_
   have hG:=aL.gr hg;have hw:=hw.own jD hg;have hO:=hO.eG aL hg GS gm;(obtain ⟨au,ap,hX,hY,hN,hM,hQ⟩:=ur hG au ap hX hY hN hM hQ);have aL:=eJ;clear eJ hg hG;refine Wz ?_;refine Wb (i:=5) aL fun w6 eJ hg => ?_
   have hG:=aL.gr hg;have hw:=hw.own jD hg;have hO:=hO.eG aL hg GS gm;(obtain ⟨au,ap,hX,hY,hN,hM,hQ⟩:=ur hG au ap hX hY hN hM hQ);have aL:=eJ;clear eJ hg hG;refine Wz ?_;refine SW.dR rfl rfl rfl rfl rfl fun b w6 ar hb hB => ?_
   (obtain ⟨hw,au,ap,hX,hY,hO,hN,hM,hQ⟩:=Lj ar hw au ap hX hY hO hN hM hQ);refine SW.append hO.row (aS.vF (enc:=fK) (x:=⟨⟨N,_,n4⟩,cs[k].aA,cs[k].bK,cs[k].Order,⟨M,_,m4⟩,⟨Q,_,q7⟩⟩) hB) hw.size rfl rfl rfl (by simp only;omega) (by simp only;omega) fun A2 c2 w5 lm hg => ?_
   have hG:=hO.row.gr hg;have hw:=aF hw hg (ac3 _) hO.row.ba;(obtain ⟨au,ap,hX,hY,hN,hM,hQ⟩:=ur hG au ap hX hY hN hM hQ);have hE:=hO.each.mono fun _ _ h=>h.aN hG rfl
   refine Wz ?_;refine Wb (i:=6) ap fun w6 dW hg => ?_
   have hG:=ap.gr hg;have hw:=hw.own fW hg;have au:=au.grown hg (by simpa using pf);(obtain ⟨hX,hY,hN,hM,hQ,lm⟩:=iS hG hX hY hN hM hQ lm);have hE:=hE.mono fun _ _ h=>h.aN hG rfl
   refine Wz ?_;refine ae.again (k+1,A2,c2,zr++[⟨⟨N,_,n4⟩,cs[k].aA,cs[k].bK,cs[k].Order,⟨M,_,m4⟩,⟨Q,_,q7⟩⟩]) ⟨rfl,rfl,rfl,rfl,rfl,trivial⟩ (by simp only;omega) ⟨by simp only;omega,hw,au,dW,hX,hY,⟨lm,?_⟩,xB.snoc (fun u hu=>⟨I0 u hu,GU u hu,LH u hu⟩) uu⟩;rw [ac5 (by omega)];exact hE.snoc ⟨jU.size,jU.per,jU.order,hN,hM,hQ⟩
  ·obtain rfl:k=r.aa.n:=by omega
   rw [adf (by omega)] at hO;refine Wz ?_;refine SW.ag au rfl rfl rfl rfl (aY _) fun w5 cS hg => ?_
   have hG:=au.gr hg;have hw:=hw.own uM hg;(obtain ⟨hX,hY,hO⟩:=cj hG hX hY hO);refine Wz ?_;exact ae.DZ rfl rfl cS rfl ⟨_,rfl,hw,⟨_,G,_⟩,zr,rfl,hX,hY,hO,xB⟩
variable {l':List Slab} {i j n':Nat} {A:Option Addr}
theorem pQ {a b:ga} (h:apart a b∨apart b a) : aI b.A b.c=none∨aI b.A b.c≠aI a.A a.c:=by
 cases e:aI b.A b.c with
 | none=>exact .inl rfl
 | some g =>
   right;intro e2;rcases h with h|h
   ·exact h g e2.symm e
   ·exact h g e e2.symm
structure jH (w:World) (lo hi:Nat) (r:ju) (h:Heap) : Prop where
 cpus:r.bG=h.bG
 ef:Own w lo 3 1 bw r.dK.A r.dK.n r.dK.c h.dK
 live:Own w lo 147 3 aO r.Live.A r.Live.n r.Live.c h.Live
 parts:∃ zs ls,kW w lo r.bp zs h.bp∧gd w lo r.av ls h.av∧(∀ g,aI r.dK.A r.dK.c=some g->g<hi)∧(∀ u∈zs,∀ g,aI u.Types.A u.Types.c=some g->g<hi)∧(∀ u∈ls,∀ g,aI u.ax.A u.ax.c=some g->g<hi)
section
variable {w w':World} {lo hi t g:Nat} {r:ju} {h:Heap}
theorem jC.vd (a:jC w lo r h) : jH w lo w.heap.size r h:=by
 obtain ⟨zs,hz⟩:=a.cr;obtain ⟨ls,hl⟩:=a.lists;refine ⟨a.cpus,a.ef,a.live,zs,ls,hz,hl,a.ef.lt_size,fun u hu g e => ?_,fun u hu g e => ?_⟩
 ·obtain ⟨j,hj,rfl⟩:=ac1 hu;exact (hz.each.get j hj (by rw [<- hz.each.len];exact hj)).types.lt_size g e
 ·obtain ⟨j,hj,rfl⟩:=ac1 hu;exact (hl.each.get j hj (by rw [<- hl.each.len];exact hj)).bC.lt_size g e
theorem jH.own (a:jH w lo hi r h) : jC w lo r h:=by
 obtain ⟨zs,ls,hz,hl,_⟩:=a.parts;exact ⟨a.cpus,a.ef,a.live,⟨zs,hz⟩,⟨ls,hl⟩⟩
theorem jH.ext (a:jH w lo hi r h) (hx:Ext w w') : jH w' lo hi r h:=by
 obtain ⟨zs,ls,hz,hl,hb⟩:=a.parts;exact ⟨a.cpus,a.ef.ext hx,a.live.ext hx,zs,ls,hz.ext hx,hl.ext hx,hb⟩
theorem jH.aN (a:jH w lo hi r h) (hG:rF w w' t) (bL:(Nat.beq t 3 || (Nat.beq t 147 || (Nat.beq t 117 || Nat.beq t 159)))=false) : jH w' lo hi r h:=by
 obtain ⟨zs,ls,hz,hl,hb⟩:=a.parts;simp only [Bool.or_eq_false_iff] at bL;obtain ⟨h1,h2,h3,h4⟩:=bL;exact ⟨a.cpus,a.ef.aN hG h1,a.live.aN hG h2,zs,ls,hz.aN hG (by simp [h1,h2,h3]),hl.aN hG (by simp [h1,h4]),hb⟩
theorem jH.Iq (a:jH w lo hi r h) (hg:w.grownBy w' (some g)) (hG:rF w w' 3) (hb:g<lo∨hi<=g) : jH w' lo hi r h:=by
 obtain ⟨zs,ls,hz,hl,b1,b2,b3⟩:=a.parts;have key:∀ k,lo<=k->k<hi->(some g:Option Nat)≠some k:=fun k h1 h2 e=>by cases e;omega
 refine ⟨a.cpus,a.ef.apart hg fun k e=>key k (a.ef.ba k e) (b1 k e),a.live.aN hG rfl,zs,ls,⟨hz.row.aN hG rfl,⟨hz.each.len,fun j h1 h2 => ?_⟩⟩,⟨hl.row.aN hG rfl,⟨hl.each.len,fun j h1 h2 => ?_⟩⟩,b1,b2,b3⟩
 ·have hj:=hz.each.get j h1 h2;exact ⟨hj.from_,hj.o8,hj.free.aN hG rfl,hj.types.apart hg fun k e=>key k (hj.types.ba k e) (b2 _ (ac0 h1) k e)⟩
 ·have hj:=hl.each.get j h1 h2;exact ⟨hj.cpu,hj.kh,hj.ty,hj.bC.apart hg fun k e=>key k (hj.bC.ba k e) (b3 _ (ac0 h1) k e)⟩
end
theorem Own.up {n c:Nat} {l:List α} (h:Own w lo e sz enc A n c l) (hr:∀ k,aI A c=some k->ov<=k) : Own w ov e sz enc A n c l:=⟨h.len,by
 rcases h.row with h0|⟨hc,g,jO,rfl,_,h3⟩
 ·exact .inl h0
 ·exact .inr ⟨hc,g,jO,rfl,hr g (by simp [aI,Nat.pos_iff_ne_zero.1 hc]),h3⟩⟩
structure sk (w:World) (lo:Nat) (r:db) (s:ah) (BL cs:List dN) : Prop where
 words:Own w lo 3 1 bw r.Words.A r.Words.n r.Words.c s.Words
 heap:jC w lo r.Heap s.Heap
 row:Own w lo 107 6 fK r.aa.A r.aa.n r.aa.c BL
 each:fY (oz w lo) cs s.aa
 pair:cs.Pairwise ly
abbrev SX (w:World) (lo:Nat) (r:db) (s:ah) (cs:List dN) : Prop:=sk w lo r s cs cs
structure SI (w:World) (lo:Nat) (r:db) (s:ah) (cs:List dN) : Prop where
 ints:∃ m1 m2,lo<=m1∧m1<=m2∧(∀ g,aI r.Words.A r.Words.c=some g->g<m1)∧jH w m1 m2 r.Heap s.Heap∧fY (oz w m2) cs s.aa
theorem EQ {cs:List dN} (h:cs.Pairwise ly) {u:dN} (hu:∀ (j:Nat) (hj:j<cs.length),j≠i->ly u cs[j]∧ly cs[j] u) : (cs.set i u).Pairwise ly:=by
 rw [ac8] at h ⊢;intro a b ha hb Pt;rw [adz] at ha hb;rw [adq,adq];split
 ·split
  ·omega
  ·exact (hu b hb (by omega)).1
 ·split
  ·exact (hu a ha (by omega)).2
  ·exact h a b ha hb Pt
theorem jj {a b:ga} (h:apart a b) : apart b a:=fun k h1 h2=>h k h2 h1
theorem ly.symm {u v:dN} (h:ly u v) : ly v u:=⟨jj h.names,jj h.aD,jj h.aZ⟩
theorem nZ {cs:List dN} (h:cs.Pairwise ly) (hi:i<cs.length) (hj:j<cs.length) (o9:j≠i) : ly cs[i] cs[j]:=by
 have hp:=ac8.1 h;rcases adA i j with g|g
 ·exact hp i j hi hj g
 ·exact (hp j i hj hi (by omega)).symm
section
variable {w w':World} {lo t:Nat} {r:db} {s:ah} {BL cs:List dN}
theorem sk.ext (h:sk w lo r s BL cs) (hx:Ext w w') : sk w' lo r s BL cs:=⟨h.words.ext hx,h.heap.ext hx,h.row.ext hx,h.each.mono fun _ _ h=>h.ext hx,h.pair⟩
theorem sk.low (h:sk w lo r s BL cs) (hl:ov<=lo) : sk w ov r s BL cs:=⟨h.words.low hl,h.heap.low hl,h.row.low hl,h.each.mono fun _ _ h=>h.low hl,h.pair⟩
theorem sk.aN (h:sk w lo r s BL cs) (hG:rF w w' t) (bL:(Nat.beq t 107 || (Nat.beq t 9 || (Nat.beq t 111 || (Nat.beq t 3 || (Nat.beq t 147 || (Nat.beq t 117 || Nat.beq t 159))))))=false) : sk w' lo r s BL cs:=by
 simp only [Bool.or_eq_false_iff] at bL;obtain ⟨h1,h2,h3,h4,h5,h6,h7⟩:=bL;exact ⟨h.words.aN hG h4,h.heap.aN hG (by simp [h4,h5,h6,h7]),h.row.aN hG h1,h.each.mono fun _ _ h=>h.aN hG (by simp [h2,h3,h4]),h.pair⟩
theorem sk.len (h:SX w lo r s cs) : cs.length=r.aa.n∧s.aa.length=r.aa.n:=⟨h.row.len,by rw [<- h.each.len,h.row.len]⟩
theorem sk.xH (h:SX w lo r s cs) : iT w lo r s:=⟨h.words,h.heap,⟨cs,h.row,h.each⟩⟩
theorem SI.ext (h:SI w lo r s cs) (hx:Ext w w') : SI w' lo r s cs:=by
 obtain ⟨m1,m2,h1,h2,h3,h4,h5⟩:=h.ints;exact ⟨m1,m2,h1,h2,h3,h4.ext hx,h5.mono fun _ _ h=>h.ext hx⟩
theorem SI.low (h:SI w lo r s cs) (hl:ov<=lo) : SI w ov r s cs:=by
 obtain ⟨m1,m2,h1,h2,h3,h4,h5⟩:=h.ints;exact ⟨m1,m2,ac2 hl h1,h2,h3,h4,h5⟩
theorem SI.aN (h:SI w lo r s cs) (hG:rF w w' t) (bL:(Nat.beq t 9 || (Nat.beq t 111 || (Nat.beq t 3 || (Nat.beq t 147 || (Nat.beq t 117 || Nat.beq t 159)))))=false) : SI w' lo r s cs:=by
 simp only [Bool.or_eq_false_iff] at bL;obtain ⟨h2,h3,h4,h5,h6,h7⟩:=bL;obtain ⟨m1,m2,g1,g2,g3,g4,g5⟩:=h.ints;exact ⟨m1,m2,g1,g2,g3,g4.aN hG (by simp [h4,h5,h6,h7]),g5.mono fun _ _ h=>h.aN hG (by simp [h2,h3,h4])⟩
theorem sk.aD (h:SX w lo r s cs) (hi:i<cs.length) (nO:i<s.aa.length) (hO:Own w' lo 111 3 bf cs[i].ab.A n' cs[i].ab.c l') (hg:w.grownBy w' (aI cs[i].ab.A cs[i].ab.c)) :
 sk w' lo r ⟨s.Words,s.Heap,s.aa.set i ⟨s.aa[i].Names,s.aa[i].aA,s.aa[i].bK,s.aa[i].Order,l',s.aa[i].ao⟩⟩ cs (cs.set i ⟨cs[i].Names,cs[i].aA,cs[i].bK,cs[i].Order,⟨cs[i].ab.A,n',cs[i].ab.c⟩,cs[i].ao⟩):=by
 have hc:=h.each.get i hi nO;have hG:=hc.aD.gr hg;refine ⟨h.words.aN hG rfl,h.heap.aN hG rfl,h.row.aN hG rfl,?_,?_⟩
 ·exact fY.setAt h.each ⟨hc.size,hc.per,hc.order,hc.names.aN hG rfl,hO,hc.aZ.aN hG rfl⟩ fun j h1 h2 js ho=>⟨ho.size,ho.per,ho.order,ho.names.aN hG rfl,ho.aD.grown hg (pQ (.inl (nZ h.pair hi h1 js).aD)),ho.aZ.aN hG rfl⟩
 ·refine EQ h.pair fun j hj js => ?_
  have hp:=nZ h.pair hi hj js;exact ⟨⟨hp.names,hp.aD,hp.aZ⟩,⟨jj hp.names,jj hp.aD,jj hp.aZ⟩⟩
theorem sk.GV {u:dN} (h:sk w lo r s BL (BL.set i u)) (hO:Own w' lo 107 6 fK r.aa.A r.aa.n r.aa.c (BL.set i u)) (hg:w.grownBy w' (aI r.aa.A r.aa.c)) : SX w' lo r s (BL.set i u):=by
 have hG:=h.row.gr hg;exact ⟨h.words.aN hG rfl,h.heap.aN hG rfl,hO,h.each.mono fun _ _ h=>h.aN hG rfl,h.pair⟩
theorem sk.aZ {l':List Int} (h:SX w lo r s cs) (hI:SI w lo r s cs) (hi:i<cs.length) (nO:i<s.aa.length) (hO:Own w' lo 3 1 bw cs[i].ao.A cs[i].ao.n cs[i].ao.c l') (hg:w.grownBy w' (aI cs[i].ao.A cs[i].ao.c)) :
 SX w' lo r ⟨s.Words,s.Heap,s.aa.set i ⟨s.aa[i].Names,s.aa[i].aA,s.aa[i].bK,s.aa[i].Order,s.aa[i].ab,l'⟩⟩ cs∧SI w' lo r ⟨s.Words,s.Heap,s.aa.set i ⟨s.aa[i].Names,s.aa[i].aA,s.aa[i].bK,s.aa[i].Order,s.aa[i].ab,l'⟩⟩ cs:=by
 obtain ⟨m1,m2,h1,h2,h3,h4,h5⟩:=hI.ints;have hc:=h.each.get i hi nO;have Ox:=h5.get i hi nO;have hG:=hc.aZ.gr hg;have Lb:=Ox.aZ.ba;have Ir:cs.set i cs[i]=cs:=adK hi
 have hh:jH w' m1 m2 r.Heap s.Heap:=by
  cases e:aI cs[i].ao.A cs[i].ao.c with
  | none=>rw [e] at hg;exact h4.aN (⟨none,hg,fun k hk=>by cases hk⟩ : rF w w' 44) rfl
  | some g=>rw [e] at hg;exact h4.Iq hg hG (.inr (Lb g e))
 have Ts:Own w' lo 3 1 bw r.Words.A r.Words.n r.Words.c s.Words:=h.words.apart hg fun g e e2=>by
  have:=h3 g e;have:=Lb g e2;omega
 refine ⟨⟨Ts,hh.own.low h1,h.row.aN hG rfl,?_,h.pair⟩,⟨m1,m2,h1,h2,h3,hh,?_⟩⟩
 ·have:=fY.setAt (x:=cs[i]) (R':=oz w' lo) h.each (i:=i) (y:=⟨s.aa[i].Names,s.aa[i].aA,s.aa[i].bK,s.aa[i].Order,s.aa[i].ab,l'⟩) ⟨hc.size,hc.per,hc.order,hc.names.aN hG rfl,hc.aD.aN hG rfl,hO⟩ fun j h1 h2 js ho=>⟨ho.size,ho.per,ho.order,ho.names.aN hG rfl,ho.aD.aN hG rfl,ho.aZ.grown hg (pQ (.inl (nZ h.pair hi h1 js).aZ))⟩
  rwa [Ir] at this
 ·have Oy:Own w' m2 3 1 bw cs[i].ao.A cs[i].ao.n cs[i].ao.c l':=hO.up Lb
  have:=fY.setAt (x:=cs[i]) (R':=oz w' m2) h5 (i:=i) (y:=⟨s.aa[i].Names,s.aa[i].aA,s.aa[i].bK,s.aa[i].Order,s.aa[i].ab,l'⟩) ⟨Ox.size,Ox.per,Ox.order,Ox.names.aN hG rfl,Ox.aD.aN hG rfl,Oy⟩ fun j h1 h2 js ho=>⟨ho.size,ho.per,ho.order,ho.names.aN hG rfl,ho.aD.aN hG rfl,ho.aZ.grown hg (pQ (.inl (nZ h.pair hi h1 js).aZ))⟩
  rwa [Ir] at this
theorem sk.ER {l':List Int} (h:SX w lo r s cs) (hI:SI w lo r s cs) (hO:Own w' lo 3 1 bw r.Words.A r.Words.n r.Words.c l') (hg:w.grownBy w' (aI r.Words.A r.Words.c)) : SX w' lo r ⟨l',s.Heap,s.aa⟩ cs:=by
 obtain ⟨m1,m2,h1,h2,h3,h4,h5⟩:=hI.ints;have hG:=h.words.gr hg
 have hh:jH w' m1 m2 r.Heap s.Heap:=by
  cases e:aI r.Words.A r.Words.c with
  | none=>rw [e] at hg;exact h4.aN (⟨none,hg,fun k hk=>by cases hk⟩ : rF w w' 44) rfl
  | some g=>rw [e] at hg;exact h4.Iq hg hG (.inl (h3 g e))
 refine ⟨hO,hh.own.low h1,h.row.aN hG rfl,⟨h.each.len,fun j hj o6 => ?_⟩,h.pair⟩;have ho:=h.each.get j hj o6
 exact ⟨ho.size,ho.per,ho.order,ho.names.aN hG rfl,ho.aD.aN hG rfl,ho.aZ.apart hg fun g e e2=>by
  have:=h3 g e2;have:=(h5.get j hj o6).aZ.ba g e;omega⟩
end
variable {cp:Int} {row:Option Nat} {u0 u1:dZ} {z0 z1:ak}
structure pR (w:World) (lo:Nat) (m li lv:ga) (ls:List du) (h:Heap) : Prop where
 ef:Own w lo 3 1 bw m.A m.n m.c h.dK
 live:Own w lo 147 3 aO lv.A lv.n lv.c h.Live
 lists:gd w lo li ls h.av
section
variable {w w':World} {lo t:Nat} {m li lv:ga} {ls:List du} {h:Heap}
theorem pR.ext (a:pR w lo m li lv ls h) (hx:Ext w w') : pR w' lo m li lv ls h:=⟨a.ef.ext hx,a.live.ext hx,a.lists.ext hx⟩
theorem pR.aN (a:pR w lo m li lv ls h) (hG:rF w w' t) (bL:(Nat.beq t 3 || (Nat.beq t 147 || Nat.beq t 159))=false) : pR w' lo m li lv ls h:=by
 simp only [Bool.or_eq_false_iff] at bL;obtain ⟨h1,h2,h3⟩:=bL;exact ⟨a.ef.aN hG h1,a.live.aN hG h2,a.lists.aN hG (by simp [h1,h3])⟩
theorem jC.split {r:ju} (a:jC w lo r h) (hz:h.bp=[z0,z1]) : ∃ g c u0 u1 ls,r.bp=⟨some ⟨g,0,none⟩,2,c⟩∧gu w lo g c u0 u1 (z0,z1)∧pR w lo r.dK r.av r.Live ls h:=by
 obtain ⟨zs,Db⟩:=a.cr;obtain ⟨ls,FU⟩:=a.lists;have l0:=Db.each.len;rw [hz] at l0;obtain ⟨u0,u1,rfl⟩:=zh (show zs.length=2 from l0);have l1:=Db.row.len;have h0:=Db.each.get 0 (by simp) (by simp [hz]);have h1:=Db.each.get 1 (by simp) (by simp [hz]);simp only [hz] at h0 h1;have hc : 0<r.bp.c:=by have:=Db.row.le;simp at l1;omega
 obtain ⟨g,rest,hA,dz,_⟩:=Db.row.opened hc;refine ⟨g,r.bp.c,u0,u1,ls,?_,⟨?_,h0,h1,dz,hc⟩,⟨a.ef,a.live,FU⟩⟩
 ·rw [<- hA];have:(2:Nat)=r.bp.n:=l1
  rw [this]
 ·have:=Db.row
  rw [hA,<- l1] at this;exact this
theorem pR.join (a:pR w lo m li lv ls h) {g c:Nat} {s:ak×ak} (hZ:gu w lo g c u0 u1 s) (hc:cp=h.bG) : jC w lo ⟨⟨some ⟨g,0,none⟩,2,c⟩,m,cp,.nil,lv⟩ ⟨[s.1,s.2],h.dK,h.bG,[],h.Live⟩ :=
 ⟨hc,a.ef,a.live,⟨[u0,u1],⟨hZ.row,fY.snoc (fY.snoc fY.nil hZ.z0) hZ.z1⟩⟩,⟨[],.nil _ _⟩⟩
end
structure G2 (w0 w:World) (g b:Nat) : Prop where
 os:w.os=w0.os
 tape:w.tape=w0.tape
 output:w.output=w0.output
 size:w0.heap.size<=w.heap.size
 block:∀ k,k<w0.heap.size->k≠g->k≠b->w.heap[k]?=w0.heap[k]?
section
variable {w0 w w':World} {g b k t:Nat} {cs:List Value}
theorem G2.refl (w:World) (g b:Nat) : G2 w w g b:=⟨rfl,rfl,rfl,ac3 _,fun _ _ _ _=>rfl⟩
theorem G2.step (h:G2 w0 w g b) (hg:w.grownBy w' row) (hr:∀ k,row=some k->k=g∨k=b∨w0.heap.size<=k) : G2 w0 w' g b :=
 ⟨hg.os.trans h.os,hg.tape.trans h.tape,hg.output.trans h.output,ac2 h.size hg.size,fun k hk h1 h2=>by
  rw [hg.block k (adX hk h.size) (fun e=>by rcases hr k e.symm with e|e|e<;>omega)];exact h.block k hk h1 h2⟩
theorem G2.ext (h:G2 w0 w g b) (hx:Ext w w') : G2 w0 w' g b:=h.step (hx.gr none) (fun k e=>by cases e)
theorem G2.V1 (h:G2 w0 w g b) (hg:w.grownBy w' (some g)) : G2 w0 w' g b:=h.step hg (fun k e=>by cases e;exact .inl rfl)
theorem G2.V2 (h:G2 w0 w g b) (hg:w.grownBy w' (some b)) : G2 w0 w' g b:=h.step hg (fun k e=>by cases e;exact .inr (.inl rfl))
theorem G2.eG (h:G2 w0 w g b) (hB:aS w0 k t cs) (h1:k≠g) (h2:k≠b) : aS w k t cs:=(h.block k hB.lt h1 h2).trans hB
end
noncomputable def lz (h:Heap) (z0 z1:ak) (k:Nat) : ak×ak:=bV (z0,z1) ((a9 h.av).take k)
set_option maxHeartbeats 2000000 in
theorem JK (h:Heap) (z0 z1:ak) (hd:nU h z0 z1) (hs:h.small) (m:ga) (cp:Int) (li lv:ga) (ls:List du) (u0 u1:dZ) (g c b1 lo:Nat) (w w0:World) (hw:Ext w w0) (dz:w.heap.size<=lo) (sU:lo<=w0.heap.size) (L0:lo<=b1)
 (aW:aS w0 b1 41 (dC ⟨⟨some ⟨g,0,none⟩,2,c⟩,m,cp,li,lv⟩)) (hZ:gu w0 lo g c u0 u1 (z0,z1)) (hR:pR w0 lo m li lv ls h) :
 iI prog 64 [.pointer (some ⟨b1,0,none⟩)] w0 fun v w'=>Ext w w'∧G2 w0 w' g b1∧aS w' b1 41 (dC ⟨⟨some ⟨g,0,none⟩,2,c⟩,m,cp,.nil,lv⟩)∧pR w' lo m li lv ls h ∧ ∃ u0 u1,gu w' lo g c u0 u1 (bV (z0,z1) (a9 h.av)):=by
 refine dh func64 rfl ntmps64 rfl ?_;have V3:w.heap.size<=g:=ac2 dz hZ.Ij
 have DK:w.heap.size<=b1:=ac2 dz L0
 have hE:=G2.refl w0 g b1;have mv:=hR.lists.rd.len;have s4:=hs.lists;have QS:=hR.lists.row.sl.base;refine Wz ?_
 refine CW.loop (fun t:Nat×dZ×dZ=>[(0,.pointer (some ⟨b1,0,none⟩)),(9,.slice li.A li.n li.c),(10,.int .i64 (li.n:Int)),(11,.int .i64 (t.1:Int))])
  (fun t w'=>t.1<=li.n∧Ext w w'∧G2 w0 w' g b1∧lo<=w'.heap.size∧aS w' b1 41 (dC ⟨⟨some ⟨g,0,none⟩,2,c⟩,m,cp,li,lv⟩)∧gu w' lo g c t.2.1 t.2.2 (lz h z0 z1 (ki h.av t.1))∧pR w' lo m li lv ls h) (fun t=>li.n-t.1) (0,u0,u1)
  ⟨rfl,rfl,rfl,rfl,trivial⟩ ⟨by omega,hw,hE,sU,aW,by simpa [lz,ki,a9,bV] using hZ,hR⟩ ?_
 clear hw hE aW hZ hR QS sU;rintro ⟨i,u0,u1⟩ w' ⟨hi,hw,hE,sU,aW,hZ,hR⟩
 simp only at hi hZ ⊢;have hA:=hR.lists.row.sl.base;by_cases cQ:i<li.n
 ·have rI:i<h.av.length:=by omega
  have Bb:i<ls.length:=by omega
  have vZ:=hR.lists.each.get i Bb rI;have DP:=vZ.bC.sl.len;have KS:=hs.bC _ (ac0 rI);repeat' (first|refine Wz ?_|refine Wm ((hR.lists.row.sl.all cQ)) ?_)
  have oy:=hw.size;refine SW.alloc rfl fun b3 w1 ai cg ap => ?_
  skip;refine SW.ag ap rfl rfl rfl rfl (im.one (enc:=ck) _) fun w2 dW hg => ?_
  have ar:=ai.own cg hg;have fW:=hw.up cg
  obtain ⟨hw,aW,hZ,hR,hE⟩:=fI ar hw aW hZ hR hE;have ap:=dW;clear dW ai hg ar;have KT:=(hR.lists.each.get i Bb rI).bC.sl.base;have Tt:lo<=w2.heap.size:=ac2 sU (ac2 cg (aef ap.lt))
  refine Wz ?_
  refine CW.loop (fun t:Nat×dZ×dZ=>[(0,.pointer (some ⟨b1,0,none⟩)),(9,.slice li.A li.n li.c),(10,.int .i64 (li.n:Int)),(11,.int .i64 (i:Int)),(16,.slice ls[i].ax.A ls[i].ax.n ls[i].ax.c),(17,.int .i64 (ls[i].ax.n:Int)),(18,.int .i64 (t.1:Int))])
   (fun t w'=>t.1<=ls[i].ax.n∧Ext w w'∧G2 w0 w' g b1∧lo<=w'.heap.size∧aS w' b1 41 (dC ⟨⟨some ⟨g,0,none⟩,2,c⟩,m,cp,li,lv⟩)∧gu w' lo g c t.2.1 t.2.2 (lz h z0 z1 (ki h.av i+t.1))∧pR w' lo m li lv ls h) (fun t=>ls[i].ax.n-t.1) (0,u0,u1)
   ⟨rfl,rfl,rfl,rfl,rfl,rfl,rfl,trivial⟩ ⟨by omega,hw,hE,Tt,aW,hZ,hR⟩ ?_
  clear hw hE aW hZ hR ap sU Tt oy hA KT cg fW vZ;rintro ⟨j,u0,u1⟩ w' ⟨hj,hw,hE,sU,aW,hZ,hR⟩
  simp only at hj hZ ⊢;by_cases pB:j<ls[i].ax.n
  ·have pA:j<h.av[i].ax.length:=by omega
   have vZ:=hR.lists.each.get i Bb rI;have KT:=vZ.bC.sl.base;obtain ⟨hK,Tc⟩:=ya rI pA;have hN:=hd.next hK;have hD:=hd.inv (ki h.av i+j) (by omega);have hT:=ni (z0,z1) (a9 h.av) _ hK;rw [Tc] at hN hT;have R6:lz h z0 z1 (ki h.av i+(j+1))=gp (lz h z0 z1 (ki h.av i+j)) (ct h.av[i].ax[j]):=hT
   repeat' (first|refine Wz ?_|refine Wl (vZ.bC.sl.one pB rfl) ?_)
   refine SW.dT rfl rfl (wg m cp li lv u0 u1 _ _ (ct h.av[i].ax[j]) lo g c b1 _ aW hZ sU hD hN) fun v w5 hv => ?_
   obtain ⟨hg,u2,u3,FV⟩:=hv;have hG:=hZ.gr hg;have hw:=hw.own V3 hg;have hE:=hE.V1 hg;obtain ⟨aW,hR⟩:=cX hG aW hR;have sU:=ac2 sU hg.size;refine Wz ?_;refine ae.again (j+1,u2,u3) ⟨rfl,rfl,rfl,rfl,rfl,rfl,rfl,trivial⟩ (by simp only;omega) ⟨by simp only;omega,hw,hE,sU,aW,?_,hR⟩;simp only;rw [R6];exact FV
  ·have ej:ki h.av i+j=ki h.av (i+1):=by rw [zd rI];omega
   rw [ej] at hZ;refine Wz ?_;exact ae.again (i+1,u0,u1) ⟨rfl,rfl,rfl,rfl,trivial⟩ (by simp only;omega) ⟨by simp only;omega,hw,hE,sU,aW,hZ,hR⟩
 ·have ei:i=h.av.length:=by omega
  have QV:lz h z0 z1 (ki h.av i)=bV (z0,z1) (a9 h.av):=by
   rw [ei,C7,lz,adf (ac3 _)]
  rw [QV] at hZ;refine Wz ?_;refine Wb (i:=3) aW fun w6 tm hg => ?_
  have hG:=aW.gr hg;have hw:=hw.own DK hg;refine Wz ?_;exact ae.pI rfl ⟨_,rfl,hw,hE.V2 hg,tm,hR.aN hG rfl,u0,u1,hZ.aN hG rfl⟩
noncomputable def tI (z:ak) (a:Int) : Int×Int:=if fD z then (if z.aU<=a∧a<z.To then (z.Types.getD ((a-z.aU) / 8).toNat 0,0) else (0,1)) else (0,8)
noncomputable def sn (z:ak) : Int×Int:=if fD z then (jW z.aj,0) else (0,8)
theorem GW (r:dZ) (z:ak) (w:World) (hr:F6 w r z) (hf:r.aj.n<=100000000000000000) (ht:r.Types.n<=1000000000000000000) (h1 : -9223372036854775808<=r.aU∧r.aU<=9223372036854775807) (h2 : -9223372036854775808<=r.To∧r.To<=9223372036854775807) :
 bI prog 149 [.agg (dp r).toArray] w fun v _=>v = .tuple #[.int .i64 (sn z).1,.int .i64 (sn z).2]:=by
 refine aE func149 rfl ntmps149 rfl ?_;refine CW.seq (CW.region (SW.box rfl rfl fun b1 w1 hw lc aW => ?_));have NZ:=hr.free.len;obtain ⟨q,hq⟩ : ∃ q,fD z=q:=⟨_,rfl⟩
 have c1:∀ w',Ext w w'->bI prog 80 [.agg (dp r).toArray] w' fun v _=>v = .int .i64 (if q then 0 else 8):=fun w' h=>by
  have:=kJ r z w' (hr.ext h) (by omega) (by omega) h1 h2
  rwa [hq] at this
 cases q
 ·have e:sn z=(0,8):=by simp [sn,hq]
  rw [e];simp only [Bool.false_eq_true,if_false] at c1;repeat' (first|refine Wz ?_|(refine Wk (c1 _ hw) ?_;intro v w1 ai hv;subst hv;obtain ⟨hw,aW⟩:=cX ai hw aW;clear ai))
  exact ae.dj rfl rfl rfl ⟨_,rfl,hw,rfl⟩
 ·simp only [if_true] at c1;have hz:=fg.1 hq;have e:sn z=(jW z.aj,0):=by simp [sn,hq]
  rw [e];repeat' (first|refine Wz ?_|(refine Wk (c1 _ hw) ?_;intro v w1 ai hv;subst hv;obtain ⟨hw,aW⟩:=cX ai hw aW;clear ai))
  refine CW.loop (fun k:Nat=>[(5,.int .i64 (jW (z.aj.take k))),(14,.slice r.aj.A r.aj.n r.aj.c),(15,.int .i64 (r.aj.n:Int)),(16,.int .i64 (k:Int))]) (fun k w'=>k<=r.aj.n∧Ext w w') (fun k=>r.aj.n-k) 0 ⟨rfl,rfl,rfl,rfl,trivial⟩ ⟨by omega,hw⟩ ?_;clear hw aW;rintro k w' ⟨hk,hw⟩
  have hA:=hr.free.base;by_cases gh:k<r.aj.n
  ·have iw:=hr.free.lt gh;obtain ⟨f1,f2,_⟩:=(hz.eG k iw).1;have hp:=cy f1 f2;have et:=uL z.aj k iw;have hs:=o7 hz k (by omega);repeat' (first|refine Wz ?_|refine Wo hw ((hr.free.all gh)) ?_)
   refine SW.alloc rfl fun b7 w3 nL iB bd => ?_
   have fX:=hw.up iB
   have hw:=hw.trans nL;skip;refine SW.ag bd rfl rfl rfl rfl (im.one (enc:=aO) _) fun w4 bq hg => ?_
   have hw:=hw.own fX hg;repeat' (first|refine Wz ?_|(refine SW.st (fA (r:=pw (z.aj[k]).Order) rfl rfl (by omega) (by omega) (by simp [pw]) (by omega) (by omega)) rfl ?_))
   exact ae.again (k+1) ⟨by rw [et];rfl,rfl,rfl,rfl,trivial⟩ (by omega) ⟨by omega,hw⟩
  ·refine Wz ?_;refine ae.dj rfl rfl rfl ⟨_,rfl,hw,?_⟩;rw [adf (by omega)]
theorem QW.GX (r:dZ) (z:ak) (a:Int) (w:World) (hr:F6 w r z) (hf:r.aj.n<=2305843009213693952) (ht:r.Types.n<=1000000000000000000) (h1 : -9223372036854775808<=r.aU∧r.aU<=9223372036854775807) (h2 : -9223372036854775808<=r.To∧r.To<=9223372036854775807) :
 bI prog 97 [.agg (dp r).toArray,.int .i64 a] w fun v _=>v = .tuple #[.int .i64 (tI z a).1,.int .i64 (tI z a).2]:=by
 refine aE func97 rfl ntmps97 rfl ?_;refine CW.seq (CW.region (SW.box rfl rfl fun b1 w1 hw lc aW => ?_));have eF:=hr.from_;have eT:=hr.o8;have SK:=hr.types.len;obtain ⟨q,hq⟩ : ∃ q,fD z=q:=⟨_,rfl⟩
 have c1:∀ w',Ext w w'->bI prog 80 [.agg (dp r).toArray] w' fun v _=>v = .int .i64 (if q then 0 else 8):=fun w' h=>by
  have:=kJ r z w' (hr.ext h) hf (by omega) h1 h2
  rwa [hq] at this
 cases q
 ·have e:tI z a=(0,8):=by simp [tI,hq]
  rw [e];simp only [Bool.false_eq_true,if_false] at c1;repeat' (first|refine Wz ?_|(refine Wk (c1 _ hw) ?_;intro v w1 ai hv;subst hv;obtain ⟨hw,aW⟩:=cX ai hw aW;clear ai))
  exact ae.dj rfl rfl rfl ⟨_,rfl,hw,rfl⟩
 ·simp only [if_true] at c1;have hz:=fg.1 hq;obtain ⟨o1,o2,o3,o4,o5⟩:=hz.ok;have hA:=hr.types.base;by_cases cQ:z.aU<=a∧a<z.To
  ·obtain ⟨k,hk,iw⟩:=HU hz cQ.1 cQ.2;have gh:k<r.Types.n:=by omega
   have e:tI z a=(z.Types[k],0):=by simp [tI,hq,cQ,hk,List.getD_eq_getElem?_getD,List.getElem?_eq_getElem iw]
   rw [e];obtain ⟨i1,i2⟩:=id cQ;repeat' (first|refine Wz ?_|refine SW.st (cm (k) rfl rfl (by assumption) (by omega) (by omega)) rfl ?_|refine Wn hw (hr.types.one gh rfl) ?_|(refine Wk (c1 _ hw) ?_;intro v w1 ai hv;subst hv;obtain ⟨hw,aW⟩:=cX ai hw aW;clear ai))
   all_goals try omega
   exact ae.dj rfl rfl rfl ⟨_,rfl,hw,rfl⟩
  ·have e:tI z a=(0,1):=by simp only [tI,hq,if_true,if_neg cQ]
   rw [e];repeat' (first|refine Wz ?_|refine SW.fZ rfl rfl rfl (fun h => ?_) (fun h => ?_)|(refine Wk (c1 _ hw) ?_;intro v w1 ai hv;subst hv;obtain ⟨hw,aW⟩:=cX ai hw aW;clear ai))
   all_goals try omega
   all_goals exact ae.dj rfl rfl rfl ⟨_,rfl,hw,rfl⟩
variable {β:Type}
def kF (lo:Nat) (o:Int×Heap) (v:Value) (w:World) : Prop := ∃ s:ju,v = .tuple #[.agg (dC s).toArray,.int .i64 o.1]∧jC w lo s o.2
theorem kF.zero (e:Int) (lo:Nat) (w:World) : kF lo (e,⟨[],[],0,[],[]⟩) (.tuple #[.agg (dC .zero).toArray,.int .i64 e]) w:=⟨.zero,rfl,jC.zero w lo⟩
theorem fY.two {R : α -> β -> Prop} {a b : α} {c d : β} (h1:R a c) (h2:R b d) : fY R [a,b] [c,d]:=fY.snoc (fY.snoc fY.nil h1) h2
variable {a:Int} {z:ak}
theorem L4 (h:bU z) (h1:z.aU<=a) (h2:a<z.To) : tI z a=(zo z a,0):=by
 simp only [tI,xV h,if_true,if_pos (And.intro h1 h2)];rfl
set_option maxHeartbeats 8000000 in
theorem ve (r:ju) (h:Heap) (cpu a:Int) (w:World) (hr:HY w r h) (hs:h.small) (NF:∀ z∈h.bp,fF z) (ha : -9223372036854775808<=a∧a<=9223372036854775807) :
 bI prog 55 [.agg (dC r).toArray,.int .i64 cpu,.int .i64 a] w (kF w.heap.size (fa h cpu a)):=by
 refine aE func55 rfl ntmps55 rfl ?_;refine CW.seq (CW.region (SW.box rfl rfl fun b3 w1 hw cg ap => ?_));have fW:=cg;refine SW.alloc rfl fun b6 w2 bt dt aq => ?_
 have cG:w.heap.size<=b6:=ac2 hw.size dt
 have oG:b3≠b6:=by have:=ap.lt;omega
 (replace hw:=Ext.trans hw bt;replace ap:=ap.ext bt);have eC:=hr.cpus;obtain ⟨q,hq⟩ : ∃ q,iX h=q:=⟨_,rfl⟩
 have c1:∀ w',Ext w w'->bI prog 61 [.agg (dC r).toArray] w' fun v _=>v = .int .i64 (if q then 0 else 8):=fun w' hx=>by
  have:=qF r h w' (hr.ext hx) hs NF
  rwa [hq] at this
 cases q
 ·simp only [Bool.false_eq_true,if_false] at c1;rw [Ig hq];repeat' (first|refine Wz ?_|(refine Wk (c1 _ hw) ?_;intro v w1 ai hv;subst hv;replace hw:=Ext.trans hw ai;replace ap:=ap.ext ai;replace aq:=aq.ext ai;clear ai))
  refine SW.ag aq rfl rfl rfl rfl (dU .zero) fun w5 cS hg => ?_
  replace hw:=hw.own cG hg;refine Wz ?_;exact ae.dw rfl rfl rfl cS rfl ⟨_,rfl,hw,kF.zero 8 _ _⟩
 ·simp only [if_true] at c1;have hm:=cn.1 hq;obtain ⟨z0,z1,f⟩:=gq hm;by_cases hc : 0<=cpu∧cpu<h.bG
  ·repeat' (first|refine Wz ?_|(refine Wk (c1 _ hw) ?_;intro v w1 ai hv;subst hv;replace hw:=Ext.trans hw ai;replace ap:=ap.ext ai;replace aq:=aq.ext ai;clear ai))
   all_goals try omega
   clear c1;have R9:=hr.live.len;have s2:=hs.live;have eQ:=kE f.live;refine Wk (Js r h.Live a _ (hr.live.ext hw) eQ (fun b hb=>by obtain ⟨k,hk,rfl⟩:=ac1 hb;exact (f.live.each k hk).2.1) (by omega) ha) fun v w4 ko hv => ?_
   (replace hw:=Ext.trans hw ko;replace ap:=ap.ext ko;replace aq:=aq.ext ko);cases hf:bO h.Live a
   ·rw [Ih hq hc hf];obtain ⟨i,rfl⟩:=hv.2 hf;repeat' (first|refine Wz ?_|(refine CW.gj rfl ?_))
    refine SW.ag aq rfl rfl rfl rfl (dU .zero) fun w5 cS hg => ?_
    replace hw:=hw.own cG hg;refine Wz ?_;exact ae.dw rfl rfl rfl cS rfl ⟨_,rfl,hw,kF.zero 4 _ _⟩
   ·rw [nk hq hc hf];have hv:=hv.1 hf;subst hv;obtain ⟨hk,PL⟩:=jx hf;obtain ⟨k,ek⟩ : ∃ k,bE h.Live a=k:=⟨_,rfl⟩;simp only [ek] at hk PL ⊢;have Ji:=f.live.each k hk;have X7:=f.next hk;repeat' (first|refine Wz ?_|(refine CW.fU rfl ?_))
    refine Wk (tW r h _ (hr.ext hw) hs) fun v w4 ko hv => ?_
    obtain ⟨s,rfl,hO⟩:=hv;have hM:=hO.own.ef.low hw.size;have hV:=hO.own.live.low hw.size;have Be:=hO.own.cpus;obtain ⟨g,c,u0,u1,ls,eZ,hZ,hL,xB,NE⟩:=hO.split f.d.cr;have hZ:gu w4 w.heap.size g c u0 u1 (z0,z1):=⟨hZ.row.low hw.size,hZ.z0.low hw.size,hZ.z1.low hw.size,ac2 hw.size hZ.Ij,hZ.pos⟩
    replace hL:=hL.low hw.size;clear hO;(replace hw:=Ext.trans hw ko;replace ap:=ap.ext ko;replace aq:=aq.ext ko);obtain ⟨sz,m,cp,li,lv⟩:=s;simp only at eZ hM hV hL xB NE Be;subst eZ;refine SW.ag ap rfl rfl rfl rfl (dU ⟨⟨some ⟨g,0,none⟩,2,c⟩,m,cp,li,lv⟩) fun w5 dW hg => ?_
    have hG:=ap.gr hg;replace hw:=hw.own fW hg;replace aq:=aq.grown hg (by simpa using Ne.symm oG);(replace hZ:=hZ.aN hG rfl;replace hM:=hM.aN hG rfl;replace hV:=hV.aN hG rfl;replace hL:=hL.aN hG rfl);replace ap:=dW;clear dW hg hG;have hvn:=hV.len;have gh:k<lv.n:=by omega
    have ZH:=hV.sl.base;repeat' (first|refine Wz ?_|refine Wm ((hV.sl.all gh)) ?_)
    have Tu:=hV.lt_size;refine SW.alloc rfl fun N9 w1 ai so gR => ?_
    skip;refine SW.ag gR rfl rfl rfl rfl (im.one (enc:=aO) _) fun w2 oI hg => ?_
    have ar:=ai.own so hg;have L5:w.heap.size<=N9:=ac2 hw.size so
    replace hw:=Ext.trans hw ar;replace ap:=ap.ext ar;replace aq:=aq.ext ar;replace hZ:=hZ.ext ar;replace hM:=hM.ext ar;replace hV:=hV.ext ar;replace hL:=hL.ext ar;replace gR:=oI;clear oI ai hg ar;have PM:aI lv.A lv.c≠some N9:=fun e=>by have:=Tu _ e;omega
    refine Wz ?_;refine SW.dT rfl rfl (mR lv.A lv.n lv.c w.heap.size h.Live _ hV k gh (by omega) hw.size) fun v w6 hv => ?_
    obtain ⟨rfl,Dj,hg⟩:=hv;have hG:=hV.gr hg;replace hw:=aF hw hg (ac3 _) hV.ba;replace hZ:=hZ.GJ NE hg hG;replace gR:=gR.grown hg (fun e=>PM e.symm);(replace ap:=ap.aN hG rfl;replace aq:=aq.aN hG rfl;replace hM:=hM.aN hG rfl;replace hL:=hL.aN hG rfl);replace hV:=Dj;clear Dj hg hG;refine Wz ?_;refine Wb (i:=4) ap fun w7 dW hg => ?_
    have hG:=ap.gr hg;replace hw:=hw.own fW hg;replace aq:=aq.grown hg (by simpa using Ne.symm oG);(replace hZ:=hZ.aN hG rfl;replace hM:=hM.aN hG rfl;replace hV:=hV.aN hG rfl;replace hL:=hL.aN hG rfl;replace gR:=gR.aN hG rfl);replace ap:aS w7 b3 41 (dC ⟨⟨some ⟨g,0,none⟩,2,c⟩,m,cp,li,⟨lv.A,lv.n-1,lv.c⟩⟩):=dW;clear dW hg hG PM Tu;have tR:b6≠g:=fun e=>hZ.row.fb aq rfl (by rw [hZ.own,e])
    have qo:b3≠g:=fun e=>hZ.row.fb ap rfl (by rw [hZ.own,e])
    by_cases ho : 0<h.Live[k].Order
    ·rw [qH f.d.cr hk ek ho];refine Wz ?_;refine SW.dT rfl rfl (wg m cp li ⟨lv.A,lv.n-1,lv.c⟩ u0 u1 _ _ h.Live[k] w.heap.size g c b3 _ ap hZ hw.size f.d.start X7) fun v w8 hv => ?_
     obtain ⟨hg,u2,u3,FV⟩:=hv;have hG:=hZ.gr hg;replace hw:=hw.own hZ.Ij hg;(replace ap:=ap.aN hG rfl;replace aq:=aq.aN hG rfl;replace hM:=hM.aN hG rfl;replace hV:=hV.aN hG rfl;replace hL:=hL.aN hG rfl);clear hZ hg hG gR;refine Wz ?_;refine SW.ag aq rfl rfl rfl rfl (dU ⟨⟨some ⟨g,0,none⟩,2,c⟩,m,cp,li,⟨lv.A,lv.n-1,lv.c⟩⟩) fun w9 cS hg => ?_
     have hG:=aq.gr hg;replace hw:=hw.own cG hg;replace FV:=FV.aN hG rfl;(replace hM:=hM.aN hG rfl;replace hV:=hV.aN hG rfl;replace hL:=hL.aN hG rfl);refine Wz ?_;exact ae.dw rfl rfl rfl cS rfl ⟨_,rfl,hw,⟨⟨some ⟨g,0,none⟩,2,c⟩,m,cp,li,⟨lv.A,lv.n-1,lv.c⟩⟩,rfl,⟨Be,hM,hV,⟨[u2,u3],⟨FV.row,fY.two FV.z0 FV.z1⟩⟩,⟨ls,hL⟩⟩⟩
    ·rw [qI f.d.cr hk ek ho];have Oz:h.Live[k].Order=0:=by have:=Ji.1.1;omega
     have FW:=X7.at_;rw [PL] at FW;have ZE:u0.To=z0.To:=hZ.z0.o8
     have hmd:=f.d.DO;have Vs:=f.d.Jn
     have F1:∃ (zi:Nat) (ui:dZ) (zz:ak),∃ k0:zi<2,[u0,u1][zi]'k0=ui∧(if a<u0.To then (0:Int) else 1)=(zi:Int)∧iA w7 w.heap.size ui zz∧bU zz∧(zz.aU<=a∧a<zz.To)∧keyOf z0 z1 cpu a=⟨cpu,(zi:Int),zo zz a,[]⟩:=by
      by_cases hx:a<z0.To
      ·exact ⟨0,u0,z0,by omega,rfl,by rw [if_pos (by omega)];rfl,hZ.z0,f.d.lN,⟨by have:=f.d.pK;omega,hx⟩,by unfold keyOf;rw [if_pos hx,if_pos hx];rfl⟩
      ·exact ⟨1,u1,z1,by omega,rfl,by rw [if_neg (by omega)];rfl,hZ.z1,f.d.lq,⟨by omega,by omega⟩,by unfold keyOf;rw [if_neg hx,if_neg hx];rfl⟩
     obtain ⟨zi,ui,zz,k0,QX,sQ,DR,QY,⟨N2,ZW⟩,qJ⟩:=F1
     have cz:∀ w',Sl w' 4 dp (some ⟨g,0,none⟩) 2 [u0,u1]->bI prog 96 [.agg (dC ⟨⟨some ⟨g,0,none⟩,2,c⟩,m,cp,li,⟨lv.A,lv.n-1,lv.c⟩⟩).toArray,.int .i64 a] w' fun v _=>v = .int .i64 (zi:Int):=fun w' h=>by
      have:=we ⟨⟨some ⟨g,0,none⟩,2,c⟩,m,cp,li,⟨lv.A,lv.n-1,lv.c⟩⟩ u0 u1 a w' h
      rwa [sQ] at this
     have ZX:=hZ.row.sl.base;obtain ⟨t,ht⟩ : ∃ t,zo zz a=t:=⟨_,rfl⟩;obtain ⟨q1,q2,q3,q4⟩:=sR DR QY;repeat' (first|refine Wz ?_|(refine Wk (cz _ hZ.row.sl) ?_;intro v w1 ai hv;subst hv;replace hw:=Ext.trans hw ai;replace ap:=ap.ext ai;replace aq:=aq.ext ai;replace gR:=gR.ext ai;replace hZ:=hZ.ext ai;replace hM:=hM.ext ai;replace hV:=hV.ext ai;replace hL:=hL.ext ai;replace DR:=DR.ext ai;clear ai))
     have fz:=hZ.row.sl.all k0;simp only [QX] at fz;repeat' (first|refine Wz ?_|refine Wm fz ?_)
     refine Wk (QW.GX ui zz a _ DR.rd (by omega) (by omega) ⟨by omega,by omega⟩ ⟨by omega,by omega⟩) fun v w8 QZ hv => ?_
     rw [L4 QY N2 ZW,ht] at hv;simp only at hv;subst hv;(replace hw:=Ext.trans hw QZ;replace ap:=ap.ext QZ;replace aq:=aq.ext QZ;replace hZ:=hZ.ext QZ;replace hM:=hM.ext QZ;replace hV:=hV.ext QZ;replace hL:=hL.ext QZ);clear DR gR fz cz;refine Wz ?_;have Tv:=hL.row.lt_size;have V4:=ap.lt;have V5:=aq.lt;refine SW.alloc rfl fun Eg w1 ai ES dL => ?_
     skip;refine SW.ag dL rfl rfl rfl rfl (LA ⟨cpu,zi,t,.nil⟩) fun w2 oJ hg => ?_
     have ar:=ai.own ES hg;have Tw:w.heap.size<=Eg:=ac2 hw.size ES
     replace hw:=Ext.trans hw ar;replace ap:=ap.ext ar;replace aq:=aq.ext ar;replace hZ:=hZ.ext ar;replace hM:=hM.ext ar;replace hV:=hV.ext ar;replace hL:=hL.ext ar;replace dL:=oJ;clear oJ ai hg ar;refine Wz ?_;replace aq:aS w2 b6 41 (dC .zero):=aq;have UK:∀ l∈h.av,l.ax.length<=1000:=fun l hl=>by have:=(f.lists l hl).2;omega
     obtain ⟨F,hF⟩ : ∃ F:World->Prop,F=fun v=>aS v b6 41 (dC .zero)∧aS v Eg 159 (ck ⟨cpu,zi,t,.nil⟩)∧gu v w.heap.size g c u0 u1 (z0,z1)∧Own v w.heap.size 3 1 bw m.A m.n m.c h.dK∧Own v w.heap.size 147 3 aO lv.A (lv.n-1) lv.c (h.Live.eraseIdx k):=⟨_,rfl⟩
     have ZY:=aq.lt;have V6:=dL.lt;have X8:aI li.A li.c≠some b6:=hL.row.fb aq rfl
     have sh:Oq F w2:=by
      rw [hF];exact ⟨⟨aq,dL,hZ,hM,hV⟩,fun v v' hx hP=>⟨hP.1.ext hx,hP.2.1.ext hx,hP.2.2.1.ext hx,hP.2.2.2.1.ext hx,hP.2.2.2.2.ext hx⟩⟩
     have NI:∀ (v v':World) (row:Option Nat),v.grownBy v' row->(∀ k,row=some k->k=b3∨aI li.A li.c=some k∨w2.heap.size<=k)->F v->F v':=fun v v' row hg yi hP=>by
      rw [hF] at hP ⊢;refine ⟨hP.1.grown hg (fun e => ?_),hP.2.1.grown hg (fun e => ?_),hP.2.2.1.parts hg ((hZ.row.ns hL ap rfl rfl).ne yi) ((hZ.z0.free.ns hL ap rfl rfl).ne yi) ((hZ.z0.types.ns hL ap rfl rfl).ne yi) ((hZ.z1.free.ns hL ap rfl rfl).ne yi) ((hZ.z1.types.ns hL ap rfl rfl).ne yi),hP.2.2.2.1.apart hg ((hM.ns hL ap rfl rfl).ne yi),hP.2.2.2.2.apart hg ((hV.ns hL ap rfl rfl).ne yi)⟩
      ·rcases yi b6 e.symm with h|h|h
       ·exact oG h.symm
       ·exact X8 h
       ·omega
      ·rcases yi Eg e.symm with h|h|h
       ·omega
       ·have:=Tv _ h;omega
       ·omega
     have Sd:∀ (i:Nat) (hi:i<ls.length) (v v':World),v.grownBy v' (aI ls[i].ax.A ls[i].ax.c)->F v->F v':=fun i hi v v' hg hP=>by
      rw [hF] at hP ⊢;have L6:=(hL.each.get i hi (by rw [<- hL.each.len];exact hi)).bC;exact ⟨hP.1.grown hg (fun e=>L6.fb aq rfl e.symm),hP.2.1.grown hg (fun e=>L6.fb dL rfl e.symm),hP.2.2.1.parts hg (hZ.row.oQ L6 rfl) (hZ.z0.free.oQ L6 rfl) (fun k e e2=>xB.types i hi k e2 u0 (by simp) e) (hZ.z1.free.oQ L6 rfl) (fun k e e2=>xB.types i hi k e2 u1 (by simp) e),hP.2.2.2.1.apart hg (fun k e e2=>xB.ef i hi k e2 e),hP.2.2.2.2.apart hg (hV.oQ L6 rfl)⟩
     obtain ⟨x,hx⟩ : ∃ x:aR,x=⟨cpu,zi,t,[]⟩:=⟨_,rfl⟩;have L7:v7 ⟨cpu,zi,t,.nil⟩ x:=by subst hx;exact ⟨rfl,rfl,rfl⟩
     obtain ⟨Ow,_⟩:=hL.rd.len;have OA:=f.count;have ZZ:li.n<=256:=by have:=hL.rd.len.2;omega
     refine SW.dT rfl rfl (EI ⟨some ⟨g,0,none⟩,2,c⟩ m cp li ⟨lv.A,lv.n-1,lv.c⟩ h.av ls x ⟨cpu,zi,t,.nil⟩ a F b3 w _ hw fW ap hL L7 rfl (by rw [hx]) xB.sep f.nV (by omega) UK sh NI Sd) fun v w9 hv => ?_
     obtain ⟨nC,X9,KU,wj,dW,UL,_⟩:=hv;rw [hF] at X9;obtain ⟨bP,oJ,FV,FX,Dj⟩:=X9;clear hw ap hL aq dL hZ hM hV sh NI Sd X8 ZY V6 V4 V5 Tv;have hw:=nC;have ap:=dW;have hL:=UL;have aq:=bP;have dL:=oJ;have hZ:=FV;have hM:=FX;have hV:=Dj;clear nC dW UL bP oJ FV FX Dj;obtain ⟨pg,vZ⟩ : ∃ pg,dc h.av x++[a]=pg:=⟨_,rfl⟩;have Tx:keyOf z0 z1 cpu a=x:=by rw [qJ,ht,hx]
     rw [Tx,vZ];rw [vZ] at hL;obtain ⟨xx,PN⟩ : ∃ xx:aR,(⟨x.fV,x.ak,x.Ty,pg⟩ : aR)=xx:=⟨_,rfl⟩;rw [PN] at hL;have Ya:iZ x xx:=by rw [<- PN];exact ⟨rfl,rfl,rfl⟩
     obtain ⟨e1,e2⟩:=ku (L:=h.av) Ya;obtain ⟨e3,e4⟩:=Es (L:=h.av) (x:=xx);obtain ⟨e5,e6⟩:=ku (L:=iU h.av xx) Ya;obtain ⟨p0,Bf⟩ : ∃ p0,bu h.av xx=p0:=⟨_,rfl⟩;rw [Bf] at e1 e3;have PO:=zg (L:=h.av) (x:=xx);rw [Bf] at PO;obtain ⟨Q0,Se⟩:=ads.1 PO;obtain ⟨l3,l4⟩:=hL.rd.len;have LS:p0<KU.n:=by omega
     have Q3:p0<wj.length:=by omega
     have Yb:KU.n<=257:=by
      rw [<- l4,iU];split
      ·simp;omega
      ·rw [de _ (nj _ _)];omega
     have cl:∀ w',y5 w' KU wj (iU h.av xx)->bI prog 99 [.agg (dC ⟨⟨some ⟨g,0,none⟩,2,c⟩,m,cp,KU,⟨lv.A,lv.n-1,lv.c⟩⟩).toArray,.agg (ck ⟨cpu,zi,t,.nil⟩).toArray] w' fun v _=>v = .tuple #[.int .i64 (p0:Int),.bool true]:=fun w' hh=>by
      have:=v8 ⟨⟨some ⟨g,0,none⟩,2,c⟩,m,cp,KU,⟨lv.A,lv.n-1,lv.c⟩⟩ (iU h.av xx) wj x ⟨cpu,zi,t,.nil⟩ w' hh L7 (by simp only;omega)
      rwa [e5,e3,e6,e4] at this
     repeat' (first|refine Wz ?_|(refine Wk (cl _ hL.rd) ?_;intro v w1 ai hv;subst hv;replace hw:=Ext.trans hw ai;replace ap:=ap.ext ai;replace aq:=aq.ext ai;replace hZ:=hZ.ext ai;replace hM:=hM.ext ai;replace hV:=hV.ext ai;replace hL:=hL.ext ai;clear ai))
     clear cl dL;have Z0:=hL.row.sl.base;have Dh:=hL.each.get p0 Q3 Q0;rw [Se] at Dh;have DP:=Dh.bC.sl.len;have Ve:xx.ax=pg:=by rw [<- PN]
     rw [Ve] at DP;have g3:=hL.row.sl.jL LS (j:=3) (u := .slice wj[p0].ax.A wj[p0].ax.n wj[p0].ax.c) rfl;by_cases h8 : 8<pg.length
     ·have Oh:dx h.av x=true:=by
       cases e:dx h.av x with
       | true=>rfl
       | false=>rw [nG e] at vZ;rw [<- vZ] at h8;simp at h8
      have AI:p0<h.av.length:=by rw [<- e1];exact (jY Oh).1
      have QL:dc h.av x=h.av[p0].ax:=by
       rw [iK Oh (by omega)];simp only [e1]
      rw [QL] at vZ;have hp8:=(f.lists _ (ac0 AI)).2;have Z1:pg.length=h.av[p0].ax.length+1:=by rw [<- vZ];simp
      have GA:∀ j,j<=4->pg.take j=h.av[p0].ax.take j:=fun j hj=>by rw [<- vZ,aes (by omega)]
      have iu:∀ (j:Nat) (hj:j<pg.length) (o6:j<h.av[p0].ax.length),pg[j]=h.av[p0].ax[j]:=fun j hj o6=>by
       simp only [<- vZ];exact adT o6
      have V7:kw h z0 z1 x pg (h.Live.eraseIdx k)=⟨[(bV (z0,z1) ((pg.take 4).map ct)).1,(bV (z0,z1) ((pg.take 4).map ct)).2],h.dK,h.bG,iU h.av (m8 x (pg.drop 4)),h.Live.eraseIdx k⟩:=by
       unfold kw;rw [if_pos h8]
      rw [V7];have N3:=Dh.bC.le;repeat' (first|refine Wz ?_|refine Wl g3 ?_|(refine SW.st (dk (k:=4) rfl rfl (by omega)) rfl ?_))
      refine CW.loop (fun t:Nat×dZ×dZ=>[(3,.pointer (some ⟨b3,0,none⟩)),(6,.pointer (some ⟨b6,0,none⟩)),(16,.int .i64 (p0:Int)),(107,.slice wj[p0].ax.A 4 wj[p0].ax.c),(108,.int .i64 4),(109,.int .i64 (t.1:Int))])
       (fun t w'=>t.1<=4∧Ext w w'∧aS w' b3 41 (dC ⟨⟨some ⟨g,0,none⟩,2,c⟩,m,cp,KU,⟨lv.A,lv.n-1,lv.c⟩⟩)∧aS w' b6 41 (dC .zero)∧gu w' w.heap.size g c t.2.1 t.2.2 (bV (z0,z1) ((pg.take t.1).map ct))∧Own w' w.heap.size 3 1 bw m.A m.n m.c h.dK∧Own w' w.heap.size 147 3 aO lv.A (lv.n-1) lv.c (h.Live.eraseIdx k)∧gd w' w.heap.size KU wj (iU h.av xx)) (fun t=>4-t.1) (0,u0,u1)
       ⟨rfl,rfl,rfl,rfl,rfl,rfl,trivial⟩ ⟨by omega,hw,ap,aq,by simpa [bV] using hZ,hM,hV,hL⟩ ?_
      clear hw ap aq hZ hM hV hL Dh g3 ZX qo tR;rintro ⟨j,u0,u1⟩ w' ⟨hj,hw,ap,aq,hZ,hM,hV,hL⟩
      simp only at hj hZ ⊢;have Dh:=hL.each.get p0 Q3 Q0;rw [Se] at Dh
      have Tz:Own w' w.heap.size 3 1 bw wj[p0].ax.A wj[p0].ax.n wj[p0].ax.c pg:=by
       have:=Dh.bC
       rwa [Ve] at this
      have V8:=Tz.sl.base;by_cases Yc:j<4
      ·have pB:j<wj[p0].ax.n:=by omega
       have UM:j<pg.length:=by omega
       have hD:=f.inv AI j (by omega);have hN:=f.GF AI (show j<h.av[p0].ax.length by omega)
       have UN:bV (z0,z1) ((pg.take (j+1)).map ct)=gp (bV (z0,z1) ((pg.take j).map ct)) (ct pg[j]):=by
        rw [ac5 UM,adr,nT];rfl
       rw [<- GA j hj,<- iu j UM (by omega)] at hN;rw [<- GA j hj] at hD;have hA4 : 0<4->wj[p0].ax.A.isSome=true:=fun _=>V8 (by omega)
       repeat' (first|refine Wz ?_|refine Wl (Tz.sl.one pB rfl) ?_)
       refine SW.dT rfl rfl (wg m cp KU ⟨lv.A,lv.n-1,lv.c⟩ u0 u1 _ _ (ct pg[j]) w.heap.size g c b3 _ ap hZ hw.size hD hN) fun v w8 hv => ?_
       obtain ⟨hg,u2,u3,FV⟩:=hv;have hG:=hZ.gr hg;replace hw:=hw.own hZ.Ij hg;(replace ap:=ap.aN hG rfl;replace aq:=aq.aN hG rfl;replace hM:=hM.aN hG rfl;replace hV:=hV.aN hG rfl;replace hL:=hL.aN hG rfl);refine Wz ?_;exact ae.again (j+1,u2,u3) ⟨rfl,rfl,rfl,rfl,rfl,rfl,trivial⟩ (by simp only;omega) ⟨by simp only;omega,hw,ap,aq,by simp only;rw [UN];exact FV,hM,hV,hL⟩
      ·obtain rfl:j=4:=by omega
       have Z0:=hL.row.sl.base;refine Wz ?_;refine CW.gl 13 13 (fun _=>True) mixed (by kernel_rfl) fun w1 ai aJ => ?_
       replace hw:=Ext.trans hw ai;replace ap:=ap.ext ai;replace aq:=aq.ext ai;replace hZ:=hZ.ext ai;replace hM:=hM.ext ai;replace hV:=hV.ext ai;replace hL:=hL.ext ai;replace Tz:=Tz.ext ai;clear ai;refine Wf ?_;refine Wt 8 [] [] aJ rfl (aT rfl (hL.row.sl.jL LS (j:=3) (u := .slice wj[p0].ax.A wj[p0].ax.n wj[p0].ax.c) rfl)) ?_;refine Wt 9 [] [] aJ rfl (bc (k:=4) rfl rfl (by omega) (by omega)) ?_;refine SF.one 10 rfl (by kernel_rfl) rfl ?_;refine Wk (dB _ _ _ _ _ (Tz.sl.drop 4 wj[p0].ax.c (by omega) (by omega)) (by omega)) fun v w4 ar hv => ?_
       obtain ⟨X,c4,rfl,hX⟩:=hv;replace hX:=hX.low hw.size;(replace hw:=Ext.trans hw ar;replace ap:=ap.ext ar;replace aq:=aq.ext ar;replace hZ:=hZ.ext ar;replace hM:=hM.ext ar;replace hV:=hV.ext ar;replace hL:=hL.ext ar);refine SW.nil (ae.sf ar ?_);refine Wf ?_;refine SF.last rfl (by kernel_rfl) (by kernel_rfl) ?_;refine SW.gM p0 3 ⟨wj[p0].fV,wj[p0].ak,wj[p0].Ty,⟨X,wj[p0].ax.n-4,c4⟩⟩ hL.row rfl rfl rfl LS (by decide) rfl rfl fun w6 kv tR => ?_
       have yh:=hL.row.gr tR;replace hw:=aF hw tR (ac3 _) hL.row.ba;have PA:=hL.each.get p0 Q3 Q0;rw [Se] at PA;have hE:=fY.setAt (R':=rr w6 w.heap.size) (x:=⟨wj[p0].fV,wj[p0].ak,wj[p0].Ty,⟨X,wj[p0].ax.n-4,c4⟩⟩) (y:=m8 x (pg.drop 4)) (i:=p0) hL.each ⟨PA.cpu.trans (by rw [<- PN];rfl),PA.kh.trans (by rw [<- PN];rfl),PA.ty.trans (by rw [<- PN];rfl),hX.aN yh rfl⟩ (fun j h1 h2 _ hh=>hh.aN yh rfl)
       have OB:(iU h.av xx).set p0 (m8 x (pg.drop 4))=iU h.av (m8 x (pg.drop 4)):=by
        rw [<- Bf];exact Et (by rw [<- PN];exact ⟨rfl,rfl,rfl⟩)
       rw [OB] at hE;(replace ap:=ap.aN yh rfl;replace aq:=aq.aN yh rfl;replace hZ:=hZ.aN yh rfl;replace hM:=hM.aN yh rfl;replace hV:=hV.aN yh rfl);refine Wz ?_;refine SW.ag aq rfl rfl rfl rfl (dU ⟨⟨some ⟨g,0,none⟩,2,c⟩,m,cp,KU,⟨lv.A,lv.n-1,lv.c⟩⟩) fun w9 cS hg => ?_
       have hG:=aq.gr hg;replace hw:=hw.own cG hg;(replace hZ:=hZ.aN hG rfl;replace hM:=hM.aN hG rfl;replace hV:=hV.aN hG rfl);refine Wz ?_;exact ae.dw rfl rfl rfl cS rfl ⟨_,rfl,hw,⟨⟨some ⟨g,0,none⟩,2,c⟩,m,cp,KU,⟨lv.A,lv.n-1,lv.c⟩⟩,rfl,⟨Be,hM,hV,⟨[u0,u1],⟨hZ.row,fY.two hZ.z0 hZ.z1⟩⟩,⟨_,⟨kv.aN hG rfl,hE.mono fun _ _ hh=>hh.aN hG rfl⟩⟩⟩⟩
     ·have V7:kw h z0 z1 x pg (h.Live.eraseIdx k)=⟨[z0,z1],h.dK,h.bG,iU h.av xx,h.Live.eraseIdx k⟩:=by
       unfold kw;rw [if_neg h8,<- PN];rfl
      rw [V7];repeat' (first|refine Wz ?_|refine Wl g3 ?_)
      refine SW.ag aq rfl rfl rfl rfl (dU ⟨⟨some ⟨g,0,none⟩,2,c⟩,m,cp,KU,⟨lv.A,lv.n-1,lv.c⟩⟩) fun w9 cS hg => ?_
      have hG:=aq.gr hg;replace hw:=hw.own cG hg;(replace hZ:=hZ.aN hG rfl;replace hM:=hM.aN hG rfl;replace hV:=hV.aN hG rfl;replace hL:=hL.aN hG rfl);refine Wz ?_;exact ae.dw rfl rfl rfl cS rfl ⟨_,rfl,hw,⟨⟨some ⟨g,0,none⟩,2,c⟩,m,cp,KU,⟨lv.A,lv.n-1,lv.c⟩⟩,rfl,⟨Be,hM,hV,⟨[u0,u1],⟨hZ.row,fY.two hZ.z0 hZ.z1⟩⟩,⟨wj,hL⟩⟩⟩
  ·rw [ye hq hc];repeat' (first|refine Wz ?_|refine SW.fZ rfl rfl rfl (fun h => ?_) (fun h => ?_)|(refine Wk (c1 _ hw) ?_;intro v w1 ai hv;subst hv;replace hw:=Ext.trans hw ai;replace ap:=ap.ext ai;replace aq:=aq.ext ai;clear ai))
   all_goals try omega
   all_goals
    refine SW.ag aq rfl rfl rfl rfl (dU .zero) fun w5 cS hg => ?_
    replace hw:=hw.own cG hg;refine Wz ?_;exact ae.dw rfl rfl rfl cS rfl ⟨_,rfl,hw,kF.zero 1 _ _⟩
section
variable {w w':World} {lo t:Nat} {R:List du} {L:List aR} {y:du} {x:aR}
end
variable {L:List aR}
def xI (z:ak) : Prop:=z.aj.length<=257∧z.Types.length<=32
theorem BM {s:ak×ak} (h:xI s.1∧xI s.2) (b:Block) : xI (gp s b).1∧xI (gp s b).2:=by
 unfold gp;split
 ·exact ⟨⟨(lX _ _ _).1,(lX _ _ _).2.1⟩,h.2⟩
 ·exact ⟨h.1,(lX _ _ _).1,(lX _ _ _).2.1⟩
theorem xa:∀ (l:List Block) {s:ak×ak},xI s.1∧xI s.2->xI (bV s l).1∧xI (bV s l).2
 | [],_,h=>h
 | b::l,s,h=>xa l (s:=gp s b) (BM h b)
theorem xI.small (h:xI z) : z.aj.length*24<=140737488355328∧z.Types.length*8<=140737488355328:=⟨ac2 (adt 24 h.1) (by decide),by have:=h.2;omega⟩
theorem L8 {l:List α} {b x : α} (h:x∈aM l i b) : x=b∨x∈l:=by
 unfold aM at h;rw [ac9,ac9] at h;rcases h with (h|h)|h
 ·exact .inr (adu h)
 ·exact .inl (by simpa using h)
 ·exact .inr (adI h)
theorem L9 {x y:aR} (h:y∈iU L x) : y=x∨y∈L:=by
 unfold iU at h;split at h
 ·rcases adg h with h|h
  ·exact .inr h
  ·exact .inl h
 ·exact L8 h
theorem Ma (L:List aR) (x:aR) : (iU L x).length<=L.length+1:=by
 unfold iU;split
 ·simp
 ·rw [de _ (nj L x)];omega
theorem ET {h:Heap} (f:jy h z0 z1) (x:aR) : (dc h.av x).length<=8:=by
 cases e:dx h.av x with
 | false=>rw [nG e];simp
 | true =>
   obtain ⟨h1,_⟩:=jY e;rw [iK e h1];exact (f.lists _ (ac0 h1)).2
theorem xb {h:Heap} (f:jy h z0 z1) (x:aR) (hx:x.ax.length<=9) : (iU h.av x).length*48<=140737488355328 ∧ ∀ l∈iU h.av x,l.ax.length*8<=140737488355328:=by
 have:=f.count
 have:=Ma h.av x
 refine ⟨by omega,fun l hl => ?_⟩;rcases L9 hl with rfl|hl
 ·omega
 ·have:=(f.lists l hl).2;omega
theorem xc (h:Heap) (cpu a:Int) (hs:h.small) : (fa h cpu a).2.small:=by
 have hz:((8:Int),(⟨[],[],0,[],[]⟩ : Heap)).2.small:=by constructor<;>simp
 cases hq:iX h
 ·rw [Ig hq];exact hz
 ·by_cases hc : 0<=cpu∧cpu<h.bG
  ·cases hf:bO h.Live a
   ·rw [Ih hq hc hf];exact hz
   ·rw [nk hq hc hf];obtain ⟨z0,z1,f⟩:=gq (cn.1 hq);obtain ⟨hk,_⟩:=jx hf;have Sf:=kq f.d.lN;have AV:=kq f.d.lq;have Sa:xI z0∧xI z1:=⟨⟨by omega,Sf.2⟩,⟨by omega,AV.2⟩⟩
    have tJ:(h.Live.eraseIdx (bE h.Live a)).length*24<=140737488355328:=by
     have:=hs.live
     have:=aep h.Live (bE h.Live a)
     omega
    by_cases ho : 0<h.Live[bE h.Live a].Order
    ·rw [qH f.d.cr hk rfl ho];have hb:=BM (s:=(z0,z1)) Sa h.Live[bE h.Live a];refine ⟨by simp [r7],hs.ef,hs.lists,tJ,fun z hz => ?_,hs.bC⟩;simp only [r7,List.mem_cons,List.not_mem_nil,or_false] at hz;rcases hz with rfl|rfl
     ·exact hb.1.small
     ·exact hb.2.small
    ·rw [qI f.d.cr hk rfl ho];have hp:=ET f (keyOf z0 z1 cpu a);unfold kw;split
     ·have hb:=xa (((dc h.av (keyOf z0 z1 cpu a)++[a]).take 4).map ct) (s:=(z0,z1)) Sa;obtain ⟨g1,g2⟩:=xb f (m8 (keyOf z0 z1 cpu a) ((dc h.av (keyOf z0 z1 cpu a)++[a]).drop 4)) (by simp only [m8,List.length_drop,List.length_append,List.length_singleton];omega);refine ⟨by simp,hs.ef,g1,tJ,fun z hz => ?_,g2⟩;simp only [List.mem_cons,List.not_mem_nil,or_false] at hz;rcases hz with rfl|rfl
      ·exact hb.1.small
      ·exact hb.2.small
     ·obtain ⟨g1,g2⟩:=xb f (m8 (keyOf z0 z1 cpu a) (dc h.av (keyOf z0 z1 cpu a)++[a])) (by simp only [m8,List.length_append,List.length_singleton];omega);refine ⟨by simp,hs.ef,g1,tJ,fun z hz => ?_,g2⟩;simp only [List.mem_cons,List.not_mem_nil,or_false] at hz;rcases hz with rfl|rfl
      ·exact Sa.1.small
      ·exact Sa.2.small
  ·rw [ye hq hc];exact hz
variable {c:aQ} {k:Nat}
theorem BN (h:fF z) (a o:Int) : fF (fM z a o).2:=by
 have h0:fF ⟨0,0,[],[]⟩:=by unfold fF;simp
 unfold fM;(repeat' split)<;>first|exact h|exact h0
theorem BO {s:ak×ak} (h:fF s.1∧fF s.2) (b:Block) : fF (gp s b).1∧fF (gp s b).2:=by
 unfold gp;split
 ·exact ⟨BN h.1 _ _,h.2⟩
 ·exact ⟨h.1,BN h.2 _ _⟩
theorem xd:∀ (l:List Block) {s:ak×ak},fF s.1∧fF s.2->fF (bV s l).1∧fF (bV s l).2
 | [],_,h=>h
 | b::l,s,h=>xd l (s:=gp s b) (BO h b)
theorem yj {a b:ak} (h:fF a∧fF b) : ∀ z∈[a,b],fF z:=fun z hz=>by
 simp only [List.mem_cons,List.not_mem_nil,or_false] at hz;rcases hz with rfl|rfl
 ·exact h.1
 ·exact h.2
theorem JL (h:Heap) (cpu a:Int) (hs:∀ z∈h.bp,fF z) : ∀ z∈(fa h cpu a).2.bp,fF z:=by
 have h0:∀ z∈(⟨[],[],0,[],[]⟩ : Heap).bp,fF z:=fun z hz=>by simp at hz
 unfold fa;split
 ·split
  ·split
   ·simp only [iL];split
    ·rename_i z0 z1 hz;have hb:fF z0∧fF z1:=⟨hs _ (by rw [hz];simp),hs _ (by rw [hz];simp)⟩
     split
     ·exact yj (BO (s:=(z0,z1)) hb _)
     ·unfold kw;split
      ·exact yj (xd _ (s:=(z0,z1)) hb)
      ·exact yj hb
    ·exact h0
   ·exact h0
  ·exact h0
 ·exact h0
structure KV (h:Heap) : Prop where
 small:h.small
 uv:∀ z∈h.bp,fF z
theorem KV.free {h:Heap} (a:KV h) (cpu at_:Int) : KV (fa h cpu at_).2:=⟨xc h cpu at_ a.small,JL h cpu at_ a.uv⟩
def eH (c:aQ) (k:Nat) : aQ:=⟨c.Names,c.aA,c.bK,c.Order,c.ab.eraseIdx k,c.ao⟩
def jI (c:aQ) : aQ:=⟨c.Names,c.aA,c.bK,c.Order,c.ab,List.replicate c.ao.length (-1)⟩
noncomputable def dM:Nat->Heap×aQ->Heap×aQ
 | 0,p=>p
 | k+1,p=>dM k (if h:k<p.2.ab.length then (if p.2.ab[k].aj=p.2.bK then ((fa p.1 0 p.2.ab[k].At).2,eH p.2 k) else p) else p)
theorem sq {h:Heap} (hk:k<c.ab.length) (e:c.ab[k].aj=c.bK) : dM (k+1) (h,c)=dM k ((fa h 0 c.ab[k].At).2,eH c k):=by
 simp only [dM,hk,dite_true,e,if_true]
theorem qL {h:Heap} (hk:k<c.ab.length) (e : ¬ c.ab[k].aj=c.bK) : dM (k+1) (h,c)=dM k (h,c):=by
 simp only [dM,hk,dite_true,if_neg e]
def bH (s:ah) (i:Nat) (p:Heap×aQ) : ah:=⟨s.Words,p.1,s.aa.set i p.2⟩
structure EU (c:aQ) : Prop where
 small:c.small
 at_:∀ x∈c.ab,-9223372036854775808<=x.At∧x.At<=9223372036854775807
theorem EU.cut (h:EU c) (k:Nat) : EU (eH c k):=by
 have h1:=h.small.aD;have h2:=aep c.ab k;exact ⟨⟨h.small.names,by simp only [eH];omega,h.small.aZ⟩,fun x hx=>h.at_ x (adJ hx)⟩
theorem EU.idle (h:EU c) : EU (jI c):=⟨⟨h.small.names,h.small.aD,by simp only [jI,List.length_replicate];exact h.small.aZ⟩,h.at_⟩
theorem qM:∀ (k:Nat) {p:Heap×aQ},KV p.1->EU p.2->KV (dM k p).1∧EU (dM k p).2
 | 0,_,h1,h2=>⟨h1,h2⟩
 | k+1,(h,c),h1,h2=>by
   unfold dM;simp only;split
   ·split
    ·exact qM k (h1.free _ _) (h2.cut _)
    ·exact qM k h1 h2
   ·exact qM k h1 h2
theorem ah.cV.lP (h:s.cV) : KV s.Heap:=⟨h.small.heap,h.cr⟩
theorem ah.cV.Sg (h:s.cV) (hi:i<s.aa.length) : EU s.aa[i]:=⟨h.small.each _ (ac0 hi),h.aD _ (ac0 hi)⟩
theorem xe (h:s.small) (i:Nat) {p:Heap×aQ} (h1:KV p.1) (h2:EU p.2) : (bH s i p).small:=by
 refine ⟨h.words,h1.small,by simp only [bH,List.length_set];exact h.br,fun c hc => ?_⟩;rcases adg hc with hc|rfl
 ·exact h.each c hc
 ·exact h2.small
variable {n:ByteArray} {cpu:Int} {BL:List dN} {p:α -> Bool}
theorem j1 {l:List α} (h:l.any p=true) : ∃ (i:Nat) (hi:i<l.length),p l[i]=true∧(∀ (j:Nat) (hj:j<l.length),j<i->p l[j]=false)∧idxOf p l=(i:Int):=by
 have h1:l.findIdx p<l.length:=List.findIdx_lt_length_of_exists (by simpa using h)
 exact ⟨l.findIdx p,h1,List.findIdx_getElem (w:=h1),fun j hj js=>by simpa using List.not_of_lt_findIdx js,by unfold idxOf;rw [if_pos h]⟩
noncomputable def iO (s:ah) (n:ByteArray) (cpu:Int) : Int:=if fQ s then (if s.aa.any (dO n) then (if 0<=cpu∧cpu<s.Heap.bG then 0 else 1) else 4) else 8
theorem Mb (h:fQ s=false) : iO s n cpu=8:=by simp [iO,h]
theorem Mc (h:fQ s=true) (h1:s.aa.any (dO n)=false) : iO s n cpu=4:=by simp only [iO,h,h1,if_true,Bool.false_eq_true,if_false]
theorem Me (h:fQ s=true) (h1:s.aa.any (dO n)=true) (h2 : ¬ (0<=cpu∧cpu<s.Heap.bG)) : iO s n cpu=1:=by simp only [iO,h,h1,if_true,if_neg h2]
theorem Mf (h:fQ s=true) (h1:s.aa.any (dO n)=true) (h2 : 0<=cpu∧cpu<s.Heap.bG) : iO s n cpu=0:=by simp only [iO,h,h1,if_true,if_pos h2]
theorem mo (h:iO s n cpu=0) : fQ s=true∧s.aa.any (dO n)=true∧0<=cpu∧cpu<s.Heap.bG:=by
 unfold iO at h;split at h
 ·rename_i h0;split at h
  ·rename_i h1;split at h
   ·rename_i h2;exact ⟨h0,h1,h2⟩
   ·omega
  ·omega
 ·omega
def Q4 (lo:Nat) (s:ah) (n:ByteArray) (cpu:Int) (v:Value) (w:World) : Prop :=
 (iO s n cpu≠0∧v = .tuple #[.agg (aP .zero).toArray,.int .i64 0,.int .i64 (iO s n cpu)]) ∨
 (iO s n cpu=0 ∧ ∃ q cs,v = .tuple #[.agg (aP q).toArray,.int .i64 (idxOf (dO n) s.aa),.int .i64 0]∧SX w lo q s cs∧SI w lo q s cs)
theorem sV {p:Heap×aQ}:(bH s i p).aa.length=s.aa.length:=adz
theorem n5 (hi:i<s.aa.length) : bH s i (s.Heap,s.aa[i])=s:=by
 cases s
 simp [bH]
section
variable {w w':World} {lo:Nat} {r:db} {s:ah} {cs:List dN} {i:Nat} {p:Heap×aQ}
theorem sk.rows (h:SX w lo r (bH s i p) cs) : cs.length=s.aa.length∧r.aa.n=s.aa.length:=by
 have h1:=h.row.len;have h2:=h.each.len;rw [sV] at h2;omega
theorem sk.get (h:SX w lo r (bH s i p) cs) (hi:i<cs.length) (nO:i<s.aa.length) : oz w lo cs[i] p.2:=by
 have:=h.each.get i hi (by rw [sV];exact nO)
 simpa [bH] using this
theorem sk.Dk (h:SX w lo r (bH s i p) cs) (hi:i<cs.length) (nO:i<s.aa.length) (hO:Own w' lo 111 3 bf cs[i].ab.A n' cs[i].ab.c l') (hg:w.grownBy w' (aI cs[i].ab.A cs[i].ab.c)) :
 sk w' lo r (bH s i (p.1,⟨p.2.Names,p.2.aA,p.2.bK,p.2.Order,l',p.2.ao⟩)) cs (cs.set i ⟨cs[i].Names,cs[i].aA,cs[i].bK,cs[i].Order,⟨cs[i].ab.A,n',cs[i].ab.c⟩,cs[i].ao⟩):=by
 have:=h.aD hi (by rw [sV];exact nO) hO hg
 simpa [bH] using this
theorem sk.Mg {l':List Int} (h:SX w lo r (bH s i p) cs) (hI:SI w lo r (bH s i p) cs) (hi:i<cs.length) (nO:i<s.aa.length) (hO:Own w' lo 3 1 bw cs[i].ao.A cs[i].ao.n cs[i].ao.c l') (hg:w.grownBy w' (aI cs[i].ao.A cs[i].ao.c)) :
 SX w' lo r (bH s i (p.1,⟨p.2.Names,p.2.aA,p.2.bK,p.2.Order,p.2.ab,l'⟩)) cs∧SI w' lo r (bH s i (p.1,⟨p.2.Names,p.2.aA,p.2.bK,p.2.Order,p.2.ab,l'⟩)) cs:=by
 have:=h.aZ hI hi (by rw [sV];exact nO) hO hg
 simpa [bH] using this
theorem sk.Q5 {H:ju} {h':Heap} (h:sk w lo r (bH s i p) BL cs) (hH:jC w lo H h') : sk w lo ⟨r.Words,H,r.aa⟩ (bH s i (h',p.2)) BL cs:=⟨h.words,hH,h.row,h.each,h.pair⟩
end
variable {i':Nat}
def n6 (s:ah) (a:Int) (i k:Nat) : Bool:=if h:i<s.aa.length then (if h':k<s.aa[i].ab.length then ic s.aa[i].aA s.aa[i].bK (s.aa[i].ab[k]).At a else false) else false
theorem pS (h:i<s.aa.length) (h':k<s.aa[i].ab.length) : n6 s a i k=ic s.aa[i].aA s.aa[i].bK (s.aa[i].ab[k]).At a:=by simp [n6,h,h']
theorem JM (h:i<s.aa.length) (h' : ¬ k<s.aa[i].ab.length) : n6 s a i k=false:=by simp [n6,h,h']
structure lA (s:ah) (a:Int) (i k:Nat) : Prop where
 hi:i<s.aa.length
 hk:k<s.aa[i].ab.length
 obj:n6 s a i k=true
 ahead:∀ i' k',(i'<i∨(i'=i∧k'<k))->n6 s a i' k'=false
inductive iy (s:ah) (a:Int) : Int×Int×Int->Prop where
 | bad (h:fQ s=false) : iy s a (0,0,8)
 | none (h:fQ s=true) (hn:∀ i k,n6 s a i k=false) : iy s a (0,0,4)
 | free {i k:Nat} {out:List Int} (h:fQ s=true) (hF:lA s a i k) (hC:bM s.Words (s.aa[i]'hF.hi).aA (s.aa[i]'hF.hi).bK ((s.aa[i]'hF.hi).ab[k]'hF.hk) out) (hm:a∈out) : iy s a (0,0,4)
 | hit {i k:Nat} {out:List Int} (h:fQ s=true) (hF:lA s a i k) (hC:bM s.Words (s.aa[i]'hF.hi).aA (s.aa[i]'hF.hi).bK ((s.aa[i]'hF.hi).ab[k]'hF.hk) out) (hm:a∉out) : iy s a (i,k,0)
theorem lA.Q6 {k':Nat} (h:lA s a i k) (h':lA s a i' k') : i=i'∧k=k':=by
 rcases (show i<i'∨(i=i'∧k<k')∨i'<i∨(i'=i∧k'<k)∨(i=i'∧k=k') by omega) with g|g|g|g|g
 ·have:=h'.ahead i k (.inl g);rw [h.obj] at this;cases this
 ·have:=h'.ahead i k (.inr g);rw [h.obj] at this;cases this
 ·have:=h.ahead i' k' (.inl g);rw [h'.obj] at this;cases this
 ·have:=h.ahead i' k' (.inr g);rw [h'.obj] at this;cases this
 ·exact g
theorem iy.dm {u v:Int×Int×Int} (h:iy s a u) (k:iy s a v) : u=v:=by
 cases h with
 | bad h=>cases k with
   | bad=>rfl
   | none h'=>rw [h] at h';cases h'
   | free h'=>rw [h] at h';cases h'
   | hit h'=>rw [h] at h';cases h'
 | none h hn=>cases k with
   | bad h'=>rw [h] at h';cases h'
   | none=>rfl
   | free=>rfl
   | hit h' hF=>exact absurd hF.obj (by rw [hn];simp)
 | free h hF hC hm=>cases k with
   | bad h'=>rw [h] at h';cases h'
   | none=>rfl
   | free=>rfl
   | hit h' AN V9 mP =>
     obtain ⟨rfl,rfl⟩:=hF.Q6 AN;rw [hC.dm V9] at hm;exact absurd hm mP
 | hit h hF hC hm=>cases k with
   | bad h'=>rw [h] at h';cases h'
   | none h' hn=>exact absurd hF.obj (by rw [hn];simp)
   | free h' AN V9 mP =>
     obtain ⟨rfl,rfl⟩:=hF.Q6 AN;rw [hC.dm V9] at hm;exact absurd mP hm
   | hit h' AN =>
     obtain ⟨rfl,rfl⟩:=hF.Q6 AN
     rfl
def BP (u:Int×Int×Int) : Value := .tuple #[.int .i64 u.1,.int .i64 u.2.1,.int .i64 u.2.2]
set_option maxHeartbeats 4000000 in
theorem vf (r:db) (s:ah) (a:Int) (w:World) (hr:AM w r s) (hf:s.cV) (ha : -9223372036854775808<=a∧a<=9223372036854775807) :
 bI prog 71 [.agg (aP r).toArray,.int .i64 a] w fun v _ => ∃ u,iy s a u∧v=BP u:=by
 refine aE func71 rfl ntmps71 rfl ?_;refine CW.seq (CW.region (SW.box rfl rfl fun b2 w1 hw fk au => ?_));obtain ⟨q,hq⟩ : ∃ q,fQ s=q:=⟨_,rfl⟩
 have c1:∀ w',Ext w w'->bI prog 46 [.agg (aP r).toArray] w' fun v _=>v = .int .i64 (if q then 0 else 8):=fun w' hx=>by
  have:=mf r s w' (hr.ext hx) hf
  rwa [hq] at this
 cases q
 all_goals simp only [if_true,Bool.false_eq_true,if_false] at c1
 ·repeat' (first|refine Wz ?_|(refine Wk (c1 _ hw) ?_;intro v w1 ai hv;subst hv;obtain ⟨hw,au⟩:=cX ai hw au;clear ai))
  exact ae.CI rfl rfl rfl rfl ⟨_,rfl,hw,(0,0,8),.bad hq,rfl⟩
 ·have hM:=iM.1 hq;have hs:=hf.small;obtain ⟨cs,hc⟩:=hr.br;obtain ⟨z1,z2⟩:=hc.len;have wl:=hr.words.len;have m1:=hs.words;have m3:=hs.br;repeat' (first|refine Wz ?_|(refine Wk (c1 _ hw) ?_;intro v w1 ai hv;subst hv;obtain ⟨hw,au⟩:=cX ai hw au;clear ai))
  clear c1
  refine CW.loop (fun k:Nat=>[(1,.int .i64 a),(2,.pointer (some ⟨b2,0,none⟩)),(20,.slice r.aa.A r.aa.n r.aa.c),(21,.int .i64 (r.aa.n:Int)),(22,.int .i64 (k:Int))])
   (fun k w'=>k<=r.aa.n∧Ext w w'∧aS w' b2 44 (aP r) ∧ ∀ i' k',i'<k->n6 s a i' k'=false) (fun k=>r.aa.n-k) 0
   ⟨rfl,rfl,rfl,rfl,rfl,trivial⟩ ⟨by omega,hw,au,fun i' k' h=>by omega⟩ ?_
  clear hw au;rintro i w' ⟨hk,hw,au,hI⟩
  have hA:=hc.row.base;by_cases cQ:i<r.aa.n
  ·have oS:i<cs.length:=by omega
   have rI:i<s.aa.length:=by omega
   have jU:=hc.each.get i oS rI;have sm:=hs.each _ (ac0 rI);have PI:=(hM.each i rI).may;obtain ⟨l1,l2,l3⟩:=cd PI.lay;have eS:=jU.size;have eP:=jU.per;have n2:=jU.aD.len;have m2:=sm.aD;have hS : 1<=cs[i].aA∧cs[i].aA<=64:=by omega
   have hP : 1<=cs[i].bK∧cs[i].bK<=64:=by omega
   repeat' (first|refine Wz ?_|refine Wo hw ((hc.row.all cQ)) ?_)
   refine SW.alloc rfl fun b9 w1 ai nQ bD => ?_
   refine Wz ?_;refine SW.ag bD rfl rfl rfl rfl (BA _) fun w2 jM hg => ?_
   have ar:=ai.own nQ hg;have rU:=hw.up nQ
   obtain ⟨hw,au⟩:=cX ar hw au;have bD:=jM;clear jM ai hg ar;refine Wz ?_
   refine CW.loop (fun k:Nat=>[(1,.int .i64 a),(2,.pointer (some ⟨b2,0,none⟩)),(8,.int .i64 (i:Int)),(9,.pointer (some ⟨b9,0,none⟩)),(20,.slice r.aa.A r.aa.n r.aa.c),(21,.int .i64 (r.aa.n:Int)),(22,.int .i64 (i:Int)),(28,.slice cs[i].ab.A cs[i].ab.n cs[i].ab.c),(29,.int .i64 (cs[i].ab.n:Int)),(30,.int .i64 (k:Int))])
    (fun k w'=>k<=cs[i].ab.n∧Ext w w'∧aS w' b2 44 (aP r)∧aS w' b9 107 (fK cs[i]) ∧ ∀ k',k'<k->n6 s a i k'=false) (fun k=>cs[i].ab.n-k) 0
    ⟨rfl,rfl,rfl,rfl,rfl,rfl,rfl,rfl,rfl,rfl,trivial⟩ ⟨by omega,hw,au,bD,fun k' h=>by omega⟩ ?_
   clear hw au bD;rintro k w' ⟨hk,hw,au,bD,hJ⟩
   have oO:=jU.aD.base;by_cases gh:k<cs[i].ab.n
   ·have iw:k<s.aa[i].ab.length:=by omega
    obtain ⟨x,hx⟩ : ∃ x,s.aa[i].ab[k]=x:=⟨_,rfl⟩;have gS:=jU.aD.all gh;rw [hx] at gS;have ht:=(PI.oP (hM.heap)) x (by rw [<- hx];exact ac0 iw);obtain ⟨OC,hC⟩:=(PI.aD k iw).chain;rw [hx] at hC;have eO:=pS (a:=a) rI iw;rw [hx,<- eS,<- eP] at eO;obtain ⟨o,ho⟩ : ∃ o,ic cs[i].aA cs[i].bK x.At a=o:=⟨_,rfl⟩;rw [ho] at eO
    have cO:∀ w',bI prog 123 [.agg (fK cs[i]).toArray,.int .i64 x.At,.int .i64 a] w' fun v _=>v = .bool o:=fun w'=>by
     have:=zt cs[i] x.At a w' hS hP ht ha
     rwa [ho] at this
    repeat' (first|refine Wz ?_|refine Wo hw gS ?_)
    refine SW.alloc rfl fun N9 w1 ai so gR => ?_
    refine Wz ?_;refine SW.ag gR rfl rfl rfl rfl (im.one (enc:=bf) _) fun w2 oI hg => ?_
    have ar:=ai.own so hg;have L5:=hw.up so
    obtain ⟨hw,au,bD⟩:=cj ar hw au bD;have gR:=oI;clear oI ai hg ar;cases o
    ·repeat' (first|refine Wz ?_|(refine CW.gj rfl ?_)|(refine Wk (cO _) ?_;intro v w1 ai hv;subst hv;obtain ⟨hw,au,bD⟩:=cj ai hw au bD;clear ai))
     exact ae.again (k+1) ⟨rfl,rfl,rfl,rfl,rfl,rfl,rfl,rfl,rfl,rfl,trivial⟩ (by omega) ⟨by omega,hw,au,bD,fun k' h=>by
      by_cases e:k'=k
      ·subst e;exact eO
      ·exact hJ k' (by omega)⟩
    ·have Si:lA s a i k:=⟨rI,iw,eO,fun i' k' h=>by
      rcases h with h|⟨rfl,h⟩
      ·exact hI i' k' h
      ·exact hJ k' h⟩
     repeat' (first|refine Wz ?_|(refine CW.fU rfl ?_)|(refine Wk (cO _) ?_;intro v w1 ai hv;subst hv;obtain ⟨hw,au,bD,gR⟩:=dG ai hw au bD gR;clear ai))
     refine Wk (BE r cs[i] x s.Words _ (hr.words.ext hw) (by omega) hS hP ht) fun v w5 ox EA => ?_
     rw [eS,eP] at EA;rcases EA with ⟨out,A5,c5,Z2,rfl,Oy,hl5⟩|⟨oD,rfl⟩
     ·have hw:=hw.trans ox;obtain rfl:=hC.dm Z2;have cN:∀ w',Ext w5 w'->bI prog 125 [.slice A5 OC.length c5,.int .i64 a] w' fun v _=>v = .bool (decide (a∈OC)):=fun w' hx=>g7 _ _ _ _ _ _ (Oy.sl.ext hx) (by omega)
      have Z3:=Ext.refl w5;refine Wz ?_;refine Wk (cN _ Z3) fun v w6 EV hv => ?_
      subst hv;have hw:=hw.trans EV;by_cases hm:a∈OC
      ·rw [decide_eq_true hm];refine Wz ?_;exact ae.CI rfl rfl rfl rfl ⟨_,rfl,hw,(0,0,4),.free hq Si (by rw [hx];exact hC) hm,rfl⟩
      ·rw [decide_eq_false hm];refine Wz ?_;exact ae.CI rfl rfl rfl rfl ⟨_,rfl,hw,(i,k,0),.hit hq Si (by rw [hx];exact hC) hm,rfl⟩
     ·exact absurd hC (oD OC)
   ·refine Wz ?_
    exact ae.again (i+1) ⟨rfl,rfl,rfl,rfl,rfl,trivial⟩ (by omega) ⟨by omega,hw,au,fun i' k' h=>by
     by_cases e:i'=i
     ·subst e;by_cases bW:k'<s.aa[i'].ab.length
      ·exact hJ k' (by omega)
      ·exact JM rI bW
     ·exact hI i' k' (by omega)⟩
  ·refine Wz ?_
   exact ae.CI rfl rfl rfl rfl ⟨_,rfl,hw,(0,0,4),.none hq (fun i' k'=>by
    by_cases h:i'<s.aa.length
    ·exact hI i' k' (by omega)
    ·simp [n6,h]),rfl⟩
variable {most o:Int} {u:ah×Int} {acc:List Int}
theorem fO.PP {l:List Int} {x:Int} {r:Option (List Int)} (h:fO l most x acc r) : (acc.length:Int)<=most -> ∀ out,r=some out->(out.length:Int)<=most:=by
 induction h with
 | done out=>intro ha o e;cases e;exact ha
 | bad=>intro _ _ e;cases e
 | @step k out r h1 hk h3 h ih =>
   intro ha o e;exact ih (by rw [adb];simp;omega) o e
theorem j3 {x n:Int} (h:dl x=(o,n,0)) : (o=0∧n*x<=16)∨(o=1∧n*x<=32)∨(o=2∧n*x<=64):=by
 unfold dl at h;split at h
 ·rename_i hx;have k1:=afc 16 (show x≠0 by omega);have k2:=afc 32 (show x≠0 by omega);have k3:=afc 64 (show x≠0 by omega);split at h
  ·simp only [Prod.mk.injEq] at h;obtain ⟨rfl,rfl,_⟩:=h;exact .inl ⟨rfl,k1⟩
  ·split at h
   ·simp only [Prod.mk.injEq] at h;obtain ⟨rfl,rfl,_⟩:=h;exact .inr (.inl ⟨rfl,k2⟩)
   ·simp only [Prod.mk.injEq] at h;obtain ⟨rfl,rfl,_⟩:=h;exact .inr (.inr ⟨rfl,k3⟩)
 ·simp only [Prod.mk.injEq] at h;omega
theorem Q7 (hM:aB s) (hF:lA s a i k) : 0<=a∧a<4096:=by
 have hc:=(hM.each i hF.hi).may;have hs:=hc.aD k hF.hk;have hl:=j3 hc.lay;have ho:=hF.obj;rw [pS hF.hi hF.hk] at ho;unfold ic at ho;simp only [Bool.and_eq_true,decide_eq_true_eq] at ho;have tJ:=hs.live;cases hf:bO s.Heap.Live ((s.aa[i]'hF.hi).ab[k]'hF.hk).At with
 | false =>
   rw [Dd hf] at tJ;omega
 | true =>
   obtain ⟨hk,e⟩:=jx hf;rw [zp hf hk] at tJ;obtain ⟨_,h2,h3,_⟩:=hM.heap.live.each _ hk;rw [tJ] at h3;rw [e] at h2 h3;obtain ⟨p,hp⟩ : ∃ p,(s.aa[i]'hF.hi).bK*(s.aa[i]'hF.hi).aA=p:=⟨_,rfl⟩;rw [hp] at hl ho;rcases hl with ⟨h,_⟩|⟨h,_⟩|⟨h,_⟩<;>(rw [h] at h3;simp [pw] at h3;omega)
def n7 (c:aQ) (x:Slab) : Bool:=decide (x.aj=c.bK) && !decide (x.At∈c.ao)
def ie (c:aQ) (k:Nat) (x:Slab) (a:Int) : aQ:=⟨c.Names,c.aA,c.bK,c.Order,c.ab.set k ⟨x.At,x.aj+1,a⟩,c.ao⟩
theorem EU.put (h:EU c) (hk:k<c.ab.length) (a:Int) : EU (ie c k c.ab[k] a):=by
 refine ⟨⟨h.small.names,by simp only [ie,List.length_set];exact h.small.aD,h.small.aZ⟩,fun y hy => ?_⟩;rcases adg hy with hy|rfl
 ·exact h.at_ y hy
 ·exact h.at_ c.ab[k] (ac0 hk)
def Mh (s:ah) (x:Slab) (a:Int) : ah:=⟨s.Words.set a.toNat x.cf,s.Heap,s.aa⟩
noncomputable def vg (s:ah) (c:aQ) (k:Nat) (x:Slab) (cpu a:Int) : Heap×aQ :=
 if n7 (ie c k x a) ⟨x.At,x.aj+1,a⟩ && decide (1<(ie c k x a).ab.countP (n7 (ie c k x a))) then ((fa s.Heap cpu x.At).2,eH (ie c k x a) k) else (s.Heap,ie c k x a)
inductive qN (s:ah) (n:ByteArray) (cpu a:Int) : ah×Int->Prop where
 | ask (h:iO s n cpu≠0) : qN s n cpu a (.zero,iO s n cpu)
 | none {u:Int×Int×Int} (h:iO s n cpu=0) (hF:iy s a u) (bL : ¬ (u.2.2=0∧u.1=idxOf (dO n) s.aa)) : qN s n cpu a (.zero,4)
 | put {i k:Nat} (h:iO s n cpu=0) (hF:iy s a (i,k,0)) (e:idxOf (dO n) s.aa=i) (hi:i<s.aa.length) (hk:k<s.aa[i].ab.length) : qN s n cpu a (bH (Mh s s.aa[i].ab[k] a) i (vg s s.aa[i] k s.aa[i].ab[k] cpu a),0)
theorem qN.dm {v:ah×Int} (x:qN s n cpu a u) (y:qN s n cpu a v) : u=v:=by
 cases x with
 | ask h=>cases y with
   | ask=>rfl
   | none h'=>exact absurd h' h
   | put h'=>exact absurd h' h
 | none h hF bL=>cases y with
   | ask h'=>exact absurd h h'
   | none=>rfl
   | put h' AN e'=>exact absurd (by rw [hF.dm AN];exact ⟨rfl,e'.symm⟩) bL
 | put h hF e hi hk=>cases y with
   | ask h'=>exact absurd h h'
   | none h' AN Ld=>exact absurd (by rw [AN.dm hF];exact ⟨rfl,e.symm⟩) Ld
   | put h' AN e' =>
     have:=hF.dm AN
     simp only [Prod.mk.injEq] at this;obtain ⟨h1,h2,_⟩:=this;have h1:=Int.ofNat.inj h1;have h2:=Int.ofNat.inj h2;subst h1;subst h2
     rfl
theorem KV.vg (h:KV s.Heap) (hc:EU c) (hk:k<c.ab.length) (cpu a:Int) : KV (vg s c k c.ab[k] cpu a).1∧EU (vg s c k c.ab[k] cpu a).2:=by
 unfold Go.Proofs.YtohigmjjbgpfmaaGreatDoor.vg;split
 ·exact ⟨h.free _ _,(hc.put hk a).cut _⟩
 ·exact ⟨h,hc.put hk a⟩
theorem qN.small (x:qN s n cpu a u) (hf:s.cV) : u.1.small:=by
 cases x with
 | ask|none=>exact ah.kK
 | @put i k h hF e hi hk =>
   have h1:=hf.lP.vg (hf.Sg hi) hk cpu a;have hw:(Mh s s.aa[i].ab[k] a).small:=⟨by simp only [Mh,List.length_set];exact hf.small.words,hf.small.heap,hf.small.br,hf.small.each⟩
   exact xe hw _ h1.1 h1.2
theorem iy.TA {i k:Int} (h:iy s a (i,k,0)) : ∃ (i' k':Nat),i=i'∧k=k'∧fQ s=true ∧ ∃ hF:lA s a i' k',0<=((s.aa[i']'hF.hi).ab[k']'hF.hk).aj∧((s.aa[i']'hF.hi).ab[k']'hF.hk).aj<=64:=by
 cases h with
 | @hit i' k' out h hF hC hm =>
   refine ⟨i',k',rfl,rfl,h,hF,?_⟩;have hc:=((iM.1 h).each i' hF.hi).may;have h1:=cd hc.lay;have h2:=hC.1.PP (by simp;omega) out rfl;have h3:=hC.2.1;omega
variable {f:Int} {l:List Block}
theorem JN {x y x' y':Block} (h:mQ x y) (e1:x'.At=x.At) (e2:x'.Order=x.Order) (e3:y'.At=y.At) (e4:y'.Order=y.Order) : mQ x' y':=by
 unfold mQ at *;rw [e1,e2,e3,e4];exact h
theorem JO (hz:bU z) {b:Block} {t:Int} (st:Bool) : El (kc z b t st):=by
 have h:=Em hz;unfold kc;split
 ·unfold jR;split
  ·exact h
  ·unfold El at *;rw [ae0];exact h.imp fun {x y} Vj=>JN Vj (pe _ _ _ x).1 (pe _ _ _ x).2 (pe _ _ _ y).1 (pe _ _ _ y).2
 ·exact h
theorem EW {q:Int} (h1 : 1<=q) (h4:q<=4) (hm:a % pw q=0) : beside (a+pw (q-1)) (q-1)=a∧(a+pw (q-1)) % pw (q-1)=0:=by
 have hp:pw q=2*pw (q-1):=by
  have:=qv (o:=q-1) (by omega) (by omega)
  rwa [aey] at this
 unfold beside;rcases fB (show 0<=q-1 by omega) (show q-1<=4 by omega) with ⟨e1,e2⟩|⟨e1,e2⟩|⟨e1,e2⟩|⟨e1,e2⟩|⟨e1,e2⟩<;>rw [hp,e2] at hm<;>rw [e2]<;>(refine ⟨?_,by omega⟩)<;>split<;>omega
theorem Mi {t:Int} {q ty:Int} (h:D5 f t l a q) (hn:El l) (hq : 1<=q) : El (tF ty a q l):=by
 obtain ⟨f1,f2,f3,f4,f5⟩:=h.fit;obtain ⟨hb,hm⟩:=EW hq f2 f5
 have hp:pw q=2*pw (q-1):=by
  have:=qv (o:=q-1) (by omega) (by omega)
  rwa [aey] at this
 have UD:=cy (o:=q-1) (by omega) (by omega)
 have bL:∀ x∈l,x.At≠a:=fun x hx e=>by
  have:=cy (h.eG x hx).1.1 (h.eG x hx).1.2.1
  rcases h.NB x hx with g|g<;>omega
 have e:l=l.take (bE l (a+pw (q-1)))++l.drop (bE l (a+pw (q-1))):=(ac4 _ l).symm
 have h0:=hn;unfold El at h0;rw [e,adp] at h0;obtain ⟨h1,h2,h3⟩:=h0
 have hA:∀ x∈l.take (bE l (a+pw (q-1))),mQ x (nR ty a q):=fun x hx=>by
  have nF:=adu hx;obtain ⟨j,hj,rfl⟩:=ac1 hx;simp only [List.length_take] at hj;rw [adH] at nF ⊢;have eQ:=pE (l:=l) (a:=a+pw (q-1)) (k:=j) (by omega);refine ⟨?_,fun hh => ?_⟩
  ·simp only [nR];rcases h.NB _ nF with g|g<;>omega
  ·obtain ⟨_,_,hh⟩:=hh;simp only [nR,hb] at hh;exact bL _ nF hh
 have hB:∀ x∈l.drop (bE l (a+pw (q-1))),mQ (nR ty a q) x:=fun x hx=>by
  have nF:=adI hx;obtain ⟨j,hj,rfl⟩:=ac1 hx;simp only [List.length_drop] at hj;rw [adZ] at nF ⊢;have Lb:=D7 (l:=l) (a:=a+pw (q-1)) (by omega)
  have hle:(l[bE l (a+pw (q-1))]'(by omega)).At<=(l[bE l (a+pw (q-1))+j]'(by omega)).At:=by
   rcases adj j with rfl|N7
   ·exact aeR _
   ·have:=jF h.rT (show bE l (a+pw (q-1))+j<l.length by omega) (show bE l (a+pw (q-1))<bE l (a+pw (q-1))+j by omega)
    have:=cy (h.eG _ (ac0 (show bE l (a+pw (q-1))<l.length by omega))).1.1 (h.eG _ (ac0 (show bE l (a+pw (q-1))<l.length by omega))).1.2.1
    omega
  have UO:=(h.eG _ nF).1;have Se:=cy UO.1 UO.2.1;refine ⟨?_,fun hh => ?_⟩
  ·simp only [nR];rcases h.NB _ nF with g|g<;>omega
  ·obtain ⟨g4,g5,hh⟩:=hh;have g6:=(qB UO.1 g4 UO.2.2.2.2).1;simp only [nR] at g5 hh;rw [<- hh,<- g5,hb] at g6;exact bL _ nF g6.symm
 unfold tF aM El;rw [ac6,adp];refine ⟨h1,?_,fun x hx y hy => ?_⟩
 ·rw [adn,adY];exact ⟨hB,h2⟩
 ·rw [adn,ad4] at hy;rcases hy with rfl|hy
  ·exact hA x hx
  ·exact h3 x hx y hy
theorem BQ {t ty:Int} (h0 : 0<=f) (ht:t<=256) (QE:t % 16=0) (yY:kH ty):∀ (k:Nat) (q:Int) (l:List Block),(k:Int)<=q->D5 f t l a q->El l->D5 f t (lY ty a k q l) a (q-k)∧El (lY ty a k q l)
 | 0,q,l,_,h,hn=>by
   refine ⟨?_,hn⟩;have:q-((0:Nat) : Int)=q:=by omega
   rw [this];exact h
 | k+1,q,l,hk,h,hn=>by
   have hq : 1<=q:=by omega
   have:=BQ h0 ht QE yY k (q-1) (tF ty a q l) (by omega) (Ef h h0 ht QE hq yY).1 (Mi h hn hq)
   rw [lY];rwa [show q-1-(k:Int)=q-((k+1:Nat) : Int) by omega] at this
structure PQ (z z':ak) : Prop where
 may:bU z'
 from_:z'.aU=z.aU
 o8:z'.To=z.To
theorem ib.jS {t:Int} {u:ak×Int×Int} (h:ib z o t u) (h0:u.2.2=0) : PQ z u.1∧(∃ x∈z.aj,x.At=u.2.1)∧fD z=true:=by
 cases h with
 | bad|range|kind|room=>simp at h0
 | @ok k st hq ho ht hk hp =>
   have hz:=fg.1 hq;obtain ⟨o1,o2,o3,o4,o5⟩:=hz.ok;obtain ⟨_,Vu,XQ⟩:=hp.ord;obtain ⟨l1,l2,l3⟩:=uT hz (b:=z.aj[k]) ht st;have S0:k<(kc z z.aj[k] t st).length:=by omega
   have Py:=vO hz ht st hk;have hJ:=Bu l2 l3 S0;rw [Py] at hJ;simp only at hJ;have hn:El ((kc z z.aj[k] t st).eraseIdx k):=(JO hz st).sublist (adU _ _)
   have Bs:=hz.eG k hk;have R0:kH (xz z t st z.aj[k]):=by unfold xz;split;exact ht;exact Bs.2
   have hS:=BQ (ty:=xz z t st z.aj[k]) o1 o3 o5 R0 (z.aj[k].Order-o).toNat z.aj[k].Order _ (by omega) hJ hn;have e:(if st=true then jR z.aj z.aj[k] t else z.aj)=kc z z.aj[k] t st:=rfl
   refine ⟨⟨⟨hz.ok,?_,?_,fun i hi => ?_,fun i hi => ?_⟩,rfl,rfl⟩,⟨z.aj[k],ac0 hk,rfl⟩,hq⟩
   ·simp only [tV];have hlen:=hz.len;split
    ·unfold kD;split
     ·exact hlen
     ·split<;>simpa using hlen
    ·exact hlen
   ·simp only [tV];intro v hv;split at hv
    ·unfold kD at hv;split at hv
     ·exact hz.types v hv
     ·split at hv
      ·rcases adg hv with hv|rfl
       ·rcases adg hv with hv|rfl
        ·exact hz.types v hv
        ·exact ht
       ·exact ht
      ·rcases adg hv with hv|rfl
       ·exact hz.types v hv
       ·exact ht
    ·exact hz.types v hv
   ·exact hS.1.eG _ (ac0 hi)
   ·have hn:=hS.2;unfold El at hn;rw [ac8] at hn;exact hn i (i+1) (by simp only [tV] at hi;exact Nat.lt_of_succ_lt hi) hi (aeF i)
end Go.Proofs.YtohigmjjbgpfmaaGreatDoor
