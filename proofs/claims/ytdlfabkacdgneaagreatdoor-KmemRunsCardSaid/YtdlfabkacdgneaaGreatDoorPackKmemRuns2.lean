/- Part 2 of what kmemRuns_holds leans on. -/
import Derived.Test.YtdlfabkacdgneaaGreatDoorPackKmemRuns0
import Derived.Lib.AppendZerosOnto
import Derived.Lib.Overlaps
import Derived.Room.Entries
import Derived.Lib.ConvBytes
import Derived.Laws.Strings
import Derived.Maps.OwnSet
import Derived.Great.BuildSlice
import Derived.Test.YtdlfabkacdgneaaGreatDoorRows
import Derived.ProofKit
import Derived.SizedLaws
import Derived.JoinedCond
import Derived.Deep.Slices
import Derived.Deep.Fields
import Derived.Lib.SmallJoins
import Derived.OpenShut
set_option maxHeartbeats 16000000
set_option linter.unusedVariables false
set_option linter.unusedSimpArgs false
set_option linter.defProp false
open Go.Proofs.Tryz
namespace Go.Proofs.YtdlfabkacdgneaaGreatDoor
open Go.RowKit
section
variable {P:Program}{n:Nat}{Q:Exit->Act->World->Prop}{L:Env}{w:World}
def Fu(n:Nat)(K:Env->World->Prop)(Q:Exit->Act->World->Prop):Exit->Act->World->Prop
 | .normal,a,w'=>∃b,Fit n a b∧K b w'
 | e,a,w'=>Q e a w'
theorem CW.LG{c:Code}(K:Env->World->Prop)(h:CW P n c (Fu n K Q) L w)(k:∀b d,K b d->ah n Q .normal b d):CW P n c Q L w:=
 ⟨λa f=>wp_mono (h.out a f) λe g d h'=>by
  cases e with
  | normal=>obtain⟨b,i,j⟩:=h';exact(k b d j).out g i
  | _=>exact h'⟩
theorem CW.vE{c:Code}{id:Nat}(K:Env->World->Prop)(h:CW P n c (Exit.inBlock id (Fu n K Q)) L w)(k:∀b d,K b d->ah n Q .normal b d):CW P n c (Exit.inBlock id Q) L w:=
 ⟨λa m=>wp_mono (h.out a m) λe l d h'=>by
  cases e with
  | normal=>obtain⟨b,f,g⟩:=h';exact(k b d g).out l f
  | exit j=>
    simp only[Exit.inBlock]at h'⊢;split
    ·rename_i i;rw[if_pos i]at h';obtain⟨b,f,g⟩:=h';exact(k b d g).out l f
    rename_i i;rw[if_neg i]at h';exact h'
  | _=>exact h'⟩
theorem ah.fW{K:Env->World->Prop}(h:K L w):ah n (Fu n K Q) .normal L w:=⟨λ_ a=>⟨L,a,h⟩⟩
theorem ah.GS{K:Env->World->Prop}(h:ah n Q .ret L w):ah n (Fu n K Q) .ret L w:=⟨λa b=>h.out a b⟩
end
variable {α:Type} {af:Array Edge} {ops:Array Oper} {ts:Array TypeId} {Q:Exit->Act->World->Prop} {fn:Func} {lk:IntKind} {args cs AM:List Value} {bytes c2 d dd i j k lo m sz:Nat} {y:Operand} {A X:Option Addr} {row Nr:Option Nat} {P:Program} {T e t tn:TypeId} {w w' w1 w2:World} {enc:α -> List Value}
def lay(a:List Value)(o:Nat)(cs:List Value):List Value:=a.take o++cs++a.drop (o+cs.length)
theorem GU(a:List Value)(o:Nat):lay a o []=a:=by simp[lay]
theorem nB(X a b cs:List Value)(h:cs.length=a.length){o:Nat}(c:o=X.length):lay (X++a++b) o cs=X++cs++b:=by
 subst c;unfold lay<;>grind
theorem Own.opened[E:gG enc sz]{n c:Nat}{l:List α}(h:Own w lo e sz enc A n c l)(j:0<c):
 ∃g rest,A=some ⟨g,0,none⟩∧lo<=g∧ay w g e (l.flatMap enc++rest)∧n*sz+rest.length=c*sz∧n<=c∧c<=maxLen∧aN A c=some g:=by
 rcases h.row with⟨_,k⟩|⟨_,g,a,rfl,b,m,d,f,o,i⟩
 ·omega
 refine⟨g,a.toList.drop (n*sz),Z,b,?_,?_,d,f,by grind[aN,Nat.pos_iff_ne_zero]⟩
 ·unfold ay;rw[<-i,Pz];simp_all
 simp_all[Nat.mul_le_mul_right]
theorem Own.closed[E:gG enc sz]{n c g:Nat}{l:List α}{rest:List Value}(b:l.length=n)(d:ay w g e (l.flatMap enc++rest))(k:n*sz+rest.length=c*sz)(f:n<=c)(h:0<c)(i:c<=maxLen)(a:lo<=g):
 Own w lo e sz enc (some ⟨g,0,none⟩) n c l:=by
 have j:(l.flatMap enc).length=n*sz:=by rw[bc,b]
 refine⟨b,.inr ⟨h,g,_,Z,a,d,f,i,?_,?_⟩⟩;all_goals grind
theorem Own.pre[E:gG enc sz]{n c:Nat}{l:List α}(h:Own w lo e sz enc A n c l)(f:i<=n):Own w lo e sz enc A i c (l.take i):=by
 rcases Ps c with a|a
 ·have b:=h.le.1;have:n=0:=Y;subst a this;obtain rfl:i=0:=Y
  grind[Own.cq]
 obtain⟨g,rest,rfl,b,j,k,m,d,_⟩:=h.opened a;refine Own.closed (rest:=(l.drop i).flatMap enc++rest) (by simp[h.len];omega) ?_ ?_ Y a d b
 ·grind[List.append_assoc,List.take_append_drop]
 have o:((l.drop i).flatMap enc).length=(n-i)*sz:=by rw[bc];simp[h.len]
 have p:i+(n-i)=n:=Y
 grind
theorem Sl.drop{n:Nat}{l:List α}(h:Sl w sz enc A n l)(i c:Nat)(e:i<=n)(f:n<=c):Sl w sz enc (if c=i then A else A.map (·.add (i*sz))) (n-i) (l.drop i):=by
 refine⟨by simp[h.len],λg=>?_,λj d k u m=>?_⟩
 ·have:=h.base Y
  grind
 simp at d;have o:=h.len;rw[if_neg Y];have hb:=h.base Y;obtain⟨a,rfl⟩:=PM.1 hb;have b:=h.cell (i+j) Y k u (by grind);simp only[Option.getD_some,Option.map_some,add_add]at b⊢;grind
theorem Sl.pre{n:Nat}{l:List α}(h:Sl w sz enc A n l)(b:i<=n):Sl w sz enc A i (l.take i):=by
 refine⟨by simp[h.len];omega,λc=>h.base Y,λj a k u d=>?_⟩;simp at a;exact h.cell j Y k u (by grind)
section
variable {P:Program}{w:World}
theorem ij{g:Nat}(h:ay w g e AM):ay (w.setRow g cs.toArray) g e cs∧w.grownBy (w.setRow g cs.toArray) (some g):=
 ⟨setRow_heap w g _ _ e (0,0) h,⟨Z,Z,Z,by simp,λj _ a=>by
  simp only[World.setRow,Array.getElem?_modify];grind⟩⟩
theorem CD{z:Value}[S:bL P t e sz][T:dt P e z sz bytes](ty:TypeId){n c g o:Nat}(y:min m n=k)(b:cs.length=k*sz)(p:ay w g e AM)(s:o+cs.length<=AM.length)
 (d:0<k->A=some ⟨g,o,none⟩∧∃l,X=some l∧∀j v,cs[j]?=some v->w.cell? (l.add j)=some v) (B:∀v∈cs,v.oneCell'=true):
 ∃q,(Builtin.copy_ #[t,t] ty #[.slice A n c,.slice X m c2]).run P w= .ok (Iv (k:Int)) q∧ay q g e (lay AM o cs)∧w.grownBy q (some g):=by
 obtain⟨i,u,G,C,D⟩:=eB P e (z:=z) (sz:=sz) (bytes:=bytes);have a:Nat.min m n=k:=y;by_cases E:k=0
 ·have r:cs=[]:=PB (by grind);subst r;refine⟨w,?_,by grind[GU],World.grownBy.refl _ _⟩;cases A<;>cases X<;>simp[Builtin.copy_,run_underlying S.mg,Builtin.lenOf,Builtin.firstCells,sizeOf,typeInfo,u,a,E,loadCells,loadCellsFrom,storeCells,goInt]
 obtain⟨rfl,l,rfl,f⟩:=d Y;have x:=run_loadCells_list (P:=P) w l cs f;have h:=run_storeCells_at P g o e cs 0 AM.toArray w p Y B;have F:(AM.toArray.toList.take (o+0)++cs++AM.toArray.toList.drop (o+0+cs.length))=lay AM o cs:=by simp[lay]
 rw[F]at h;rw[b]at x;refine⟨_,?_,(ij p).1,(ij p).2⟩;simp[Builtin.copy_,run_underlying S.mg,Builtin.lenOf,Builtin.firstCells,sizeOf,typeInfo,u,C,a,x,h,goInt]
theorem AP{z:Value}[S:bL P t e sz][T:dt P e z sz bytes](ty:TypeId){n c g o:Nat}(f:ay w g e AM)(l:o+n*sz<=AM.length)(a:0<n->A=some ⟨g,o,none⟩)(p:∀v∈z.cells.toList,v.oneCell'=true):
 ∃h cs,(Builtin.clear_ #[t] ty #[.slice A n c]).run P w= .ok (.tuple #[]) h∧cs.length=n*sz∧ay h g e (lay AM o cs)∧w.grownBy h (some g):=by
 obtain⟨i,q,r,B,s⟩:=eB P e (z:=z) (sz:=sz) (bytes:=bytes);by_cases u:n=0
 ·subst u;refine⟨w,[],?_,by simp,by grind[GU],World.grownBy.refl _ _⟩;cases A<;>simp[Builtin.clear_,run_underlying S.mg]
 obtain rfl:=a Y;obtain⟨k,rfl⟩:∃k,n=k+1:=⟨n-1,by omega⟩;have b:(Builtin.zeroCells z.cells (k+1)).toList.length=(k+1)*sz:=by simp[Go.size_zeroCells,T.zc]
 have x:∀v∈(Builtin.zeroCells z.cells (k+1)).toList,v.oneCell'=true:=by
  intro v m;simp only[Builtin.zeroCells,Array.toList_map,Array.toList_range,List.mem_map]at m;obtain⟨j,C,rfl⟩:=m;have D:=T.pos;grind[Nat.mod_lt,Array.getElem_mem_toList]
 have d:=run_storeCells_at P g o e (Builtin.zeroCells z.cells (k+1)).toList 0 AM.toArray w f (by grind) x;have y:(AM.toArray.toList.take (o+0)++(Builtin.zeroCells z.cells (k+1)).toList++AM.toArray.toList.drop (o+0+(Builtin.zeroCells z.cells (k+1)).toList.length))=lay AM o (Builtin.zeroCells z.cells (k+1)).toList:=by simp[lay]
 rw[y]at d;refine⟨_,_,?_,b,(ij f).1,(ij f).2⟩;simp[Builtin.clear_,run_underlying S.mg,zeroValue,typeInfo,q,r,d]
end
section
variable {P:Program}{n:Nat}{ops:Array Oper}{Q:Exit->Act->World->Prop}{rest:List Oper}{L:Env}{w:World}{d:Option Nat}{T:TypeId}{pos:String}{af:Array Edge}{g:Option (Nat×Bool)}
theorem SW.copy{d:Nat}{t e:TypeId}{z:Value}{sz bytes:Nat}[S:bL P t e sz][E:dt P e z sz bytes]{x y:Operand}{A X:Option Addr}{m c r c2 k g:Nat}(o:Nat){b:List Value}(cs:List Value)(u:ay w g e b)(B:cg L x=some (.slice A m c))(C:cg L y=some (.slice X r c2))(D:Nat.blt d n=true)
 (F:min r m=k) (i:cs.length=k*sz) (l:o+cs.length<=b.length) (p:0<k->A=some ⟨g,o,none⟩∧∃s,X=some s∧∀j v,cs[j]?=some v->w.cell? (s.add j)=some v) (G:∀v∈cs,v.oneCell'=true)
 (h:∀f,ay f g e (lay b o cs)->w.grownBy f (some g)->SW P n ops (.fg Q) rest ((d,Iv (k:Int))::L) f):
 SW P n ops (.fg Q) (⟨some d,.call ⟨.builtin .copy,#[x,y],#[t,t]⟩,T,pos,af,none⟩::rest) L w:=
 ⟨λa q=>by
  obtain⟨f,H,I,J⟩:=CD (P:=P) (t:=t) T (c:=c) (c2:=c2) F i u l p G;simp only[swp,wpList,Region.wanted,if_true];refine .inl ?_;unfold Oper.wp
  have:(execOp a.eval ⟨some d,.call ⟨.builtin .copy,#[x,y],#[t,t]⟩,T,pos,af,none⟩).run P w= .ok (.value (Iv (k:Int))) f:=by
   simp[execOp,resolve,invoke,builtin,q.eval B,q.eval C,H]
  rw[this,Oper.upon_value];exact(h f I J).out _ (q.put D _)⟩
theorem SW.Nq{d:Nat}{t e:TypeId}{z:Value}{sz bytes:Nat}[S:bL P t e sz][E:dt P e z sz bytes]{x y:Operand}{A X:Option Addr}{m c f c2:Nat}(j:cg L x=some (.slice A m c))(k:cg L y=some (.slice X f c2))(l:Nat.blt d n=true)(o:min f m=0)
 (h:SW P n ops (.fg Q) rest ((d,Iv 0)::L) w):SW P n ops (.fg Q) (⟨some d,.call ⟨.builtin .copy,#[x,y],#[t,t]⟩,T,pos,af,none⟩::rest) L w:=
 ⟨λa g=>by
  obtain⟨i,p,s,u,q⟩:=eB P e (z:=z) (sz:=sz) (bytes:=bytes);have b:Nat.min f m=0:=o;simp only[swp,wpList,Region.wanted,if_true];refine .inl ?_;unfold Oper.wp
  have r:(Builtin.copy_ #[t,t] T #[.slice A m c,.slice X f c2]).run P w= .ok (Iv 0) w:=by
   cases A<;>cases X<;>simp[Builtin.copy_,run_underlying S.mg,Builtin.lenOf,Builtin.firstCells,sizeOf,typeInfo,p,b,loadCells,loadCellsFrom,storeCells,goInt]
  have:(execOp a.eval ⟨some d,.call ⟨.builtin .copy,#[x,y],#[t,t]⟩,T,pos,af,none⟩).run P w= .ok (.value (Iv 0)) w:=by
   simp[execOp,resolve,invoke,builtin,g.eval j,g.eval k,r]
  rw[this,Oper.upon_value];exact h.out _ (g.put l _)⟩
theorem SW.clear{z:Value}[S:bL P t e sz][E:dt P e z sz bytes]{x:Operand}{c g:Nat}(o:Nat)(k:ay w g e AM)(l:cg L x=some (.slice A m c))(d:o+m*sz<=AM.length)(f:0<m->A=some ⟨g,o,none⟩)(i:∀v∈z.cells.toList,v.oneCell'=true)
 (h:∀b cs,cs.length=m*sz->ay b g e (lay AM o cs)->w.grownBy b (some g)->SW P n ops (.fg Q) rest L b):
 SW P n ops (.fg Q) (⟨none,.call ⟨.builtin .clear,#[x],#[t]⟩,T,pos,af,none⟩::rest) L w:=
 ⟨λa j=>by
  obtain⟨b,cs,p,q,r,s⟩:=AP (P:=P) (t:=t) T (c:=c) k d f i;simp only[swp,wpList,Region.wanted,if_true];refine .inl ?_;unfold Oper.wp
  have:(execOp a.eval ⟨none,.call ⟨.builtin .clear,#[x],#[t]⟩,T,pos,af,none⟩).run P w= .ok (.value (.tuple #[])) b:=by
   simp[execOp,resolve,invoke,builtin,j.eval l,p]
  rw[this,Oper.upon_value];exact(h b cs q r s).out _ (j.Jv _)⟩
theorem mO[c:bL P t e sz]{x u:Operand}{cap:Nat}(f:cg L x=some (.slice A m cap))(h:cg L y=some (Iv (i:Int)))(k:cg L u=some (Iv (j:Int)))(l:i<=j)(n:j<=cap):
 St P ⟨d,.slice t x (some y) (some u) none,T,pos,af,g⟩ L w (.slice (if cap=i then A else A.map (·.add (i*sz))) (j-i) (cap-i)):=
 ⟨λ_ a b r _=>by
  have o:=b.eval f;have p:=b.eval h;have q:=b.eval k;generalize a.eval=ρ at*;simp[execOp,o,p,q,Instr.sliceAt,Instr.slice,Instr.sliceBounds,Instr.sliceBound,asIntOf,run_underlying c.mg,run_sizeOf c.size,l,n]⟩
theorem HJ[c:bL P t e sz]{x u v:Operand}{cap:Nat}(f:cg L x=some (.slice A m cap))(h:cg L y=some (Iv (i:Int)))(l:cg L u=some (Iv (j:Int)))(n:cg L v=some (Iv (k:Int)))(o:i<=j)(p:j<=k)(q:k<=cap):
 St P ⟨d,.slice t x (some y) (some u) (some v),T,pos,af,g⟩ L w (.slice (if k=i then A else A.map (·.add (i*sz))) (j-i) (k-i)):=
 ⟨λ_ a b C _=>by
  have r:=b.eval f;have s:=b.eval h;have z:=b.eval l;have B:=b.eval n;generalize a.eval=ρ at*;simp[execOp,r,s,z,B,Instr.sliceAt,Instr.slice,Instr.sliceBounds,Instr.sliceBound,asIntOf,run_underlying c.mg,run_sizeOf c.size,o,p,q]⟩
end
section
variable {P:Program}{n:Nat}{ops:Array Oper}{Q:Exit->Act->World->Prop}{rest:List Oper}{L:Env}{w:World}
structure jX(P:Program)(f:FuncId)(args:List Value)(w:World)(R:Value->World->Prop):Prop where
 out:Calls P f args.toArray w λe w'=>∃v,e= .returned v∧R v w'
theorem SW.cm{f:FuncId}{xs:List Operand}{vs:List Value}{pos:String}{R:Value->World->Prop}
 (g:r4 L xs=some vs) (i:Nat.blt d n=true) (j:jX P f vs w R) (h:∀v b,R v b->SW P n ops (.fg Q) rest ((d,v)::L) b) (k:Body P f:=by exact j0):
 SW P n ops (.fg Q) (⟨some d,.call ⟨.value (.func f),xs.toArray,ts⟩,T,pos,af,none⟩::rest) L w:=
 ⟨λa c=>by
  simp only[swp,wpList,Region.wanted,if_true];refine .inl ?_;unfold Oper.wp;rw[wm (hb:=k),Oper.upon_enter,c.sL g];refine Calls.mono j.out ?_;rintro e b ⟨v,rfl,l⟩;exact(h v b l).out _ (c.put i v)⟩
theorem c8{f:FuncId}{c:Code}{R:Value->World->Prop}(b:P.funcs[f]?=some fn)(hb:fn.body=some c)(l:fn.ntmps=n)(m:Nat.ble args.length n=true)
 (h:CW P n c (bodyPost P fn λe d=>∃v,e= .returned v∧R v d) (oS 0 args) w):jX P f args w R:=by
 have g:args.length<=n:=by simp_all
 refine⟨calls_of_wp b hb (h.out _ ⟨?_,Z,?_⟩)⟩
 ·grind
 intro i v j;obtain⟨_,k⟩:=pQ args 0 i v j;simp only[Nat.sub_zero]at k
 have a:i<args.length:=by
  grind
 rw[Qe,QX (by simpa using a)];grind
theorem SW.entry{f:FuncId}{e:Array Value->Sem Value}{xs:List Operand}{vs:List Value}{v:Value}{pos:String}
 (i:P.funcs[f]? =some fn) (b:(fn.name== "runtime.NumGoroutine")=false) (hb:fn.body.isNone=true) (c:Extern.findNext fn=none) (j:Extern.find fn=some e) (k:r4 L xs=some vs) (l:Nat.blt d n=true)
 (o:(e vs.toArray).run P w= .ok v w) (h:SW P n ops (.fg Q) rest ((d,v)::L) w):
 SW P n ops (.fg Q) (⟨some d,.call ⟨.value (.func f),xs.toArray,ts⟩,T,pos,af,none⟩::rest) L w:=
 ⟨λa g=>by
  simp only[swp,wpList,Region.wanted,if_true];refine .inl ?_;unfold Oper.wp;have p:=run_callFunc_extern (P:=P) i b hb c j vs.toArray w
  have:(execOp a.eval ⟨some d,.call ⟨.value (.func f),xs.toArray,ts⟩,T,pos,af,none⟩).run P w= .ok (.value v) w:=by
   have m:=g.sL k;simp only[execOp,resolve,Deferred.ofValue,Act.eval,Sem.run_bind,Result.andThen,invoke,List.map_toArray,m];simp_all
  rw[this,Oper.upon_value];exact h.out _ (g.put l v)⟩
end
theorem Ext.gr(h:Ext w w')(row:Option Nat):w.grownBy w' row:=⟨h.os,h.tape,h.output,h.size,λk a _=>h.block k a⟩
theorem cU(h:w.grownBy w1 row)(k:w1.grownBy w2 Nr)(d:Nr=row∨∀i,Nr=some i->w.heap.size<=i):w.grownBy w2 row:=
 ⟨k.os.trans h.os,k.tape.trans h.tape,k.output.trans h.output,Pj h.size k.size,λi c a=>by
  have b:i<w1.heap.size:=P1 c h.size;rcases d with e|e
  ·subst e;rw[k.block i b a,h.block i c a]
  rw[k.block i b (λf=>by grind),h.block i c a]⟩
theorem SW.JN{n:Nat}{rest:List Oper}{L:Env}{pos:String}{z:Value}{c:Nat}{l d:List α}[S:bL P t e sz][T':dt P e z sz bytes][E:gG enc sz]{x:Operand}
 (B:Own w lo e sz enc A k c l) (p:Sl w sz enc X m d) (b:k+m<=c) (D:cg L x=some (.slice A k c)) (U:cg L y=some (.slice X m c2)) (V:Nat.blt dd n=true)
 (h:∀f,Own f lo e sz enc A (k+m) c (l++d)->w.grownBy f (aN A c)->SW P n ops (.fg Q) rest ((dd,.slice A (k+m) c)::L) f):
 SW P n ops (.fg Q) (⟨some dd,.call ⟨.builtin .append,#[x,y],#[t,t]⟩,T,pos,af,none⟩::rest) L w:=
 ⟨λa F=>by
  obtain⟨i,N,hz,O,W⟩:=eB P e (z:=z) (sz:=sz) (bytes:=bytes);have q:(d.flatMap enc).length=m*sz:=by rw[bc,p.len]
  have r:∀u∈d.flatMap enc,u.oneCell'=true:=λu hu=>by
   obtain⟨x,_,D⟩:=Py.1 hu;exact E.one x u D
  have G:∃f,(Builtin.append_ #[t,t] T #[.slice A k c,.slice X m c2]).run P w= .ok (.slice A (k+m) c) f∧Own f lo e sz enc A (k+m) c (l++d)∧w.grownBy f (aN A c):=by
   by_cases H:m=0
   ·subst H;have I:d=[]:=PB p.len;subst I;refine⟨w,?_,by simpa using B,World.grownBy.refl _ _⟩;have J:k<=c:=Y;cases A<;>cases X<;>simp[Builtin.append_,run_underlying S.mg,sizeOf,typeInfo,N,Builtin.lenOf,J,Builtin.firstCells,loadCells,loadCellsFrom,storeCells]
   obtain⟨ad,rfl⟩:=PM.1 (p.base Y);have j:=jz T'.pos p;obtain⟨g,rest,rfl,K,s,h3,h4,h5,h6⟩:=B.opened Y;have v:(k+m)*sz<=c*sz:=PC _ b;have M:(l.flatMap enc).length=k*sz:=by rw[bc,B.len]
   rw[Qa]at v;have C:=run_append_room (P:=P) w t T e i S.mg N g k c (l.flatMap enc++rest).toArray s ad m c2 (d.flatMap enc) (by rw[O];exact q) j r b (by grind)
   have e1:(l.flatMap enc++rest).toArray.toList.take (k*i.size)++d.flatMap enc++(l.flatMap enc++rest).toArray.toList.drop (k*i.size+(d.flatMap enc).length)=(l++d).flatMap enc++rest.drop (m*sz):=by
    rw[O];have R:=nB (l.flatMap enc) (rest.take (m*sz)) (rest.drop (m*sz)) (d.flatMap enc) (by rw[q];simp;omega) (o:=k*sz) M.symm;rw[Po (l.flatMap enc),Pz]at R;rw[PP];exact R
   rw[e1]at C;refine⟨_,C,?_,?_⟩
   ·exact Own.closed (by rw[PI,B.len,p.len]) (ij s).1 (by rw[Qa];simp;omega) b Y h5 K
   rw[h6];exact(ij s).2
  obtain⟨f,C,K,s⟩:=G;simp only[swp,wpList,Region.wanted,if_true];refine .inl ?_;unfold Oper.wp
  have:(execOp a.eval ⟨some dd,.call ⟨.builtin .append,#[x,y],#[t,t]⟩,T,pos,af,none⟩).run P w= .ok (.value (.slice A (k+m) c)) f:=by
   simp[execOp,resolve,invoke,builtin,F.eval D,F.eval U,C]
  rw[this,Oper.upon_value];exact(h f K s).out _ (F.put V _)⟩
theorem SW.LH{n:Nat}{rest:List Oper}{L:Env}{pos:String}{z:Value}{c:Nat}{l:List α}[S:bL P t e sz][T':dt P e z sz bytes][E:gG enc sz]{x:Operand}
 {j:Int} (B:Sl w sz enc A m l) (C:P.underlying tn=some (.int lk)) (K:cg L x=some (.slice A m c)) (M:cg L y=some (Iv j)) (N:j=(k:Int)) (O:Nat.blt d n=true) (R:0<k) (b:c<m+k) (hb:(m+k)*bytes<=140737488355328) (hm:m+k<=9223372036854775807)
 (h:∀g f c' D,Ext w D->w.heap.size<=g->ay D g e (l.flatMap enc++f)->m*sz+f.length=c'*sz->m+k<=c'->c'<=maxLen->SW P n ops (.fg Q) rest ((d,.slice (some ⟨g,0,none⟩) (m+k) c')::L) D):
 SW P n ops (.fg Q) (⟨some d,.call ⟨.builtin .append,#[x,y],#[t,tn]⟩,T,pos,af,none⟩::rest) L w:=
 ⟨λa F=>by
  subst N;obtain⟨i,U,V,I,G⟩:=eB P e (z:=z) (sz:=sz) (bytes:=bytes);have J:=T'.pos;have o:=jz J B;have p:(l.flatMap enc).length=m*sz:=by rw[bc,B.len]
  have q:(Builtin.firstCells i.size m (.slice A m c)).run P w.drew= .ok (l.flatMap enc).toArray w.drew:=by
   rw[I];cases A with
   | none=>
     have u:m=0:=by
      rcases Ps m with u|u
      ·exact u
      have:=B.base u;grind
     simp_all[List.eq_nil_of_length_eq_zero,Builtin.firstCells]
   | some W=>
     simp only[Builtin.firstCells];rw[<-p];exact run_loadCells_list (P:=P) w.drew W _ (λj v X=>o j v X)
  have r:=Room.nextslicecap_le' b
  have s:Builtin.nextslicecap (m+k) c*i.bytes<=281474976710656:=by
   rw[G]
   calc Builtin.nextslicecap (m+k) c*bytes<=2*(m+k)*bytes:=PC _ r
    _<=281474976710656:=by rw[Nat.mul_assoc];omega
  have H:k*i.bytes<=281474976710656:=by
   grind
  have hr:=Lib.run_append_grow_zeros (P:=P) w t tn T e i z .i64 lk S.mg C U V A m c _ q k R (by rw[I];exact J) b Y H s;simp only[swp,wpList,Region.wanted,if_true];refine .inl ?_;unfold Oper.wp
  have:(execOp a.eval ⟨some d,.call ⟨.builtin .append,#[x,y],#[t,tn]⟩,T,pos,af,none⟩).run P w= .ok (.value (.slice (some ⟨w.heap.size,0,none⟩) (m+k) (grownCap w (m+k) c e))) (w.drew.alloc (.cells ((l.flatMap enc).toArray++Builtin.zeroCells z.cells k++Builtin.zeroCells z.cells (grownCap w (m+k) c e-(m+k))) e)):=by
   simp[execOp,resolve,invoke,builtin,F.eval K,F.eval M,hr]
  rw[this,Oper.upon_value];have hg:=grownCap_ge w (m+k) c e;refine(h w.heap.size ((Builtin.zeroCells z.cells k).toList++(Builtin.zeroCells z.cells (grownCap w (m+k) c e-(m+k))).toList) _ _ (Ext.trans (Ext.drew w) (Ext.alloc _ _)) (Ph _) ?_ ?_ hg (grownCap_le_maxLen w _ _ _ (by simp only[maxLen];omega))).out _ (F.put O _)
  ·have:=ay.new w.drew e (l.flatMap enc++((Builtin.zeroCells z.cells k).toList++(Builtin.zeroCells z.cells (grownCap w (m+k) c e-(m+k))).toList))
   have e1:(l.flatMap enc++((Builtin.zeroCells z.cells k).toList++(Builtin.zeroCells z.cells (grownCap w (m+k) c e-(m+k))).toList)).toArray=(l.flatMap enc).toArray++Builtin.zeroCells z.cells k++Builtin.zeroCells z.cells (grownCap w (m+k) c e-(m+k)):=by
    apply Array.ext';simp
   simp_all
  simp only[List.length_append,Array.length_toList,Go.size_zeroCells,T'.zc];rw[<-Qa,<-Qa];grind⟩
variable {dst src ty:TypeId}
def cu(a b:ByteArray):Bool:=Op.bytesLess a.toList b.toList
theorem bytes_irrefl:∀x:List UInt8,Op.bytesLess x x=false
 | []=>rfl
 | a::x=>by simp[Op.bytesLess,bytes_irrefl x]
theorem Br:∀x y:List UInt8,Op.bytesLess x y=(!(Op.bytesLess y x||decide (x=y)))
 | [],[]=>by simp[Op.bytesLess]
 | [],_::_=>by simp[Op.bytesLess]
 | _::_,[]=>by simp[Op.bytesLess]
 | a::x,b::y=>by
   have i:=Br x y;simp only[Op.bytesLess,List.cons.injEq];rcases PX a.toNat b.toNat with h|h|h
   ·have d:a<b:=h;have f:¬b<a:=λe=>by have:b.toNat<a.toNat:=e;omega
    have c:¬a=b:=λe=>by subst e;omega
    have g:¬b=a:=λe=>c e.symm;simp[d,f,c,g]
   ·have c:a=b:=UInt8.toNat_inj.1 h;subst c;have d:¬a<a:=λe=>by have:a.toNat<a.toNat:=e;omega
    simp[d,i]
   have d:b<a:=h;have f:¬a<b:=λe=>by have:a.toNat<b.toNat:=e;omega
   have c:¬a=b:=λe=>by subst e;omega
   have g:¬b=a:=λe=>c e.symm;simp[d,f,c]
theorem bytes_trans:∀x y z:List UInt8,Op.bytesLess x y=true->Op.bytesLess y z=true->Op.bytesLess x z=true
 | _,[],_,h,_=>by simp[Op.bytesLess]at h
 | _,_::_,[],_,h=>by simp[Op.bytesLess]at h
 | [],_::_,_::_,_,_=>by simp[Op.bytesLess]
 | a::x,b::y,c::z,h,k=>by
   simp only[Op.bytesLess,Bool.or_eq_true,decide_eq_true_eq,Bool.and_eq_true,beq_iff_eq]at h k⊢;rcases h with h|⟨rfl,h⟩<;>rcases k with k|⟨rfl,k⟩
   ·grind
   ·grind
   ·grind
   exact .inr ⟨Z,bytes_trans x y z h k⟩
theorem vY(a b:ByteArray):(a.toList==b.toList)=decide (a=b):=by
 by_cases h:a=b
 ·grind
 have:¬a.toList=b.toList:=λe=>h (by
  have c:=congrArg (λl:List UInt8=>ByteArray.mk l.toArray) e;simp only[ByteArray.toList_eq]at c;simp_all)
 grind
theorem ta(a:ByteArray):cu a a=false:=bytes_irrefl _
theorem lM{a b c:ByteArray}(h:cu a b=true)(k:cu b c=true):cu a c=true:=bytes_trans _ _ _ h k
theorem uh(a b:ByteArray):cu a b= !(cu b a||decide (a=b)):=by
 unfold cu;rw[Br];have:decide (a.toList=b.toList)=decide (a=b):=by rw[<-vY];grind
 grind
class Bs(P:Program)(t:TypeId):Prop where
 mg:P.underlying t=some .string
def CI(b:UInt8):List Value:=[.int .u8 b.toNat]
section
variable {P:Program}{L:Env}{w:World}{d:Option Nat}{T:TypeId}{pos:String}{af:Array Edge}{g:Option (Nat×Bool)}
theorem jt{x:Operand}{a b:ByteArray}(f:cg L x=some (.string a))(h:cg L y=some (.string b)):St P ⟨d,.binOp .eql t x y ty,T,pos,af,g⟩ L w (.bool (decide (a=b))):=
 ⟨λ_ A c e _=>by
  have i:=c.eval f;have j:=c.eval h;generalize A.eval=ρ at*
  have k:(binOp .eql t (.string a) (.string b)).run P e= .ok (.bool (decide (a=b))) e:=by
   simp_all[binOp,Op.stringOp,vY,pure]
  simp_all[execOp,eqGuard]⟩
theorem DM{x:Operand}{a b:ByteArray}(f:cg L x=some (.string a))(h:cg L y=some (.string b)):St P ⟨d,.binOp .geq t x y ty,T,pos,af,g⟩ L w (.bool (!cu a b)):=
 ⟨λ_ A c e _=>by
  have i:=c.eval f;have j:=c.eval h;generalize A.eval=ρ at*
  have k:(binOp .geq t (.string a) (.string b)).run P e= .ok (.bool (!cu a b)) e:=by
   simp_all[binOp,Op.stringOp,pure,cu]
  simp_all[execOp,eqGuard]⟩
theorem DN{x:Operand}{a b:ByteArray}(h:cg L x=some (.string a))(i:cg L y=some (.string b)):St P ⟨d,.binOp .leq t x y ty,T,pos,af,g⟩ L w (.bool (!cu b a)):=
 ⟨λ_ A c f _=>by
  have j:=c.eval h;have k:=c.eval i;generalize A.eval=ρ at*
  have l:(binOp .leq t (.string a) (.string b)).run P f= .ok (.bool (!cu b a)) f:=by
   have:binOp .leq t (.string a) (.string b)=Op.stringOp .leq a b:=by simp[binOp]
   rw[this,uh b a];have e:decide (b=a)=decide (a=b):=by grind
   simp_all[vY,Op.stringOp,pure,cu]
  simp_all[execOp,eqGuard]⟩
theorem wN{x:Operand}{a b:ByteArray}(f:cg L x=some (.string a))(h:cg L y=some (.string b)):St P ⟨d,.binOp .lss t x y ty,T,pos,af,g⟩ L w (.bool (cu a b)):=
 ⟨λ_ A c e _=>by
  have i:=c.eval f;have j:=c.eval h;generalize A.eval=ρ at*
  have k:(binOp .lss t (.string a) (.string b)).run P e= .ok (.bool (cu a b)) e:=by
   simp_all[binOp,Op.stringOp,pure,cu]
  simp_all[execOp,eqGuard]⟩
theorem mA{x:Operand}{a b:ByteArray}(h:cg L x=some (.string a))(i:cg L y=some (.string b)):St P ⟨d,.binOp .neq t x y ty,T,pos,af,g⟩ L w (.bool (decide (a≠b))):=
 ⟨λ_ A c f _=>by
  have j:=c.eval h;have k:=c.eval i;generalize A.eval=ρ at*
  have l:(binOp .neq t (.string a) (.string b)).run P f= .ok (.bool (decide (a≠b))) f:=by
   have:binOp .neq t (.string a) (.string b)=Op.stringOp .neq a b:=by simp[binOp]
   rw[this];have e:decide (a≠b)= !(a.toList==b.toList):=by rw[vY];simp
   simp_all[Op.stringOp,pure]
  simp_all[execOp,eqGuard]⟩
theorem lA[c:Bs P t]{x:Operand}{s:ByteArray}(b:cg L x=some (.string s)):
 St P ⟨d,.call ⟨.builtin .len,#[x],#[t]⟩,T,pos,af,g⟩ L w (Iv (s.size:Int)):=
 ⟨λ_ a e f _=>by simp[execOp,resolve,invoke,builtin,e.eval b,Builtin.len_,run_underlying c.mg,goInt]⟩
theorem vZ[c:Bs P t]{x:Operand}{s:ByteArray}{i:Int}(k:Nat)(e:cg L x=some (.string s))(f:cg L y=some (Iv i))(h:i=(k:Int))(j:k<s.size):
 St P ⟨d,.index t x y,T,pos,af,g⟩ L w (.int .u8 (s[k]'j).toNat):=
 ⟨λ_ a b l _=>by
  subst h;have m:=b.eval e;have n:=b.eval f;generalize a.eval=ρ at*;have:=run_index_string (P:=P) l t s .i64 (k:Int) c.mg
  simp_all[execOp]⟩
end
section
variable {P:Program}{n:Nat}{ops:Array Oper}{Q:Exit->Act->World->Prop}{rest:List Oper}{L:Env}{w:World}{T:TypeId}{pos:String}{af:Array Edge}
theorem SW.HT[S:Bs P src][D:bL P dst e 1](o:P.underlying e=some (.int .u8)){x:Operand}{s:ByteArray}(p:cg L x=some (.string s))(q:Nat.blt d n=true)
 (h:∀b c g,Ext w g->w.heap.size<=b->Sl g 1 CI (some ⟨b,0,none⟩) s.size s.data.toList->SW P n ops (.fg Q) rest ((d,.slice (some ⟨b,0,none⟩) s.size c)::L) g):
 SW P n ops (.fg Q) (⟨some d,.convert src dst x,T,pos,af,none⟩::rest) L w:=
 ⟨λa l=>by
  simp only[swp,wpList,Region.wanted,if_true];refine .inl ?_;unfold Oper.wp;have r:=Lib.run_convert_string_bytes (P:=P) w src dst e s S.mg D.mg o
  have:(execOp a.eval ⟨some d,.convert src dst x,T,pos,af,none⟩).run P w= .ok (.value (.slice (some ⟨w.heap.size,0,none⟩) s.size (grownCap w s.size 0 e))) (Lib.bytesWorld w e s):=by
   simp[execOp,l.eval p,r]
  rw[this,Oper.upon_value];have t:Ext w (Lib.bytesWorld w e s):=⟨Z,Z,Z,by rw[Lib.bytesWorld_size];omega,λj v=>Lib.bytesWorld_at_old w e s j v⟩;refine(h _ _ _ t (Ph _) ⟨?_,λ_=>Z,λi m j u f=>?_⟩).out _ (l.put q _)
  ·simp_all
  have k:i<s.size:=by rw[Array.length_toList]at m;exact m
  have:=Lib.bytesWorld_cell w e s i k
  match j,f with
  | 0,f=>
    simp only[CI,List.getElem?_cons_zero,Option.some.injEq]at f;rw[add_zero]
    have y:(((some (⟨w.heap.size,0,none⟩:Addr)).getD default).add (i*1))=⟨w.heap.size,i,none⟩:=by
     simp_all[Option.getD_some,Nat.mul_one,Addr.add]
    grind
  | j+1,f=>grind[CI]⟩
end
theorem AS(A:Option Addr)(n c:Nat)(l:List Slab)(w:World)(d:Sl w 3 bG A n l)(o:n*24<=140737488355328):aS prog 32 [.slice A n c] w (tZ w 60 3 bG n l):=by
 refine Wj func32 ntmps32 ?_;have a:=Ext.refl w;refine Wz ?_;refine SW.st (sM rfl rfl) rfl ?_;repeat'(first|refine Wz ?_|(refine CW.cond rfl (λh=>?_) (λh=>?_)))
 ·have e:n=0:=by
   rcases Ps n with f|f
   ·exact f
   have:=d.base f;simp_all
  subst e;have:l=[]:=PB d.len;subst this;exact ah.aF rfl rfl ⟨_,rfl,a,none,0,rfl,Own.cq _ _ _ _ _ _⟩
 refine SW.Cv rfl λb i g hb=>?_;have a:=a.trans g;refine Wz ?_;refine SW.qZ (Qk n) (Qb l) (Own.cq i w.heap.size _ _ bG (some ⟨b,0,none⟩)) (d.ext a) a.size Z Z Z Y Y λj c2 p k m=>?_;have a:=au a m (Ph _) (by simp[aN]);refine Wz ?_;exact ah.aF Z Z ⟨_,Z,a,j,c2,Z,k⟩
variable {most:Int}
def pb(b:Bool):List Value:=[.bool b]
instance :gG pb 1:=⟨λ_=>rfl,λ_ u hu=>by simp[pb]at hu;subst hu;rfl⟩
theorem CK(A:Option Addr)(n c:Nat)(l:List Int)(x:Int)(w:World)(b:Sl w 1 aT A n l)(r:n<=9223372036854775807):
 aS prog 218 [.slice A n c,Iv x] w λv _=>∃i:Int,v=Iv i∧(0<=i↔x∈l):=by
 refine Wj func218 ntmps218 ?_;have a:=Ext.refl w;have s:=b.base;have p:=b.len;refine Wz ?_
 refine CW.loop (λk:Nat=>[(0,.slice A n c),(1,Iv x),(7,Iv (n:Int)),(8,Iv (k:Int))]) (λk m=>k<=n∧Ext w m∧∀(i:Nat)(h:i<l.length),i<k->l[i]≠x)
  (λk=>n-k) 0 ⟨rfl,rfl,rfl,rfl,trivial⟩ ⟨by omega,a,λi h d=>by omega⟩ ?_
 rintro k m ⟨t,a,o⟩;by_cases f:k<n
 ·repeat'(first|refine Wz ?_|(refine CW.og rfl (λh=>?_) (λh=>?_))|refine Wn a (b.one f rfl) ?_)
  ·refine ah.aF rfl rfl ⟨_,rfl,a,_,rfl,?_⟩;have g:x∈l:=by rw[h];exact Pf _
   simp[g]
  refine ah.again (k+1) ⟨rfl,rfl,rfl,rfl,trivial⟩ Y ⟨by omega,a,λi h' d=>?_⟩;by_cases j:i=k
  ·subst j;exact λe=>h e.symm
  exact o i h' Y
 refine Wz ?_;refine ah.aF Z Z ⟨_,Z,a,_,Z,?_⟩
 have g:¬x∈l:=λq=>by
  obtain⟨i,d,e⟩:=Pg q;exact o i d Y e
 simp[g]
theorem hU(A:Option Addr)(n c:Nat)(l:List Int)(x:Int)(w:World)(d:Sl w 1 aT A n l)(e:n<=9223372036854775807):
 aS prog 172 [.slice A n c,Iv x] w λv _=>v= .bool (decide (x∈l)):=by
 refine Wj func172 ntmps172 ?_;have a:=Ext.refl w;refine Wz ?_;refine Wk (CK _ _ _ _ _ _ (d.ext a) e) λv h b f=>?_;obtain⟨i,rfl,g⟩:=f;have a:=a.trans b;refine Wz ?_;refine ah.aF Z Z ⟨_,Z,a,?_⟩;congr 1
 rw[decide_eq_decide];exact g
inductive eH(l:List Int)(most:Int):Int->List Int->Option (List Int)->Prop where
 | done (out:List Int):eH l most (-1) out (some out)
 | bad {x:Int} {out:List Int} (h:x≠-1) (hb:most<=out.length∨¬(0<=x∧x<l.length)∨x∈out):eH l most x out none
 | step {k:Nat} {out:List Int} {r:Option (List Int)} (h1:out.length<most) (hk:k<l.length) (h3:(k:Int)∉out) (h:eH l most l[k] (out++[(k:Int)]) r):eH l most k out r
theorem eH.c7{l:List Int}{x:Int}{a:List Int}{r s:Option (List Int)}(h:eH l most x a r):eH l most x a s->r=s:=by
 induction h with
 | done a=>intro h';generalize b:(-1:Int)=y at h';cases h'<;>grind
 | @bad x a h hb=>intro h';cases h'<;>grind
 | @step k a r c d e h f=>intro h';generalize b:(k:Int)=y at h';cases h'<;>grind
def qf(n:Nat)(a:List Int):Nat:=((List.range n).filter λi:Nat=>decide ((i:Int)∉a)).length
theorem Bu{n:Nat}{a:List Int}(b:k<n)(h:(k:Int)∉a):qf n (a++[(k:Int)])<qf n a:=by
 unfold qf
 have e:((List.range n).filter λi:Nat=>decide ((i:Int)∉a++[(k:Int)]))=((List.range n).filter λi:Nat=>decide ((i:Int)∉a)).filter λi:Nat=>decide (i≠k):=by
  rw[List.filter_filter];grind
 rw[e];refine List.length_filter_lt_length_iff_exists.2 ⟨k,?_,by simp⟩
 grind
variable {β:Type} {nn Oe:Nat} {B:Option Addr} {e':TypeId} {Nt:β -> List Value}
theorem Own.CL{c:Nat}{l:List α}{b:List β}
 (f:Own w lo e sz enc A m c l) (h:Own w nn e' Oe Nt B k d b) (i:Nat.beq e e'=false):aN A c=none∨aN A c≠aN B d:=by
 rcases f.row with⟨_,rfl⟩|⟨j,g,n,rfl,_,q,_⟩
 ·grind[aN]
 right;rcases h.row with⟨_,rfl⟩|⟨o,r,a,rfl,_,p,_⟩
 ·grind[aN,Nat.pos_iff_ne_zero]
 simp only[aN,Nat.pos_iff_ne_zero.1 j,Nat.pos_iff_ne_zero.1 o,if_false,Option.map_some,ne_eq,Option.some.injEq];rintro rfl<;>simp_all
def GZ(lo:Nat)(r:Option (List Int))(v:Value)(w:World):Prop:=match r with
 | none=>v= .tuple #[.slice none 0 0,Iv 8]
 | some a=>∃A c,v= .tuple #[.slice A a.length c,Iv 0]∧Own w lo 3 1 aT A a.length c a∧a.length<=17592186044416
theorem wP(n:Nat):qf n []<=n:=Pj (Ql _ _) fy
theorem FF(A:Option Addr)(n c:Nat)(l:List Int)(x e:Int)(w:World)(p:Sl w 1 aT A n l)(M:n*8<=140737488355328):
 aS prog 216 [.slice A n c,Iv x,Iv e] w λv q=>∃r,eH l e x [] r∧GZ w.heap.size r v q:=by
 refine Wj func216 ntmps216 ?_;have d:=Ext.refl w;have m:n<=2305843009213693952:=Y;have N:=p.base;have C:=p.len;refine Wz ?_
 refine CW.loop (λs:List Int×Int×Option Addr×Nat=>[(0,.slice A n c),(1,Iv s.2.1),(2,Iv e),(8,.slice s.2.2.1 s.1.length s.2.2.2)])
  (λs q=>s.1.length+qf n s.1<=n∧(∀r,eH l e s.2.1 s.1 r->eH l e x [] r)∧Ext w q∧Own q w.heap.size 3 1 aT s.2.2.1 s.1.length s.2.2.2 s.1) (λs=>qf n s.1) ([],x,none,0) ⟨rfl,rfl,rfl,rfl,trivial⟩
  ⟨by simpa using wP n,λ_ h=>h,d,Own.cq _ _ _ _ _ _⟩ ?_
 rintro⟨i,y,D,E⟩ q ⟨F,o,d,g⟩;simp only at F o g⊢;by_cases z:y= -1
 ·refine Wz ?_;refine ah.cf rfl rfl rfl ⟨_,rfl,d,some i,o _ (by subst z;exact .done _),D,E,rfl,g,by omega⟩
 by_cases G:e<=i.length
 ·refine Wz ?_;exact ah.cf rfl rfl rfl ⟨_,rfl,d,none,o _ (.bad z (.inl G)),rfl⟩
 by_cases H:0<=y∧y<n
 ·obtain⟨k,rfl⟩:=Pm H.1;have j:k<n:=Y;by_cases f:(k:Int)∈i
  ·repeat'(first|refine Wz ?_|(refine Wc (oT _ _ _ _ _ _ m) λt a=>?_;obtain⟨d,g⟩:=bk a d g))
   refine Wk (hU _ _ _ _ _ _ g.sl Y) λv t a u=>?_;rw[decide_eq_true f]at u;subst u;have d:=d.trans a;refine Wz ?_;exact ah.cf Z Z Z ⟨_,Z,d,none,o _ (.bad z (.inr (.inr f))),Z⟩
  have I:=Bu j f;repeat'(first|refine Wz ?_|(refine Wc (oT _ _ _ _ _ _ m) λt a=>?_;obtain⟨d,g⟩:=bk a d g))
  refine Wk (hU _ _ _ _ _ _ g.sl Y) λv t a u=>?_;rw[decide_eq_false f]at u;subst u;obtain⟨d,g⟩:=bk a d g;refine Wz ?_;refine SW.bz Z Z Z Z Z λb t a hb J=>?_;obtain⟨d,g⟩:=bk a d g;refine SW.append g (ay.la (enc:=aT) J) d.size Z Z Z Y Y λK c2 O B L=>?_;have d:=au d L (Ph _) g.az;repeat'(first|refine Wz ?_|refine Wn d (p.one j Z) ?_)
  refine ah.again (i++[(k:Int)],l[k]'(p.lt j),K,c2) ⟨Z,Z,Z,by simp;rfl,trivial⟩ I ⟨by simp only[List.length_append,List.length_singleton];omega,λr h=>o r (.step Y (p.lt j) f h),d,by simpa using B⟩
 repeat'(first|refine Wz ?_|(refine Wc (oT _ _ _ _ _ _ m) λt a=>?_;obtain⟨d,g⟩:=bk a d g))
 exact ah.cf Z Z Z ⟨_,Z,d,none,o _ (.bad z (.inr (.inl Y))),Z⟩
def qg(n:Nat)(a:List Int):List Bool:=(List.range n).map λi:Nat=>decide ((i:Int)∈a)
theorem HU(n:Nat):qg n []=List.replicate n false:=by
 apply PK (by simp[qg])
 grind[qg]
theorem HV{n:Nat}{a:List Int}:(qg n a).set k true=qg n (a++[(k:Int)]):=by
 apply PK (by simp[qg]);intro i b c;rw[P4];by_cases h:k=i
 ·grind[qg]
 have:¬i=k:=λe=>h e.symm
 simp_all[qg,Int.natCast_inj]
theorem si{n:Nat}{a:List Int}(h:Sl w 1 pb B n (qg n a))(b:k<n):w.cell? ((B.getD default).add (k*1))=some (.bool (decide ((k:Int)∈a))):=by
 have:=h.one (u:= .bool (decide ((k:Int)∈a))) b (by simp[pb,qg]);omega
theorem CM(A:Option Addr)(n c:Nat)(l:List Int)(x f:Int)(w:World)(C:Sl w 1 aT A n l)(T:n*8<=140737488355328):
 aS prog 225 [.slice A n c,Iv x,Iv f] w λv u=>∃r,eH l f x [] r∧GZ w.heap.size r v u:=by
 refine Wj func225 ntmps225 ?_;have a:=Ext.refl w;have q:n<=2305843009213693952:=Y;have U:=C.base;have I:=C.len;refine Wz ?_;refine SW.make (enc:=pb) (k:=n) false rfl rfl rfl Y Y rfl λB d E e g=>?_;have G:=a.size;have a:=a.trans e;rw[<-HU n]at g;have g:=Own.low g G;refine Wz ?_
 refine CW.loop (λs:List Int×Int×Option Addr×Nat=>[(0,.slice A n c),(1,Iv s.2.1),(2,Iv f),(8,.slice B n d),(9,.slice s.2.2.1 s.1.length s.2.2.2)])
  (λs u=>s.1.length+qf n s.1<=n∧(∀r,eH l f s.2.1 s.1 r->eH l f x [] r)∧Ext w u∧Own u w.heap.size 3 1 aT s.2.2.1 s.1.length s.2.2.2 s.1∧Own u w.heap.size 4 1 pb B n d (qg n s.1)) (λs=>qf n s.1) ([],x,none,0) ⟨Z,Z,Z,Z,Z,trivial⟩
  ⟨by simpa using wP n,λ_ h=>h,a,Own.cq _ _ _ _ _ _,g⟩ ?_
 rintro⟨p,y,J,K⟩ u ⟨L,z,a,j,g⟩;simp only at L z j g⊢;by_cases F:y= -1
 ·refine Wz ?_;refine ah.cf Z Z Z ⟨_,Z,a,some p,z _ (by subst F;exact .done _),J,K,Z,j,by omega⟩
 by_cases M:f<=p.length
 ·refine Wz ?_;exact ah.cf Z Z Z ⟨_,Z,a,none,z _ (.bad F (.inl M)),Z⟩
 by_cases N:0<=y∧y<n
 ·obtain⟨k,rfl⟩:=Pm N.1;have i:k<n:=Y;have O:=g.sl.base;by_cases o:(k:Int)∈p
  ·have t:=si g.sl i;rw[decide_eq_true o]at t;repeat'(first|refine Wz ?_|refine Wl (si g.sl i) ?_|(refine Wc (oj _ _ _ _ _ _ q) λE e=>?_;obtain⟨a,j,g⟩:=aY e a j g))
   exact ah.cf Z Z Z ⟨_,Z,a,none,z _ (.bad F (.inr (.inr o))),Z⟩
  have P:=Bu i o;repeat'(first|refine Wz ?_|refine Wl (si g.sl i) ?_|(refine Wc (oj _ _ _ _ _ _ q) λE e=>?_;obtain⟨a,j,g⟩:=aY e a j g))
  refine SW.eY k 0 true g Z Z Z i Y (by rw[add_zero]) Z λQ m D=>?_;have a:=au a D (Ph _) g.az;have j:=j.grown D (j.CL g Z);rw[HV]at m;refine Wz ?_;refine SW.bz Z Z Z Z Z λb E e hb R=>?_;obtain⟨a,j,m⟩:=aY e a j m;refine SW.append j (ay.la (enc:=aT) R) a.size Z Z Z Y Y λS c2 Q H D=>?_;have a:=au a D (Ph _) j.az;have m:=m.grown D (m.CL j Z);repeat'(first|refine Wz ?_|refine Wn a (C.one i Z) ?_)
  refine ah.again (p++[(k:Int)],l[k]'(C.lt i),S,c2) ⟨Z,Z,Z,Z,by simp;rfl,trivial⟩ P ⟨by simp only[List.length_append,List.length_singleton];omega,λr h=>z r (.step Y (C.lt i) o h),a,by simpa using H,m⟩
 repeat'(first|refine Wz ?_|(refine Wc (oj _ _ _ _ _ _ q) λE e=>?_;obtain⟨a,j,g⟩:=aY e a j g))
 exact ah.cf Z Z Z ⟨_,Z,a,none,z _ (.bad F (.inr (.inl Y))),Z⟩
def cJ(x:Int):Int×Int×Int:=if 1<=x∧x<=64 then(if 4<=16 / x then(0,16 / x,0)else if 4<=32 / x then(1,32 / x,0)else(2,64 / x,0))else(0,0,1)
def lB(x:Int):Value:= .tuple #[Iv (cJ x).1,Iv (cJ x).2.1,Iv (cJ x).2.2]
theorem td(x:Int)(w:World):aS prog 102 [Iv x] w λv _=>v=lB x:=by
 refine Wj func102 ntmps102 ?_;have b:=Ext.refl w;repeat'(first|refine Wz ?_|(first|refine CW.og rfl (λh=>?_) (λh=>?_)|refine CW.uX rfl (λh=>?_) (λh=>?_)|(apply CW.dF mixed;(·kernel_rfl);rotate_left;intro c a;have b:=b.trans a;rotate_right))|(refine Wc (bE _ _ _ _) λc a=>?_;have b:=b.trans a)|exact SW.br rfl)
 all_goals refine ah.sN rfl rfl rfl rfl ⟨_,rfl,b,?_⟩
 all_goals unfold lB cJ
 ·rw[if_neg Y]
 ·rw[if_pos Y,if_pos Y]
 ·rw[if_pos Y,if_neg Y,if_pos Y]
 rw[if_pos Y,if_neg Y,if_neg Y]
theorem wO(x:Int)(w:World):aS prog 68 [Iv x] w λv _=>v=lB x:=by
 refine Wj func68 ntmps68 ?_;have a:=Ext.refl w;repeat'(first|refine Wz ?_|(refine CW.og rfl (λh=>?_) (λh=>?_))|refine SW.dP rfl rfl rfl (λh=>?_) (λh=>?_))
 ·refine ah.sN rfl rfl rfl rfl ⟨_,rfl,a,?_⟩;unfold lB cJ;rw[if_neg Y]
 ·refine ah.sN rfl rfl rfl rfl ⟨_,rfl,a,?_⟩;unfold lB cJ;rw[if_neg Y]
 have g:1<=x∧x<=64:=Y;refine CW.loop (λk:Nat=>[(0,Iv x),(5,Iv (k:Int))]) (λk c=>k<=2∧Ext w c∧(1<=k->¬4<=16 / x)∧(2<=k->¬4<=32 / x)) (λk=>2-k) 0 ⟨rfl,rfl,trivial⟩ ⟨by omega,a,by omega,by omega⟩ ?_;rintro k c ⟨i,a,b,d⟩;obtain rfl|rfl|rfl:k=0∨k=1∨k=2:=Y
 ·refine Wz ?_;refine SW.st (fO (r:=16) rfl rfl ir ir ir ir ir) rfl ?_;repeat'(first|refine Wz ?_|refine SW.dP rfl rfl rfl (λh=>?_) (λh=>?_))
  ·refine ah.sN rfl rfl rfl rfl ⟨_,rfl,a,?_⟩;unfold lB cJ;rw[if_pos Y,if_pos Y]
   rfl
  exact ah.again 1 ⟨rfl,rfl,trivial⟩ Y ⟨by omega,a,λ_=>by omega,λh=>by omega⟩
 ·refine Wz ?_;refine SW.st (fO (r:=32) rfl rfl ir ir ir ir ir) rfl ?_;repeat'(first|refine Wz ?_|refine SW.dP rfl rfl rfl (λh=>?_) (λh=>?_))
  ·refine ah.sN rfl rfl rfl rfl ⟨_,rfl,a,?_⟩;have:=b Y;unfold lB cJ;rw[if_pos Y,if_neg Y,if_pos Y]
   rfl
  exact ah.again 2 ⟨rfl,rfl,trivial⟩ Y ⟨by omega,a,λ_=>b Y,λ_=>by omega⟩
 refine Wz ?_;refine SW.st (fO (r:=64) rfl rfl ir ir ir ir ir) rfl ?_;have e:=b Y;have f:=d Y;repeat'(first|refine Wz ?_|refine SW.dP rfl rfl rfl (λh=>?_) (λh=>?_))
 all_goals refine ah.sN rfl rfl rfl rfl ⟨_,rfl,a,?_⟩
 all_goals unfold lB cJ
 all_goals rw[if_pos Y,if_neg Y,if_neg Y]
 all_goals rfl
open Go.RowKit Go.Maps
variable {keys:List Lit} {kl:Lit} {b:Nat} {g:Option (Nat×Bool)}
structure oA(w:World)(P:Program)(k e:TypeId)(b:Nat)(keys:List Lit):Prop where
 own:w.ownsMap (H:=Unit) P k (plainElem P e) b keys.length (setOf (.lit (.bool true)) keys)
 ok:∀x∈keys,WideAt.IsKeyLit x
theorem oA.ext{k:TypeId}(h:oA w P k e b keys)(a:Ext w w'):oA w' P k e b keys:=⟨h.own.kept (row:=none) ⟨a.os,a.tape,a.output,a.size,λi c _=>a.block i c⟩ fy,h.ok⟩
theorem oA.grown{k:TypeId}(h:oA w P k e b keys)(c:w.grownBy w' row)(a:some b≠row):oA w' P k e b keys:=⟨h.own.kept c a,h.ok⟩
theorem oA.lt{k:TypeId}(h:oA w P k e b keys):b<w.heap.size:=h.own.lt
theorem xw(u z:DataW Unit)(k:Lit):∀(a:List Lit)(m:DataW Unit),IsMap m->(∀x∈a,WideAt.IsKeyLit x)->(a.foldl (λm x=>m.put x u) m).atKey k z=if a.any (λx=>x.sameKey k)then u else m.atKey k z
 | [],m,_,_=>by simp
 | x::r,m,hm,h=>by
   rw[List.foldl_cons,xw u z k r (m.put x u) (hm.put x u) (λy b=>h y (by grind)),List.any_cons];by_cases e:k=x<;>grind[atKey_put_same,WideAt.sameKey_self,atKey_put_other,sameKey_ne]
theorem Ib(k:Lit)(a:List Lit)(h:∀x∈a,WideAt.IsKeyLit x):(setOf (.lit (.bool true)) a:DataW Unit).atKey k (.lit (.bool false))= .lit (.bool (a.any λx=>x.sameKey k)):=by
 rw[setOf,xw _ _ k a _ isMap_empty h];cases a.any λx=>x.sameKey k<;>rfl
section
variable {P:Program}{n:Nat}{ops:Array Oper}{Q:Exit->Act->World->Prop}{rest:List Oper}{L:Env}{w:World}{T:TypeId}{pos:String}{af:Array Edge}
theorem SW.makeMap(k e:TypeId)(f:Nat.blt d n=true)(h:∀b c,Ext w c->w.heap.size<=b->oA c P k e b []->SW P n ops (.fg Q) rest ((d,.map (some b))::L) c):
 SW P n ops (.fg Q) (⟨some d,.makeMap t none,T,pos,af,none⟩::rest) L w:=
 ⟨λa g=>by
  simp only[swp,wpList,Region.wanted,if_true];refine .inl ?_;unfold Oper.wp
  have:(execOp a.eval ⟨some d,.makeMap t none,T,pos,af,none⟩).run P w= .ok (.value (.map (some w.heap.size))) (w.alloc (.map #[] 0)):=by
   simp[execOp,run_makeMap]
  rw[this,Oper.upon_value];exact(h _ _ (Ext.alloc w _) (Ph _) ⟨World.ownsMap_made w P k _,λx i=>by grind⟩).out _ (g.put f _)⟩
theorem xy{d:Option Nat}{k:TypeId}{m x:Operand}{c:Value}(o:oA w P k e b keys)(K:Keyed P k)(r:P.underlying t=some (.map k e))(s:P.underlying e=some .bool)(u:∀w,(zeroValue e).run P w= .ok (.bool false) w)
 (z:cg L m=some (.map (some b))) (A:cg L x=some c) (f:Go.keyOf P k c=some kl):St P ⟨d,.lookup t m x false,T,pos,af,g⟩ L w (.bool (keys.any λy=>y.sameKey kl)):=
 ⟨λn a p B i=>by
  have j:=o.ext i;obtain⟨v,C,h,q⟩:=j.own.lookup K r (u B) (plainElem_bool s false) f;rw[Ib _ _ o.ok]at q
  have l:v= .bool (keys.any λy=>y.sameKey kl):=by
   unfold plainElem at q<;>grind
  subst l;simp[execOp,p.eval z,p.eval A,h]⟩
theorem SW.FK{k:TypeId}{m x:Operand}{f:Value}(o:oA w P k e b keys)(K:Keyed P k)(p:P.underlying t=some (.map k e))(q:P.underlying e=some .bool)(c:keys.length<maxLen)
 (r:cg L m=some (.map (some b))) (s:cg L x=some f) (u:cg L y=some (.bool true)) (g:Go.keyOf P k f=some kl) (A:WideAt.IsKeyLit kl)
 (h:∀d,oA d P k e b (keys++[kl])->w.grownBy d (some b)->SW P n ops (.fg Q) rest L d):SW P n ops (.fg Q) (⟨none,.mapUpdate t m x y,T,pos,af,none⟩::rest) L w:=
 ⟨λa j=>by
  obtain⟨d,i,B,v⟩:=o.own.update K p c g (plainElem_bool q true);simp only[swp,wpList,Region.wanted,if_true];refine .inl ?_;unfold Oper.wp
  have:(execOp a.eval ⟨none,.mapUpdate t m x y,T,pos,af,none⟩).run P w= .ok .skip d:=by
   simp[execOp,j.eval r,j.eval s,j.eval u,i]
  rw[this,Oper.upon_skip];refine(h d ⟨?_,λz l=>?_⟩ v).out _ j
  ·rw[setOf_snoc];grind
  rcases Px.1 l with l|l
  ·exact o.ok z l
  grind⟩
end
theorem SW.iT{n:Nat}{rest:List Oper}{L:Env}{pos:String}[E:gG enc sz]{c:Nat}{l:List α}[G:fA P t sz]{x:Operand}(k:Nat)(b:α)
 (d:Own w lo e sz enc A m c l) (F:cg L x=some (.pointer (some ((A.getD default).add (k*sz))))) (K:cg L y=some (.agg (enc b).toArray)) (H:k<m)
 (h:∀j,Own j lo e sz enc A m c (l.set k b)->w.grownBy j (aN A c)->SW P n ops (.fg Q) rest L j):SW P n ops (.fg Q) (⟨none,.store t x y,T,pos,af,none⟩::rest) L w:=
 ⟨λa o=>by
  have I:0<c:=by have:=d.le;omega
  obtain⟨g,r,rfl,p,J,M,q,s,u⟩:=d.opened I;have v:k<l.length:=by rw[d.len];exact H
  have z:(k+1)*sz<=m*sz:=PC _ H;rw[Qa,Nat.one_mul]at z;have B:(l.flatMap enc).length=m*sz:=by rw[bc,d.len]
  have N:(((some (⟨g,0,none⟩:Addr)).getD default).add (k*sz))=⟨g,k*sz,none⟩:=iI g _;rw[N]at F;have U:l=l.take k++[l[k]]++l.drop (k+1):=by simp
  have O:((l.take k).flatMap enc).length=k*sz:=by grind[bc,List.length_take,Nat.min_eq_left]
  have R:l.flatMap enc++r=(l.take k).flatMap enc++enc l[k]++((l.drop (k+1)).flatMap enc++r):=by
   grind
  have f:=run_storeCells_at P g (k*sz) e (enc b) 0 (l.flatMap enc++r).toArray w J (by simp only[List.size_toArray,List.length_append,B,E.len];omega) (E.one b)
  have S:((l.flatMap enc++r).toArray.toList.take (k*sz+0)++enc b++(l.flatMap enc++r).toArray.toList.drop (k*sz+0+(enc b).length))=(l.set k b).flatMap enc++r:=by
   have:=nB ((l.take k).flatMap enc) (enc l[k]) ((l.drop (k+1)).flatMap enc++r) (enc b) (by rw[E.len,E.len]) O.symm;rw[<-R]at this;unfold lay at this;simp only[Nat.add_zero];rw[this,QC,if_pos v];grind
  rw[S]at f;simp only[swp,wpList,Region.wanted,if_true];refine .inl ?_;unfold Oper.wp
  have i:(execOp a.eval ⟨none,.store t x y,T,pos,af,none⟩).run P w= .ok .skip (w.setRow g ((l.set k b).flatMap enc++r).toArray):=by
   simp[execOp,o.eval F,o.eval K,Instr.storeAt,Instr.sureAddr,storeVar,Value.cells,run_sizeOf G.size,E.len,f]
  rw[i,Oper.upon_skip];obtain⟨C,D⟩:=ij (cs:=(l.set k b).flatMap enc++r) J;refine(h _ (Own.closed (by rw[PS];exact d.len) C M q I s p) ?_).out _ o;rw[u];exact D⟩
variable {Pe:List Value}
theorem uD:∀(vs X a b:List Value),vs.length=a.length->setAt (X++a++b) X.length vs=X++vs++b
 | [],X,a,b,h=>by
   have:a=[]:=List.length_eq_zero_iff.1 (by grind);subst this;rfl
 | v::r,X,[],b,h=>by grind
 | v::r,X,y::a,b,h=>by
   have e:=uD r (X++[v]) a b (by grind);simp only[List.length_append,List.length_singleton]at e;simp only[setAt];grind
theorem Kc{u v:Value}{a:List Value}(c:u.cells.toList=cs)(d:v.cells.toList=a)(e:cs.length=sz)(f:a.length=sz)(g:Pe.length=2*sz):
 Instr.fill (λi=>some (i*sz,sz)) Pe.toArray [(0,u),(1,v)]=some (cs++a).toArray:=by
 have h:u.cells.size=sz:=by grind
 have j:v.cells.size=sz:=by grind
 have k:Pe=[]++Pe.take sz++Pe.drop sz:=by simp
 have l:setAt Pe 0 cs=cs++Pe.drop sz:=by
  grind[uD]
 have m:setAt (cs++Pe.drop sz) sz a=cs++a:=by
  have:=uD a cs (Pe.drop sz) [] (by grind)
  grind
 have b:∀(x:Value)(off:Nat)(X:List Value),Array.foldl (λ(cs:Array Value)(p:Value×Nat)=>cs.setIfInBounds (off+p.2) p.1) X.toArray x.cells.zipIdx=(setAt X off x.cells.toList).toArray:=λx off X=>by
  have:=r6 x.cells.toList 0 off X;rw[Q8]at this;rw[<-this,<-Array.foldl_toList];grind
 simp only[Instr.fill];grind
theorem SW.qA{n:Nat}{rest:List Oper}{L:Env}{pos:String}{z:Value}
 [S:bL P t e sz] [E:dt P e z sz bytes] [C:gG enc sz] {x:Operand} {u v:Value} (a b:α) (k:cg L x=some u) (l:cg L y=some v) (m:u.cells.toList=enc a) (o:v.cells.toList=enc b) (r:Nat.ble sz 1000=true)
 (s:Nat.blt d n=true) (h:∀g f,Ext w f->w.heap.size<=g->Own f w.heap.size e sz enc (some ⟨g,0,none⟩) 2 2 [a,b]->SW P n ops (.fg Q) rest ((d,.slice (some ⟨g,0,none⟩) 2 2)::L) f):
 SW P n ops (.fg Q) (⟨some d,.buildSlice t 2 #[(0,x),(1,y)],T,pos,af,none⟩::rest) L w:=
 ⟨λq j=>by
  obtain⟨i,A,B,c,D⟩:=eB P e (z:=z) (sz:=sz) (bytes:=bytes);have F:sz<=1000:=by simpa using r
  have I:0<sz:=E.pos;simp only[swp];refine wpList_buildSlice Z t e 2 _ Z (enc a++enc b).toArray i z S.mg A B (by rw[c];omega) (by rw[c];omega) ?_ ?_
  ·have G:(Array.map (λ(p:Nat×Operand)=>(p.1,q.eval p.2)) #[(0,x),(1,y)]).toList=[(0,u),(1,v)]:=by
    simp[j.eval k,j.eval l]
   have H:∀X:Array Value,X=X.toList.toArray:=λX=>Z;rw[G,H (Array.map _ (Array.range _)),c];exact Kc m o (C.len a) (C.len b) fy
  refine(h w.heap.size _ (Ext.alloc w _) (Ph _) ⟨Z,.inr ⟨by omega,w.heap.size,_,Z,Ph _,ay.new w e (enc a++enc b),Ph _,by simp only[maxLen];omega,by simp[C.len];omega,?_⟩⟩).out _ (j.put s _);simp only[List.flatMap_cons,List.flatMap_nil,List.append_nil];exact Pl (by simp[C.len];omega)⟩
open Go.ChangeShapes Go.WideShapes Go.ChangeAt Go.RowKit Go.Deep Go.Joins
variable {H:Type} {Oz:FuncId} {ds gs:List (DataW H)} {before:List MemPlace} {tb:TypeId} {W W':World}
theorem own:ownKnob prog.godebug=none:=by kernel_rfl
theorem laidOut:laidOutB prog=true:=by kernel_rfl
theorem rQ{enc:TypeId×Value->H}(g:laidOutB P=true)(hb:Below W.heap.size W W'):
 ∀(a:List TypeId)(vs:List Value)(c:List (DataW H))(e:List MemPlace),(∀t∈a,P.readableRec t=true∧t<P.types.size)->
  DataW.TrodAll enc P W 0 (λ_=>true) true a vs c e->(∀x∈e,x.block<W.heap.size)->DataW.TrodAll enc P W' 0 (λb=>decide (b<W.heap.size)) true a vs c e
 | [],[],[],_,_,h,_=>h
 | t::a,v::vs,d::c,e,NW,h,JG=>by
   obtain⟨p,q,i,j,rfl⟩:=h
   exact⟨p,q,Below.trod g (NW t fy).1 (NW t fy).2 i hb (λx f=>JG x (by simp[f])),
    rQ g hb a vs c q (λu k=>NW u (by simp[k])) j (λx f=>JG x (by simp[f])),Z⟩
 | [],_::_,_,_,_,h,_=>by simp[DataW.TrodAll]at h
 | [],[],_::_,_,_,h,_=>by simp[DataW.TrodAll]at h
 | _::_,[],_,_,_,h,_=>by simp[DataW.TrodAll]at h
 | _::_,_::_,[],_,_,h,_=>by simp[DataW.TrodAll]at h
theorem Ii{enc:TypeId×Value->H}{f:Func}{s:ChangeSpec}{a:Array Value}
 (n:laidOutB P=true) (d:∀t∈f.params.toList,P.readableRec t=true∧t<P.types.size) (o:f.resultTypes= #[tb]) (hb:P.underlying tb=some .bool) (j:s.vars=[])
 (g:(s.fn H (ds++[])).results=[.lit (.bool true)]∧(s.fn H (ds++[])).args=ds∧(s.fn H (ds++[])).vars=[])
 (k:DataW.Whole enc P f.params.toList s.vars false W a.toList ds gs before) (h:aS P Oz a.toList W λv _=>v= .bool true):
 Calls P Oz a W λe l=>∃v,e= .returned v∧s.post enc P f false true false false W a v l:=by
 have b:=k;obtain⟨p,q,r,m,rfl,_,_⟩:=k;rw[j]at m;obtain⟨rfl,rfl⟩:=trodVars_none m;simp only[List.append_nil]at b;have i:∀x∈p,x.block<W.heap.size:=λx c=>by simpa using b.lt x c
 refine Calls.mono h.out ?_;rintro e l ⟨v,rfl,c,rfl⟩;obtain⟨u,w,y⟩:=g;refine⟨_,Z,ds,[],p,[],p,[],b,?_,?_,?_,Below.frame c _,λh=>by cases h⟩
 ·rw[u,o];exact trodAll_mk1 (shut_bool hb true)
 ·rw[w];exact rQ n c _ _ _ _ d r i
 rw[y,j]
 rfl
section
variable {P:Program}{L:Env}{w:World}{d:Option Nat}{T:TypeId}{pos:String}{af:Array Edge}{g:Option (Nat×Bool)}
theorem Hd{x:Operand}{i j:Int}(a b:Nat)(l:cg L x=some (Iv i))(m:cg L y=some (Iv j))(o:i=(a:Int))(hb:j=(b:Int))(p:a<9223372036854775808)(q:b<9223372036854775808):
 St P ⟨d,.binOp .and t x y ty,T,pos,af,g⟩ L w (Iv ((a &&& b:Nat):Int)):=
 ⟨λn A k c _=>by
  have r:=k.eval l;have s:=k.eval m;subst o hb;generalize A.eval=ρ at*;have u:a &&& b<2 ^ 63:=Nat.and_lt_two_pow _ Y
  have e:(BitVec.ofInt 64 (a:Int) &&& BitVec.ofInt 64 (b:Int)).toNat=a &&& b:=by
   rw[BitVec.toNat_and,BitVec.ofInt_natCast,BitVec.ofInt_natCast,BitVec.toNat_ofNat,BitVec.toNat_ofNat,Nat.mod_eq_of_lt Y,Nat.mod_eq_of_lt Y]
  have f:(Op.intBits .and .i64 (a:Int) (b:Int)).run P c= .ok (Iv ((a &&& b:Nat):Int)) c:=by
   have:Op.intBits .and .i64 (a:Int) (b:Int)=(pure (Iv (IntKind.i64.wrap ((BitVec.ofInt 64 (a:Int) &&& BitVec.ofInt 64 (b:Int)).toNat:Nat))):Sem Value):=Z;rw[this,e,jF Y Y]
   rfl
  have h:(binOp .and t (Iv (a:Int)) (Iv (b:Int))).run P c= .ok (Iv ((a &&& b:Nat):Int)) c:=by
   have:binOp .and t (Iv (a:Int)) (Iv (b:Int))=Op.intBits .and .i64 (a:Int) (b:Int):=by simp[binOp]
   rw[this,f]
  simp[execOp,r,s,eqGuard,h]⟩
end
set_option maxRecDepth 100000
open Go.ChangeShapes Go.WideShapes Go.ChangeAt Go.RowKit Go.Deep Go.Joins
variable {en:α -> List Value} {Good:α -> Prop}
def Ee(z:Int):Prop:= -9223372036854775808<=z∧z<=9223372036854775807
section
variable {H:Type}{enc:TypeId×Value->H}{W:World}{base:Nat}{spare:Nat->Bool}{held:Bool}{fuel:Nat}{cs:List Value}{x:DataW H×List MemPlace}
theorem in64_of_wf{z:Int}(h:(Lit.int .i64 z).wf=true):Ee z:=by
 have a:IntKind.i64.min= -9223372036854775808:=Z;have b:IntKind.i64.max=9223372036854775807:=Z
 simp_all[Lit.wf,Bool.and_eq_true,decide_eq_true_eq,Ee]
theorem mY(a:prog.underlying t=some (.int .i64))(h:DataW.trod enc prog W base spare held fuel t cs=some x):∃z:Int,cs=aT z∧Ee z:=by
 obtain⟨z,rfl,_,b⟩:=DataW.trod_int a h;exact⟨z,Z,in64_of_wf b⟩
theorem G7{t e:Nat}[S:bL prog t e sz](I:prog.cellsOf e=sz)
 (s:∀fuel cs x,DataW.trod enc prog W base spare held fuel e cs=some x->∃a:α,cs=en a∧Good a) (h:DataW.trod enc prog W base spare held fuel t cs=some x):
 ∃A n c l,cs=[.slice A n c]∧Sl W sz en A n l∧n<=c∧c<=maxLen∧(∀a∈l,Good a)∧((x.1= .nil∧n=0)∨∃C J,x.1= .slice C J∧C.length=n):=by
 rcases open_slice S.mg h with⟨p,K⟩|⟨a,b,cap,m,k,D,T,p,hb,E,F,v,G,L⟩
 ·exact⟨none,0,0,[],p,Sl.cq _ _ _ _,by simp,by simp,by simp,.inl ⟨by rw[K],Z⟩⟩
 have M:b<=m:=by rw[v];split<;>omega
 have g:∀i,i<b->∃q:α,Good q∧∀j u,(en q)[j]?=some u->W.cell? ((a.add (i*sz)).add j)=some u:=λi N=>by
  obtain⟨cs',w,O⟩:=L i Y;obtain⟨q,rfl,P⟩:=s _ _ _ O;obtain⟨_,y,o⟩:=World.cells?_some w;rw[I]at y o;refine⟨q,P,λj u r=>?_⟩
  have U:j<(en q).length:=by
   rcases PJ j (en q).length with h|h
   ·exact h
   simp[List.getElem?_eq_none h]at r
  rw[o j Y];exact r
 by_cases Q:b=0
 ·subst Q;exact⟨some a,0,cap,[],p,Sl.cq _ _ _ _,E,F,by simp,.inr ⟨_,_,by rw[G],by simp⟩⟩
 have z:∃f:Nat->α,∀i,i<b->Good (f i)∧∀j u,(en (f i))[j]?=some u->W.cell? ((a.add (i*sz)).add j)=some u:=by
  have B:Nonempty α:=⟨(g 0 Y).choose⟩;exact⟨λi=>if h:i<b then(g i h).choose else Classical.choice B,λi h=>by simp only[h,dif_pos];exact(g i h).choose_spec⟩
 obtain⟨f,H⟩:=z;refine⟨some a,b,cap,(List.range b).map f,p,⟨by simp,λ_=>Z,λi d j u r=>?_⟩,E,F,?_,.inr ⟨_,_,by rw[G],by simp⟩⟩
 ·simp at d;exact(H i d).2 j u (by simpa using r)
 intro q R;obtain⟨i,d,rfl⟩:=Pw.1 R;exact(H i (by simpa using d)).1
theorem BD(h:DataW.trod enc prog W base spare held fuel 108 cs=some x):∃r:Region,cs=eV r∧(Ee r.aE∧Ee r.ax):=by
 obtain⟨xs,n,_,_,c,d,e⟩:=DataW.trod_struct Tryz.underlying108 h;have j:prog.cellsOf 108=2:=by kernel_rfl
 have k:prog.cellsOf 3=1:=by kernel_rfl
 rw[j]at c
 match cs,c with
 | [c0,c1],_=>
   match xs,d with
   | [y0,y1],_=>
     have f:DataW.trod enc prog W base spare held n 3 (List.take (prog.cellsOf 3) (List.drop 0 [c0,c1]))=some y0:=e 0 _ Z;have g:DataW.trod enc prog W base spare held n 3 (List.take (prog.cellsOf 3) (List.drop 1 [c0,c1]))=some y1:=e 1 _ Z;rw[k]at f g;obtain⟨a,i,l⟩:=mY Tryz.underlying3 f;obtain⟨b,hb,m⟩:=mY Tryz.underlying3 g;simp[aT]at i hb;subst i hb;exact⟨⟨a,b⟩,Z,l,m⟩
end
section
variable {H:Type}{P:Program}
theorem MV{a:List TypeId}{b:List (DataW H)}(h:(DataW.weightsEach P a b).all (·<=reachBytes)=true){j:Nat}{t:TypeId}{d:DataW H}(c:a[j]?=some t)(e:b[j]?=some d):∀y∈d.weights P t,y<=reachBytes:=λy f=>by
 simpa using List.all_eq_true.1 h _ (DataW.weights_mem_each c e y f)
theorem Ka{b:Array Field}{a:List (DataW H)}(e:P.underlying t=some (.struct b)){c:TypeId}{d:DataW H}(f:(b.toList.map (·.type))[j]?=some c)(g:a[j]?=some d)(h:∀y∈(DataW.agg a).weights P t,y<=reachBytes):∀y∈d.weights P c,y<=reachBytes:=λy i=>by
 apply h
 grind[DataW.weights,DataW.weights_mem_each]
end
theorem SW.ib{n:Nat}{rest:List Oper}{L:Env}{pos:String}[G:fA P t k]{vs:List Value}{x:Operand}(o:Nat)
 (l:ay w b tb cs) (m:cg L x=some (.pointer (some ((⟨b,0,none⟩:Addr).add o)))) (q:cg L y=some (.agg vs.toArray)) (p:vs.length=k) (s:o+k<=cs.length) (r:∀v∈vs,v.oneCell'=true) (cs':List Value) (e:cs.take o++vs++cs.drop (o+k)=cs')
 (h:∀f,ay f b tb cs'->w.grownBy f (some b)->SW P n ops (.fg Q) rest L f):SW P n ops (.fg Q) (⟨none,.store t x y,T,pos,af,none⟩::rest) L w:=
 ⟨λa g=>by
  rw[iI]at m;have c:=run_storeCells_at P b o tb vs 0 cs.toArray w l (by grind) r;simp only[Nat.add_zero,p,e]at c;simp only[swp,wpList,Region.wanted,if_true];refine .inl ?_;unfold Oper.wp
  have d:(execOp a.eval ⟨none,.store t x y,T,pos,af,none⟩).run P w= .ok .skip (w.setRow b cs'.toArray):=by
   simp[execOp,g.eval m,g.eval q,Instr.storeAt,Instr.sureAddr,storeVar,Value.cells,run_sizeOf G.size,p,c]
  rw[d,Oper.upon_skip];obtain⟨i,j⟩:=ij (cs:=cs') l;exact(h _ i j).out _ g⟩
def jm(a s m:Nat)(l:List Int):Nat->List Int
 | 0=>l
 | k+1=>(jm a s m l k).set (a+k*s) (if k+1<m then(a:Int)+((k:Int)+1)*s else-1)
def sA(a s:Nat)(l:List Int):Nat->List Int
 | 0=>l
 | k+1=>(sA a s l k).set (a+s*k) ((a:Int)+((k:Int)+1)*s)
theorem BV(a s m:Nat)(l:List Int):∀k,k<m->jm a s m l k=sA a s l k
 | 0,_=>rfl
 | k+1,h=>by simp only[jm,sA];rw[BV a s m l k Y,if_pos h,Nat.mul_comm k s]
theorem EE(a s m:Nat)(l:List Int):jm a s (m+1) l (m+1)=(sA a s l (m+1)).set (a+m*s) (-1):=by
 simp only[jm,sA]
 simp_all[BV,Nat.mul_comm,List.set_set]
def lu(lo n:Nat)(l:List Int)(x s m:Int)(v:Value)(w:World):Prop:=
 if 1<=s∧s<=64∧1<=m∧m<=n∧0<=x∧x+s*m<=n then∃A c,v= .tuple #[.slice A n c,Iv 0]∧Own w lo 3 1 aT A n c (jm x.toNat s.toNat m.toNat l m.toNat)
 else v= .tuple #[.slice none 0 0,Iv 1]
theorem xY{s n:Nat}(a:s<=64)(b:m<=n):0<=(s:Int)*m∧(s:Int)*m<=64*n:=by
 have h:s*m<=64*n:=Nat.mul_le_mul a b;grind
theorem pr{s:Nat}(a:k<m):0<=(k:Int)*s∧((k:Int)+1)*s=(k:Int)*s+s∧(k:Int)*s+s<=(s:Int)*m∧(s:Int)*k=(k:Int)*s:=by
 have h:(k+1)*s<=m*s:=PC _ a;grind
theorem BW(A:Option Addr)(n c:Nat)(l:List Int)(x s m:Int)(w:World)(u:Sl w 1 aT A n l)(y:n*8<=140737488355328):
 aS prog 247 [.slice A n c,Iv x,Iv s,Iv m] w (lu w.heap.size n l x s m):=by
 refine Wj func247 ntmps247 ?_;have b:=Ext.refl w;have g:n<=2305843009213693952:=Y;by_cases F:1<=s∧s<=64
 ·by_cases G:1<=m∧m<=n
  ·obtain⟨s,rfl⟩:=Pm (a:=s) Y;obtain⟨m,rfl⟩:=Pm (a:=m) Y;have hb:=xY (s:=s) (m:=m) (n:=n) Y Y;by_cases z:0<=x∧x+(s:Int)*m<=n
   ·obtain⟨a,rfl⟩:=Pm z.1;repeat'(first|refine Wz ?_|(refine Wc (oT _ _ _ _ _ _ g) λt d=>?_;have b:=b.trans d))
    refine Wk (eD _ _ _ _ _ (u.ext b) y) λv t d B=>?_;obtain⟨j,o,rfl,f⟩:=B;have p:=b.size;have b:=b.trans d;have f:=Own.low f p;have C:=f.sl.base;refine Wz ?_
    refine CW.loop (λk:Nat=>[(0,.slice A n c),(1,Iv (a:Int)),(2,Iv (s:Int)),(3,Iv (m:Int)),(10,.slice j n o),(40,Iv (m:Int)),(41,Iv (k:Int))])
     (λk q=>k<=m∧Ext w q∧Own q w.heap.size 3 1 aT j n o (jm a s m l k)) (λk=>m-k) 0 ⟨Z,Z,Z,Z,Z,Z,Z,trivial⟩ ⟨by omega,b,f⟩ ?_
    rintro k q ⟨H,b,f⟩;by_cases r:k<m
    ·have I:=pr (s:=s) r;have D:a+k*s<n:=Y;by_cases e:k+1<m
     all_goals
      refine Wz ?_;refine SW.j3 (a+k*s) f Z Z D λJ i E=>?_;have b:=au b E (Ph _) f.az;refine Wz ?_;refine ah.again (k+1) ⟨Z,Z,Z,Z,Z,Z,Z,trivial⟩ Y ⟨by omega,b,?_⟩;simp only[jm]
     ·rw[if_pos e];exact i
     rw[if_neg e];exact i
    refine Wz ?_;obtain rfl:k=m:=Y;refine ah.cf Z Z Z ⟨_,Z,b,?_⟩;unfold lu;rw[if_pos Y];exact⟨j,o,Z,f⟩
   repeat'(first|refine Wz ?_|(refine Wc (oT _ _ _ _ _ _ g) λt d=>?_;have b:=b.trans d))
   all_goals refine ah.cf Z Z Z ⟨_,Z,b,?_⟩
   all_goals unfold lu
   all_goals rw[if_neg Y]
  repeat'(first|refine Wz ?_|refine SW.dP Z Z Z (λh=>?_) (λh=>?_))
  all_goals refine ah.cf Z Z Z ⟨_,Z,b,?_⟩
  all_goals unfold lu
  all_goals rw[if_neg Y]
 repeat'(first|refine Wz ?_|refine SW.dP Z Z Z (λh=>?_) (λh=>?_))
 all_goals refine ah.cf Z Z Z ⟨_,Z,b,?_⟩
 all_goals unfold lu
 all_goals rw[if_neg Y]
theorem EF(A:Option Addr)(n c:Nat)(l:List Int)(x s m:Int)(w:World)(z:Sl w 1 aT A n l)(B:n*8<=140737488355328):
 aS prog 189 [.slice A n c,Iv x,Iv s,Iv m] w (lu w.heap.size n l x s m):=by
 refine Wj func189 ntmps189 ?_;have d:=Ext.refl w;have h:n<=2305843009213693952:=Y;by_cases H:1<=s∧s<=64
 ·by_cases I:1<=m∧m<=n
  ·obtain⟨s,rfl⟩:=Pm (a:=s) Y;obtain⟨m,rfl⟩:=Pm (a:=m) Y;have hb:=xY (s:=s) (m:=m) (n:=n) Y Y;by_cases C:0<=x∧x+(s:Int)*m<=n
   ·obtain⟨a,rfl⟩:=Pm C.1;obtain⟨m,rfl⟩:∃D,m=D+1:=⟨m-1,by omega⟩;repeat'(first|refine Wz ?_|((first|refine Wk (bE _ _ _ _) ?_|refine Wk (oj _ _ _ _ _ _ h) ?_);intro v j b i;subst i;have d:=d.trans b))
    refine Wk (iM _ _ _ _ _ (z.ext d) B) λv j b i=>?_;obtain⟨o,p,rfl,f⟩:=i;have q:=d.size;have d:=d.trans b;have f:=Own.low f q;have E:=f.sl.base;refine Wz ?_
    refine CW.loop (λk:Nat=>[(0,.slice A n c),(1,Iv (a:Int)),(2,Iv (s:Int)),(3,Iv ((m+1:Nat):Int)),(10,.slice o n p),(11,Iv (k:Int))])
     (λk r=>k<=m+1∧Ext w r∧Own r w.heap.size 3 1 aT o n p (sA a s l k)) (λk=>m+1-k) 0 ⟨Z,Z,Z,Z,Z,Z,trivial⟩ ⟨by omega,d,f⟩ ?_
    rintro k r ⟨J,d,f⟩;by_cases t:k<m+1
    ·have F:=pr (s:=s) t;have u:a+s*k<n:=by have:=Nat.mul_comm k s;omega
     refine Wz ?_;refine SW.j3 (a+s*k) f Z Z u λG g y=>?_;have d:=au d y (Ph _) f.az;refine Wz ?_;refine ah.again (k+1) ⟨Z,Z,Z,Z,Z,Z,trivial⟩ Y ⟨by omega,d,?_⟩;simp only[sA];have e:(a:Int)+((k:Int)+1)*s=(a:Int)+(s:Int)*k+s:=Y;rw[e];exact g
    obtain rfl:k=m+1:=Y;have F:=pr (s:=s) (m:=m+1) (k:=m) Y;have K:(s:Int)*((m+1:Nat):Int)=(m:Int)*s+s:=by rw[QR];push_cast;omega
    have u:a+m*s<n:=Y;repeat'(first|refine Wz ?_|refine SW.st (aU (a+m*s) Z Z ig Y Y) Z ?_)
    refine SW.j3 (a+m*s) f Z Z u λG g y=>?_;have d:=au d y (Ph _) f.az;refine Wz ?_;refine ah.cf Z Z Z ⟨_,Z,d,?_⟩;unfold lu;rw[if_pos Y];refine⟨o,p,Z,?_⟩;simp only[Int.toNat_natCast];rw[EE];exact g
   repeat'(first|refine Wz ?_|((first|refine Wk (bE _ _ _ _) ?_|refine Wk (oj _ _ _ _ _ _ h) ?_);intro v j b i;subst i;have d:=d.trans b))
   all_goals refine ah.cf Z Z Z ⟨_,Z,d,?_⟩
   all_goals unfold lu
   all_goals rw[if_neg Y]
  repeat'(first|refine Wz ?_|(refine Wc (bE _ _ _ _) λj b=>?_;have d:=d.trans b))
  all_goals refine ah.cf Z Z Z ⟨_,Z,d,?_⟩
  all_goals unfold lu
  all_goals rw[if_neg Y]
 repeat'(first|refine Wz ?_|(refine Wc (bE _ _ _ _) λj b=>?_;have d:=d.trans b))
 all_goals refine ah.cf Z Z Z ⟨_,Z,d,?_⟩
 all_goals unfold lu
 all_goals rw[if_neg Y]
variable {ad:Addr}
section
variable {P:Program}{L:Env}{w:World}{d:Option Nat}{T:TypeId}{pos:String}{af:Array Edge}{g:Option (Nat×Bool)}
theorem Eg[c:Bs P t]{x lo h:Operand}{s r:ByteArray}{i j:Int}(k:cg L x=some (.string s))(b:cg L lo=some (Iv i))(e:cg L h=some (Iv j))(l:0<=i)(m:i<=j)(n:j<=s.size)(o:s.extract i.toNat j.toNat=r):
 St P ⟨d,.slice t x (some lo) (some h) none,T,pos,af,g⟩ L w (.string r):=
 ⟨λ_ a f z _=>by
  subst o;have p:=f.eval k;have q:=f.eval b;have u:=f.eval e;have v:i<=(j.toNat:Int):=Y;have y:¬max j 0<i:=Y;generalize a.eval=ρ at*;simp[execOp,p,q,u,Instr.sliceAt,Instr.slice,Instr.sliceBounds,Instr.sliceBound,asIntOf,run_underlying c.mg,l,m,n,v,y,show 0<=j by omega]⟩
theorem Ik{x:Operand}{s r:ByteArray}(e:cg L x=some (.string s))(f:cg L y=some (.string r))(hb:s.size+r.size<=9223372036854775807):St P ⟨d,.binOp .add t x y ty,T,pos,af,g⟩ L w (.string (s++r)):=
 ⟨λ_ a b j _=>by
  have h:=b.eval e;have i:=b.eval f;generalize a.eval=ρ at*
  have c:¬IntKind.i64.max<((s.size+r.size:Nat):Int):=by
   have:IntKind.i64.max=9223372036854775807:=Z;omega
  simp only[Int.natCast_add]at c;simp[go_sem,h,i,Op.stringOp,c];omega⟩
theorem Eh{b:Nat}[c:wq P t b e sz]{x:Operand}(f:cg L x=some (.pointer (some ad))):St P ⟨d,.slice t x none none none,T,pos,af,g⟩ L w (.slice (some ad) b b):=
 ⟨λ_ a h j _=>by
  have i:=h.eval f;generalize a.eval=ρ at*;simp[execOp,i,Instr.sliceAt,Instr.sureAddr,Instr.sliceBounds,run_underlying c.mg,run_sizeOf c.size,add_zero]⟩
end
theorem Kd{a b c d e f:Value}(g:Pe.length=6)(h:a.cells= #[a])(hb:b.cells= #[b])(j:c.cells= #[c])(k:d.cells= #[d])(l:e.cells= #[e])(m:f.cells= #[f]):
 Instr.fill (λi=>some (i*1,1)) Pe.toArray [(0,a),(1,b),(2,c),(3,d),(4,e),(5,f)]=some #[a,b,c,d,e,f]:=by
 match Pe,g with
 | [z0,z1,z2,z3,z4,z5],_=>simp_all[Instr.fill]
theorem SW.Ke{n:Nat}{rest:List Oper}{L:Env}{pos:String}{z:Value}
 [S:bL P t e 1] [E:dt P e z 1 bytes] [C:gG enc 1] {r s u v x y:Operand} {a b c f j k:Value} (l:List α)
 (D:cg L r=some a) (F:cg L s=some b) (G:cg L u=some c) (H:cg L v=some f) (I:cg L x=some j) (J:cg L y=some k)
 (W:(a.cells= #[a]∧b.cells= #[b]∧c.cells= #[c]∧f.cells= #[f]∧j.cells= #[j]∧k.cells= #[k])) (K:l.flatMap enc=[a,b,c,f,j,k]) (A:l.length=6)
 (M:Nat.blt d n=true) (h:∀g B,Ext w B->w.heap.size<=g->Own B w.heap.size e 1 enc (some ⟨g,0,none⟩) 6 6 l->SW P n ops (.fg Q) rest ((d,.slice (some ⟨g,0,none⟩) 6 6)::L) B):
 SW P n ops (.fg Q) (⟨some d,.buildSlice t 6 #[(0,r),(1,s),(2,u),(3,v),(4,x),(5,y)],T,pos,af,none⟩::rest) L w:=
 ⟨λq m=>by
  obtain⟨i,N,O,o,R⟩:=eB P e (z:=z) (sz:=1) (bytes:=bytes);simp only[swp];refine wpList_buildSlice Z t e 6 _ Z #[a,b,c,f,j,k] i z S.mg N O (by rw[o];omega) (by rw[o];omega) ?_ ?_
  ·have U:(Array.map (λ(p:Nat×Operand)=>(p.1,q.eval p.2)) #[(0,r),(1,s),(2,u),(3,v),(4,x),(5,y)]).toList=[(0,a),(1,b),(2,c),(3,f),(4,j),(5,k)]:=by
    simp[m.eval D,m.eval F,m.eval G,m.eval H,m.eval I,m.eval J]
   have V:∀X:Array Value,X=X.toList.toArray:=λX=>Z;rw[U,V (Array.map _ (Array.range _)),o];grind[Array.map,Array.range,Kd]
  refine(h w.heap.size _ (Ext.alloc w _) (Ph _) ⟨A,.inr ⟨by omega,w.heap.size,_,Z,Ph _,ay.new w e [a,b,c,f,j,k],Ph _,by simp[maxLen],by simp,?_⟩⟩).out _ (m.put M _);rw[K]
  rfl⟩
def oM(l:List Int)(t f k:Nat):List Int:=l.take t++(l.drop f).take k++l.drop (t+k)
theorem uR{l:List Int}{t f:Nat}(a:t+k<=l.length)(b:f+k<=l.length):(oM l t f k).length=l.length:=by grind[oM]
theorem I2{l:List Int}{t f:Nat}(d:t+k<=l.length)(e:f+k<=l.length)(j:Nat):(oM l t f k)[j]?=if j<t then l[j]? else if j<t+k then l[f+(j-t)]? else l[j]?:=by
 have a:(l.take t).length=t:=by grind
 have b:((l.drop f).take k).length=k:=by grind
 unfold oM;by_cases c:j<t
 ·grind
 rw[if_neg c];by_cases hb:j<t+k
 ·grind
 rw[if_neg hb,Qp (by rw[PI];omega),PI,a,b,List.getElem?_drop];grind
def we(lo:Nat)(n:Nat)(l:List Int)(x y z:Int)(v:Value)(w:World):Prop:=
 if 0<=x∧0<=y∧0<=z∧x+z<=n∧y+z<=n then∃A c,v= .tuple #[.slice A n c,Iv 0]∧Own w lo 3 1 aT A n c (oM l x.toNat y.toNat z.toNat)else v= .tuple #[.slice none 0 0,Iv 1]
theorem KW(A:Option Addr)(n c:Nat)(l:List Int)(x y z:Int)(w:World)(E:Sl w 1 aT A n l)(X:n*8<=140737488355328)(hc:n<=c):
 aS prog 87 [.slice A n c,Iv x,Iv y,Iv z] w (we w.heap.size n l x y z):=by
 refine Wj func87 ntmps87 ?_;have d:=Ext.refl w;have s:n<=2305843009213693952:=Y;by_cases H:0<=x∧0<=y∧0<=z∧x+z<=n∧y+z<=n
 ·obtain⟨h1,h2,h3,h4,h5⟩:=id H;obtain⟨t,rfl⟩:=Pm h1;obtain⟨f,rfl⟩:=Pm h2;obtain⟨k,rfl⟩:=Pm h3;have B:=E.len;repeat'(first|refine Wz ?_|(refine Wc (oT _ _ _ _ _ _ s) λF b=>?_;have d:=d.trans b))
  all_goals try omega
  refine Wk (eD _ _ _ _ _ (E.ext d) X) λv F b C=>?_;obtain⟨I,G,rfl,e⟩:=C;have e:=e.low d.size;have d:=d.trans b;refine Wz ?_;have za:=e.le;have zb:=e.sl.base;have hA:=E.base;obtain⟨K,J⟩:∃K:Env->World->Prop,K=λU L=>eA U [(10,.slice I n G)]∧Ext w L∧Own L w.heap.size 3 1 aT I n G (oM l t f k):=⟨_,Z⟩;refine CW.LG K ?_ ?_
  ·by_cases M:G=0
   ·have N:n=0:=Y;subst M N;obtain rfl:t=0:=Y;obtain rfl:f=0:=Y;obtain rfl:k=0:=Y;have O:l=[]:=PB B;subst O;refine CW.any 12 mixed (cy bm) Z λF b m=>?_;obtain⟨d,e⟩:=bk b d e;refine Wa ?_;refine Wu 5 m Z (mO (i:=0) (j:=0) Z Z Z Y Y) ?_;refine Wa ?_;refine Wu 11 m Z (mO (i:=0) (j:=0) Z Z Z Y Y) ?_;refine SA.fH ?_;refine SW.Nq Z Z Z Y ?_;refine Wz ?_;exact ah.fW (K:=K) (by rw[J];exact⟨⟨Z,trivial⟩,d,by simpa[oM]using e⟩)
   obtain⟨g,rest,rfl,P,p,Q,R,S,T⟩:=e.opened Y;have V:=(E.drop f c Y Y).pre (i:=k) Y
   have e1:l.flatMap aT=(l.take t).flatMap aT++((l.drop t).take k).flatMap aT++(l.drop (t+k)).flatMap aT:=by
    rw[<-PP,<-PP];congr 1
    rw[Po,<-List.drop_drop,Pz,Pz]
   have r:∀q:List Int,(q.flatMap aT).length=q.length:=λq=>by rw[bc (sz:=1)];omega
   refine CW.any 12 mixed (cy bm) Z λF b m=>?_;obtain⟨d,e,p⟩:=aY b d e p;refine Wa ?_;refine Wu 5 m Z (mO (i:=t) (j:=t+k) Z Z Z Y Y) ?_;refine Wa ?_;refine Wu 11 m Z (mO (i:=f) (j:=f+k) Z Z Z Y Y) ?_;refine SA.fH ?_;refine SW.copy (k:=k) t (((l.drop f).take k).flatMap aT) p Z Z Z Y (by rw[r];simp;omega) (by rw[PI,r,r];simp;omega) (λN=>⟨?_,(if c=f then A else A.map (·.add (f*1))).getD default,?_,λj v C=>?_⟩) (λv C=>?_) λw6 o W=>?_
   ·rw[if_neg Y];simp[iI]
   ·have:=V.base N;obtain⟨a,ha⟩:=PM.1 this;rw[ha];rfl
   ·exact jz Y (V.ext d) j v C
   ·obtain⟨u,_,hu⟩:=Py.1 C;exact gG.one (enc:=aT) u v hu
   rw[<-T]at W;have d:=au d W (Ph _) e.az;rw[e1,Po,nB _ _ _ _ (by rw[r,r];simp;omega) (by rw[r];simp;omega),<-Po,<-PP,<-PP]at o;have e:=Own.closed (l:=oM l t f k) (by rw[uR Y Y];exact B) o Q R Y S P;refine Wz ?_;exact ah.fW (K:=K) (by rw[J];exact⟨⟨Z,trivial⟩,d,e⟩)
  subst J;rintro U L ⟨D,d,e⟩;refine ah.sub D ?_;refine Wz ?_;refine ah.cf Z Z Z ⟨_,Z,d,?_⟩;unfold we;rw[if_pos H];exact⟨I,G,Z,e⟩
 repeat'(first|refine Wz ?_|refine SW.nR Z Z Z (λh=>?_) (λh=>?_)|(refine Wc (oT _ _ _ _ _ _ s) λF b=>?_;have d:=d.trans b))
 all_goals try omega
 all_goals
  refine ah.cf Z Z Z ⟨_,Z,d,?_⟩;unfold we;rw[if_neg H]
section
variable {P:Program}{n:Nat}{ops:Array Oper}{Q:Exit->Act->World->Prop}{rest:List Oper}{L:Env}{w:World}
theorem LV{o:Oper}{a:Act}{K:Env->World->Prop}{N:Act->World->Prop}(h:o.wp P a w N (Fu n K Q)):o.wp P a w N Q:=by
 unfold Oper.wp at*;generalize (execOp a.eval o).run P w=r at*;cases r with
 | ok x b=>
   cases x<;>simp only[Oper.upon]at h⊢
   case value=>exact h
   case skip=>exact h
   case defer=>exact h
   case row=>exact h
   case enter=>
    refine Calls.mono h λe c d=>?_;cases e<;>exact d
 | halt x b=>
   cases x<;>simp only[Oper.upon]at h⊢
   all_goals exact h
theorem qF{K:Env->World->Prop}(k:∀b d,K b d->ah n Q .normal b d):∀(rest:List Oper)(a:Act)(w:World),wpList P ops (Fu n K Q) rest a w->wpList P ops Q rest a w
 | [],a,w,h=>by obtain⟨b,e,f⟩:=h;exact(k b w f).out a e
 | o::rest,a,w,h=>by
   simp only[wpList]at h⊢;split
   ·rename_i c;rw[if_pos c]at h;rcases h with h|⟨g,i⟩
    ·exact .inl (Oper.wp_mono (λa w=>qF k rest a w) (LV h))
    exact .inr ⟨g,i⟩
   rename_i c;rw[if_neg c]at h;exact qF k rest _ _ h
theorem SW.LG(K:Env->World->Prop)(h:SW P n ops (.fg (Fu n K Q)) rest L w)(k:∀b c,K b c->ah n Q .normal b c):SW P n ops (.fg Q) rest L w:=
 ⟨λa d=>qF k rest a w (h.out a d)⟩
end
end Go.Proofs.YtdlfabkacdgneaaGreatDoor
