/-
  Texts of the claim TopRoom, part 5: what its theorem leans on.
-/
import Derived.Test.YtbidkghlpijecaaGreatDoorPackTopRoom4
import Derived.Lib.AppendZerosOnto
import Derived.Lib.Overlaps
import Derived.Room.Entries
import Derived.Test.YtbidkghlpijecaaGreatDoorPackTopRoom3
import Derived.Test.YtbidkghlpijecaaGreatDoorPackTopRoom2
set_option linter.unusedVariables false
set_option linter.unusedSimpArgs false
namespace Go.Proofs.YtbidkghlpijecaaGreatDoor
open Go.RowKit
def lay (fW:List Value) (o:Nat) (cs:List Value) : List Value:=fW.take o++cs++fW.drop (o+cs.length)
theorem AL (fW:List Value) (o:Nat) : lay fW o []=fW:=by simp [lay]
theorem eE (X Y Z cs:List Value) (h:cs.length=Y.length) {o:Nat} (ho:o=X.length) : lay (X++Y++Z) o cs=X++cs++Z:=by
 subst ho;unfold lay;rw [List.append_assoc X Y Z,List.take_left,h];congr 1
 rw [← List.append_assoc,List.drop_append];have e:List.drop (X.length+Y.length) (X++Y)=[]:=List.drop_eq_nil_of_le (by simp)
 rw [e];simp
theorem Own.opened {α:Type} {w:World} {lo:Nat} {e:TypeId} {sz:Nat} {enc : α → List Value} [E:fu enc sz] {A:Option Addr} {n c:Nat} {l:List α} (h:Own w lo e sz enc A n c l) (hc : 0<c) :
 ∃ g rest,A=some ⟨g,0,none⟩∧lo≤g∧aT w g e (l.flatMap enc++rest)∧n*sz+rest.length=c*sz∧n≤c∧c≤maxLen∧aG A c=some g:=by
 rcases h.row with ⟨_,h0⟩|⟨_,g,fW,rfl,h1,h2,h3,h4,h5,h6⟩
 ·omega
 ·refine ⟨g,fW.toList.drop (n*sz),rfl,h1,?_,?_,h3,h4,by simp [aG,Nat.pos_iff_ne_zero.1 hc]⟩
  ·unfold aT;rw [← h6,List.take_append_drop];simpa using h2
  ·have:n*sz≤c*sz:=Nat.mul_le_mul_right _ h3
   simp;omega
theorem Own.closed {α:Type} {w:World} {lo:Nat} {e:TypeId} {sz:Nat} {enc : α → List Value} [E:fu enc sz] {n c g:Nat} {l:List α} {rest:List Value} (hl:l.length=n) (hB:aT w g e (l.flatMap enc++rest)) (hr:n*sz+rest.length=c*sz) (hn:n≤c) (hc : 0<c) (hm:c≤maxLen) (gQ:lo≤g) :
 Own w lo e sz enc (some ⟨g,0,none⟩) n c l:=by
 have nR:(l.flatMap enc).length=n*sz:=by rw [aE,hl]
 refine ⟨hl,.inr ⟨hc,g,_,rfl,gQ,hB,hn,hm,?_,?_⟩⟩
 ·simp [nR];omega
 ·rw [← nR];simp
theorem Own.pre {α:Type} {w:World} {lo:Nat} {e:TypeId} {sz:Nat} {enc : α → List Value} [E:fu enc sz] {A:Option Addr} {n c:Nat} {l:List α} (h:Own w lo e sz enc A n c l) {i:Nat} (hi:i≤n) : Own w lo e sz enc A i c (l.take i):=by
 rcases Nat.eq_zero_or_pos c with hc|hc
 ·have h1:=h.le.1;have:n=0:=by omega
  subst hc this;obtain rfl:i=0:=by omega
  simpa using Own.fj w lo e sz enc A
 ·obtain ⟨g,rest,rfl,h1,h2,h3,h4,h5,_⟩:=h.opened hc;refine Own.closed (rest:=(l.drop i).flatMap enc++rest) (by simp [h.len];omega) ?_ ?_ (by omega) hc h5 h1
  ·rw [← List.append_assoc,← List.flatMap_append,List.take_append_drop];exact h2
  ·have e1:((l.drop i).flatMap enc).length=(n-i)*sz:=by rw [aE];simp [h.len]
   have e2:i+(n-i)=n:=by omega
   rw [List.length_append,e1,← h3,← Nat.add_assoc,← Nat.add_mul,e2]
theorem Sl.drop {α:Type} {w:World} {sz:Nat} {enc : α → List Value} {A:Option Addr} {n:Nat} {l:List α} (h:Sl w sz enc A n l) (i c:Nat) (hi:i≤n) (hc:n≤c) : Sl w sz enc (if c=i then A else A.map (·.add (i*sz))) (n-i) (l.drop i):=by
 refine ⟨by simp [h.len],fun hn => ?_,fun j hj k u hu => ?_⟩
 ·have:=h.base (by omega)
  split
  ·exact this
  ·simpa using this
 ·simp at hj;have hl:=h.len;rw [if_neg (by omega)];have hb:=h.base (by omega);obtain ⟨a,rfl⟩:=Option.isSome_iff_exists.1 hb;have qE:=h.cell (i+j) (by omega) k u (by simpa using hu);simp only [Option.getD_some,Option.map_some,add_add] at qE ⊢;rw [← qE];congr 2
  rw [Nat.add_mul]
theorem Sl.pre {α:Type} {w:World} {sz:Nat} {enc : α → List Value} {A:Option Addr} {n:Nat} {l:List α} (h:Sl w sz enc A n l) {i:Nat} (hi:i≤n) : Sl w sz enc A i (l.take i):=by
 refine ⟨by simp [h.len];omega,fun hn=>h.base (by omega),fun j hj k u hu => ?_⟩;simp at hj;exact h.cell j (by omega) k u (by simpa using hu)
section
variable {P:Program} {w:World}
theorem ed {g:Nat} {e:TypeId} {fW cs:List Value} (h:aT w g e fW) : aT (w.setRow g cs.toArray) g e cs∧w.grownBy (w.setRow g cs.toArray) (some g) :=
 ⟨setRow_heap w g _ _ e (0,0) h,⟨rfl,rfl,rfl,by simp,fun j _ hj=>by
  show (w.setRow g _).heap[j]?=_
  simp only [World.setRow,Array.getElem?_modify];rw [if_neg (fun e=>hj (by simp [e]))]⟩⟩
theorem vO {t e:TypeId} {z:Value} {sz bytes:Nat} [S:aX P t e sz] [T:cj P e z sz bytes] (ty:TypeId) {A X:Option Addr} {n c m c2 k g o:Nat} {fW cs:List Value} (hk:min m n=k) (hlen:cs.length=k*sz) (hB:aT w g e fW) (ib:o+cs.length≤fW.length)
 (l8 : 0<k→A=some ⟨g,o,none⟩ ∧ ∃ ad,X=some ad ∧ ∀ j v,cs[j]?=some v→w.cell? (ad.add j)=some v) (h1:∀ v∈cs,v.oneCell'=true) :
 ∃ w',(Builtin.copy_ #[t,t] ty #[.slice A n c,.slice X m c2]).run P w = .ok (.int .i64 (k:Int)) w'∧aT w' g e (lay fW o cs)∧w.grownBy w' (some g):=by
 obtain ⟨i,hi,hz,hs,rB⟩:=cW P e (z:=z) (sz:=sz) (bytes:=bytes);have JI:Nat.min m n=k:=hk
 by_cases h0:k=0
 ·have nj:cs=[]:=List.eq_nil_of_length_eq_zero (by rw [hlen,h0];simp)
  subst nj;refine ⟨w,?_,by rw [AL];exact hB,World.grownBy.refl _ _⟩;cases A<;>cases X<;>simp [Builtin.copy_,run_underlying S.kz,Builtin.lenOf,Builtin.firstCells,sizeOf,typeInfo,hi,JI,h0,loadCells,loadCellsFrom,storeCells,goInt]
 ·obtain ⟨rfl,ad,rfl,lp⟩:=l8 (by omega);have hl:=run_loadCells_list (P:=P) w ad cs lp;have tX:=run_storeCells_at P g o e cs 0 fW.toArray w hB (by simpa using ib) h1;have e1:(fW.toArray.toList.take (o+0)++cs++fW.toArray.toList.drop (o+0+cs.length))=lay fW o cs:=by simp [lay]
  rw [e1] at tX;rw [hlen] at hl;refine ⟨_,?_,(ed hB).1,(ed hB).2⟩;simp [Builtin.copy_,run_underlying S.kz,Builtin.lenOf,Builtin.firstCells,sizeOf,typeInfo,hi,hs,JI,hl,tX,goInt]
theorem ue {t e:TypeId} {z:Value} {sz bytes:Nat} [S:aX P t e sz] [T:cj P e z sz bytes] (ty:TypeId) {A:Option Addr} {n c g o:Nat} {fW:List Value} (hB:aT w g e fW) (ib:o+n*sz≤fW.length) (l8 : 0<n→A=some ⟨g,o,none⟩) (uE:∀ v∈z.cells.toList,v.oneCell'=true) :
 ∃ w' cs,(Builtin.clear_ #[t] ty #[.slice A n c]).run P w = .ok (.tuple #[]) w'∧cs.length=n*sz∧aT w' g e (lay fW o cs)∧w.grownBy w' (some g):=by
 obtain ⟨i,hi,hz,hs,rB⟩:=cW P e (z:=z) (sz:=sz) (bytes:=bytes);by_cases h0:n=0
 ·subst h0;refine ⟨w,[],?_,by simp,by rw [AL];exact hB,World.grownBy.refl _ _⟩;cases A<;>simp [Builtin.clear_,run_underlying S.kz]
 ·obtain rfl:=l8 (by omega);obtain ⟨k,rfl⟩ : ∃ k,n=k+1:=⟨n-1,by omega⟩;have hlen:(Builtin.zeroCells z.cells (k+1)).toList.length=(k+1)*sz:=by simp [Go.size_zeroCells,T.zc]
  have h1:∀ v∈(Builtin.zeroCells z.cells (k+1)).toList,v.oneCell'=true:=by
   intro v hv;simp only [Builtin.zeroCells,Array.toList_map,Array.toList_range,List.mem_map] at hv;obtain ⟨j,hj,rfl⟩:=hv;have hp:=T.pos;have:j % z.cells.size<z.cells.size:=Nat.mod_lt _ (by rw [T.zc];exact hp)
   rw [getElem!_pos z.cells _ this];exact uE _ (Array.getElem_mem_toList _)
  have tX:=run_storeCells_at P g o e (Builtin.zeroCells z.cells (k+1)).toList 0 fW.toArray w hB (by rw [hlen];simpa using ib) h1;have e1:(fW.toArray.toList.take (o+0)++(Builtin.zeroCells z.cells (k+1)).toList++fW.toArray.toList.drop (o+0+(Builtin.zeroCells z.cells (k+1)).toList.length))=lay fW o (Builtin.zeroCells z.cells (k+1)).toList:=by simp [lay]
  rw [e1] at tX;refine ⟨_,_,?_,hlen,(ed hB).1,(ed hB).2⟩;simp [Builtin.clear_,run_underlying S.kz,zeroValue,typeInfo,hi,hz,tX]
end
section
variable {P:Program} {n:Nat} {ops:Array Oper} {Q:Exit→Act→World→Prop} {rest:List Oper} {L:Env} {w:World} {d:Option Nat} {T:TypeId} {pos:String} {af:Array Edge} {g:Option (Nat×Bool)}
theorem SW.copy {d:Nat} {t e:TypeId} {z:Value} {sz bytes:Nat} [S:aX P t e sz] [E:cj P e z sz bytes] {x y:Operand} {A X:Option Addr} {m c m2 c2 k g:Nat} (o:Nat) {fW:List Value} (cs:List Value) (hB:aT w g e fW) (hx:bF L x=some (.slice A m c)) (hy:bF L y=some (.slice X m2 c2)) (hn:Nat.blt d n=true)
 (hk:min m2 m=k) (hlen:cs.length=k*sz) (ib:o+cs.length≤fW.length) (l8 : 0<k→A=some ⟨g,o,none⟩ ∧ ∃ ad,X=some ad ∧ ∀ j v,cs[j]?=some v→w.cell? (ad.add j)=some v) (h1:∀ v∈cs,v.oneCell'=true)
 (h:∀ w',aT w' g e (lay fW o cs)→w.grownBy w' (some g)→SW P n ops (.fB Q) rest ((d,.int .i64 (k:Int))::L) w') :
 SW P n ops (.fB Q) (⟨some d,.call ⟨.builtin .copy,#[x,y],#[t,t]⟩,T,pos,af,none⟩::rest) L w :=
 ⟨fun a ha=>by
  obtain ⟨w',hr,h2,h3⟩:=vO (P:=P) (t:=t) T (c:=c) (c2:=c2) hk hlen hB ib l8 h1;simp only [swp,wpList,Region.wanted,if_true];refine .inl ?_;unfold Oper.wp
  have:(execOp a.eval ⟨some d,.call ⟨.builtin .copy,#[x,y],#[t,t]⟩,T,pos,af,none⟩).run P w = .ok (.value (.int .i64 (k:Int))) w':=by
   simp [execOp,resolve,invoke,builtin,ha.eval hx,ha.eval hy,hr]
  rw [this,Oper.upon_value];exact (h w' h2 h3).out _ (ha.put hn _)⟩
theorem SW.clear {t e:TypeId} {z:Value} {sz bytes:Nat} [S:aX P t e sz] [E:cj P e z sz bytes] {x:Operand} {A:Option Addr} {m c g:Nat} (o:Nat) {fW:List Value} (hB:aT w g e fW) (hx:bF L x=some (.slice A m c)) (ib:o+m*sz≤fW.length) (l8 : 0<m→A=some ⟨g,o,none⟩) (uE:∀ v∈z.cells.toList,v.oneCell'=true)
 (h:∀ w' cs,cs.length=m*sz→aT w' g e (lay fW o cs)→w.grownBy w' (some g)→SW P n ops (.fB Q) rest L w') :
 SW P n ops (.fB Q) (⟨none,.call ⟨.builtin .clear,#[x],#[t]⟩,T,pos,af,none⟩::rest) L w :=
 ⟨fun a ha=>by
  obtain ⟨w',cs,hr,h1,h2,h3⟩:=ue (P:=P) (t:=t) T (c:=c) hB ib l8 uE;simp only [swp,wpList,Region.wanted,if_true];refine .inl ?_;unfold Oper.wp
  have:(execOp a.eval ⟨none,.call ⟨.builtin .clear,#[x],#[t]⟩,T,pos,af,none⟩).run P w = .ok (.value (.tuple #[])) w':=by
   simp [execOp,resolve,invoke,builtin,ha.eval hx,hr]
  rw [this,Oper.upon_value];exact (h w' cs h1 h2 h3).out _ (ha.C6 _)⟩
theorem su {t e:TypeId} {sz:Nat} [c:aX P t e sz] {x y u:Operand} {A:Option Addr} {m cap i j:Nat} (hx:bF L x=some (.slice A m cap)) (hy:bF L y=some (.int .i64 (i:Int))) (hu:bF L u=some (.int .i64 (j:Int))) (hi:i≤j) (hj:j≤cap) :
 St P ⟨d,.slice t x (some y) (some u) none,T,pos,af,g⟩ L w (.slice (if cap=i then A else A.map (·.add (i*sz))) (j-i) (cap-i)) :=
 ⟨fun _ a ha w' _=>by
  have e1:=ha.eval hx;have e2:=ha.eval hy;have e3:=ha.eval hu;generalize a.eval = ρ at *
  simp [execOp,e1,e2,e3,Instr.sliceAt,Instr.slice,Instr.sliceBounds,Instr.sliceBound,asIntOf,run_underlying c.kz,run_sizeOf c.size,hi,hj]⟩
theorem uF {t e:TypeId} {sz:Nat} [c:aX P t e sz] {x y u v:Operand} {A:Option Addr} {m cap i j k:Nat} (hx:bF L x=some (.slice A m cap)) (hy:bF L y=some (.int .i64 (i:Int))) (hu:bF L u=some (.int .i64 (j:Int))) (hv:bF L v=some (.int .i64 (k:Int))) (hi:i≤j) (hj:j≤k) (hk:k≤cap) :
 St P ⟨d,.slice t x (some y) (some u) (some v),T,pos,af,g⟩ L w (.slice (if k=i then A else A.map (·.add (i*sz))) (j-i) (k-i)) :=
 ⟨fun _ a ha w' _=>by
  have e1:=ha.eval hx;have e2:=ha.eval hy;have e3:=ha.eval hu;have e4:=ha.eval hv;generalize a.eval = ρ at *
  simp [execOp,e1,e2,e3,e4,Instr.sliceAt,Instr.slice,Instr.sliceBounds,Instr.sliceBound,asIntOf,run_underlying c.kz,run_sizeOf c.size,hi,hj,hk]⟩
end
section
variable {P:Program} {n:Nat} {ops:Array Oper} {Q:Exit→Act→World→Prop} {rest:List Oper} {L:Env} {w:World}
structure jr (P:Program) (f:FuncId) (args:List Value) (w:World) (R:Value→World→Prop) : Prop where
 out:Calls P f args.toArray w fun e w' => ∃ v,e = .returned v∧R v w'
theorem SW.dy {d:Nat} {f:FuncId} {xs:List Operand} {vs:List Value} {ts:Array TypeId} {T:TypeId} {pos:String} {af:Array Edge} {R:Value→World→Prop}
 [Body P f] (hx:pM L xs=some vs) (hn:Nat.blt d n=true) (hc:jr P f vs w R) (h:∀ v w',R v w'→SW P n ops (.fB Q) rest ((d,v)::L) w') :
 SW P n ops (.fB Q) (⟨some d,.call ⟨.value (.func f),xs.toArray,ts⟩,T,pos,af,none⟩::rest) L w :=
 ⟨fun a ha=>by
  simp only [swp,wpList,Region.wanted,if_true];refine .inl ?_;unfold Oper.wp;rw [rY,Oper.upon_enter,ha.oD hx];refine Calls.mono hc.out ?_;rintro e w' ⟨v,rfl,hv⟩
  exact (h v w' hv).out _ (ha.put hn v)⟩
theorem eG {fn:Func} {f:FuncId} {c:Code} {args:List Value} {R:Value→World→Prop} (hf:P.funcs[f]?=some fn) (hb:fn.body=some c) (hn:fn.ntmps=n) (hl:Nat.ble args.length n=true)
 (h:CW P n c (bodyPost P fn fun e w' => ∃ v,e = .returned v∧R v w') (ni 0 args) w) : jr P f args w R:=by
 have Fc:args.length≤n:=by simpa using hl
 refine ⟨calls_of_wp hf hb (h.out _ ⟨?_,rfl,?_⟩)⟩
 ·simp [hn];omega
 ·intro i v hi;obtain ⟨_,h2⟩:=mv args 0 i v hi;simp only [Nat.sub_zero] at h2
  have dg:i<args.length:=by
   rcases Nat.lt_or_ge i args.length with h|h
   ·exact h
   ·rw [List.getElem?_eq_none h] at h2;cases h2
  rw [Array.getD_eq_getD_getElem?,Array.getElem?_append_left (by simpa using dg)];simp [h2]
theorem SW.entry {d:Nat} {f:FuncId} {fn:Func} {e:Array Value→Sem Value} {xs:List Operand} {vs:List Value} {v:Value} {ts:Array TypeId} {T:TypeId} {pos:String} {af:Array Edge}
 (hf : P.funcs[f]? = some fn) (JJ : (fn.name == "runtime.NumGoroutine") = false) (hb : fn.body.isNone = true) (FD : Extern.findNext fn = none) (he : Extern.find fn = some e) (hx : pM L xs = some vs) (hn : Nat.blt d n = true)
 (hr:(e vs.toArray).run P w = .ok v w) (h:SW P n ops (.fB Q) rest ((d,v)::L) w) :
 SW P n ops (.fB Q) (⟨some d,.call ⟨.value (.func f),xs.toArray,ts⟩,T,pos,af,none⟩::rest) L w :=
 ⟨fun a ha=>by
  simp only [swp,wpList,Region.wanted,if_true];refine .inl ?_;unfold Oper.wp;have h1:=run_callFunc_extern (P:=P) hf JJ hb FD he vs.toArray w
  have:(execOp a.eval ⟨some d,.call ⟨.value (.func f),xs.toArray,ts⟩,T,pos,af,none⟩).run P w = .ok (.value v) w:=by
   have e2:=ha.oD hx;simp only [execOp,resolve,Deferred.ofValue,Act.eval,Sem.run_bind,Result.andThen,invoke,List.map_toArray,e2];rw [hr] at h1;simpa [Result.andThen] using h1
  rw [this,Oper.upon_value];exact h.out _ (ha.put hn v)⟩
end
theorem Ext.gr {w w':World} (h:Ext w w') (row:Option Nat) : w.grownBy w' row:=⟨h.os,h.tape,h.output,h.size,fun k hk _=>h.block k hk⟩
theorem bR {w w1 w2:World} {row HE:Option Nat} (h:w.grownBy w1 row) (k:w1.grownBy w2 HE) (hr:HE=row ∨ ∀ i,HE=some i→w.heap.size≤i) : w.grownBy w2 row :=
 ⟨k.os.trans h.os,k.tape.trans h.tape,k.output.trans h.output,Nat.le_trans h.size k.size,fun i hi cr=>by
  have I6:i<w1.heap.size:=Nat.lt_of_lt_of_le hi h.size
  rcases hr with e|e
  ·subst e;rw [k.block i I6 cr,h.block i hi cr]
  ·rw [k.block i I6 (fun e'=>by have:=e i e'.symm;omega),h.block i hi cr]⟩
theorem SW.xi {α:Type} {P:Program} {n:Nat} {ops:Array Oper} {Q:Exit→Act→World→Prop} {rest:List Oper} {L:Env} {w:World} {dd:Nat} {T:TypeId} {pos:String} {af:Array Edge}
 {lo:Nat} {t e:TypeId} {z:Value} {sz bytes:Nat} {enc : α → List Value} {A X:Option Addr} {k c m c2:Nat} {l ys:List α} [S:aX P t e sz] [T':cj P e z sz bytes] [E:fu enc sz] {x y:Operand}
 (hO:Own w lo e sz enc A k c l) (hS:Sl w sz enc X m ys) (iQ:k+m≤c) (hx:bF L x=some (.slice A k c)) (hy:bF L y=some (.slice X m c2)) (hn:Nat.blt dd n=true)
 (h:∀ w',Own w' lo e sz enc A (k+m) c (l++ys)→w.grownBy w' (aG A c)→SW P n ops (.fB Q) rest ((dd,.slice A (k+m) c)::L) w') :
 SW P n ops (.fB Q) (⟨some dd,.call ⟨.builtin .append,#[x,y],#[t,t]⟩,T,pos,af,none⟩::rest) L w :=
 ⟨fun a ha=>by
  obtain ⟨i,hi,hz,hs,rB⟩:=cW P e (z:=z) (sz:=sz) (bytes:=bytes);have CT:(ys.flatMap enc).length=m*sz:=by rw [aE,hS.len]
  have lZ:∀ u∈ys.flatMap enc,u.oneCell'=true:=fun u hu=>by
   obtain ⟨x,_,hx⟩:=List.mem_flatMap.1 hu;exact E.one x u hx
  have key:∃ w',(Builtin.append_ #[t,t] T #[.slice A k c,.slice X m c2]).run P w = .ok (.slice A (k+m) c) w'∧Own w' lo e sz enc A (k+m) c (l++ys)∧w.grownBy w' (aG A c):=by
   by_cases tW:m=0
   ·subst tW;have Lh:ys=[]:=List.eq_nil_of_length_eq_zero hS.len
    subst Lh;refine ⟨w,?_,by simpa using hO,World.grownBy.refl _ _⟩;have L0:k≤c:=by omega
    cases A<;>cases X<;>simp [Builtin.append_,run_underlying S.kz,sizeOf,typeInfo,hi,Builtin.lenOf,L0,Builtin.firstCells,loadCells,loadCellsFrom,storeCells]
   ·obtain ⟨ad,rfl⟩:=Option.isSome_iff_exists.1 (hS.base (by omega));have oF:=cg T'.pos hS;obtain ⟨g,rest,rfl,h1,h2,h3,h4,h5,h6⟩:=hO.opened (by omega);have ib:(k+m)*sz≤c*sz:=Nat.mul_le_mul_right _ iQ
    have nR:(l.flatMap enc).length=k*sz:=by rw [aE,hO.len]
    rw [Nat.add_mul] at ib;have hr:=run_append_room (P:=P) w t T e i S.kz hi g k c (l.flatMap enc++rest).toArray h2 ad m c2 (ys.flatMap enc) (by rw [hs];exact CT) oF lZ iQ (by rw [hs,CT];simp [nR];omega)
    have e1:(l.flatMap enc++rest).toArray.toList.take (k*i.size)++ys.flatMap enc++(l.flatMap enc++rest).toArray.toList.drop (k*i.size+(ys.flatMap enc).length)=(l++ys).flatMap enc++rest.drop (m*sz):=by
     rw [hs];have h7:=eE (l.flatMap enc) (rest.take (m*sz)) (rest.drop (m*sz)) (ys.flatMap enc) (by rw [CT];simp;omega) (o:=k*sz) nR.symm;rw [List.append_assoc (l.flatMap enc),List.take_append_drop] at h7;rw [List.flatMap_append];exact h7
    rw [e1] at hr;refine ⟨_,hr,?_,?_⟩
    ·exact Own.closed (by rw [List.length_append,hO.len,hS.len]) (ed h2).1 (by rw [Nat.add_mul];simp;omega) iQ (by omega) h5 h1
    ·rw [h6];exact (ed h2).2
  obtain ⟨w',hr,h1,h2⟩:=key;simp only [swp,wpList,Region.wanted,if_true];refine .inl ?_;unfold Oper.wp
  have:(execOp a.eval ⟨some dd,.call ⟨.builtin .append,#[x,y],#[t,t]⟩,T,pos,af,none⟩).run P w = .ok (.value (.slice A (k+m) c)) w':=by
   simp [execOp,resolve,invoke,builtin,ha.eval hx,ha.eval hy,hr]
  rw [this,Oper.upon_value];exact (h w' h1 h2).out _ (ha.put hn _)⟩
theorem SW.vP {α:Type} {P:Program} {n:Nat} {ops:Array Oper} {Q:Exit→Act→World→Prop} {rest:List Oper} {L:Env} {w:World} {d:Nat} {T:TypeId} {pos:String} {af:Array Edge}
 {t tn e:TypeId} {z:Value} {sz bytes:Nat} {enc : α → List Value} {A:Option Addr} {m c k:Nat} {l:List α} {lk:IntKind} [S:aX P t e sz] [T':cj P e z sz bytes] [E:fu enc sz] {x y:Operand}
 {j:Int} (hS:Sl w sz enc A m l) (Po:P.underlying tn=some (.int lk)) (hx:bF L x=some (.slice A m c)) (hy:bF L y=some (.int .i64 j)) (hj:j=(k:Int)) (hn:Nat.blt d n=true) (hk : 0<k) (iQ:c<m+k) (hb:(m+k)*bytes≤140737488355328) (hm:m+k≤9223372036854775807)
 (h:∀ g GI c' w',Ext w w'→w.heap.size≤g→aT w' g e (l.flatMap enc++GI)→m*sz+GI.length=c'*sz→m+k≤c'→c'≤maxLen→SW P n ops (.fB Q) rest ((d,.slice (some ⟨g,0,none⟩) (m+k) c')::L) w') :
 SW P n ops (.fB Q) (⟨some d,.call ⟨.builtin .append,#[x,y],#[t,tn]⟩,T,pos,af,none⟩::rest) L w :=
 ⟨fun a ha=>by
  subst hj;obtain ⟨i,hi,hz,hs,rB⟩:=cW P e (z:=z) (sz:=sz) (bytes:=bytes);have hp:=T'.pos;have HF:=cg hp hS;have hlen:(l.flatMap enc).length=m*sz:=by rw [aE,hS.len]
  have hold:(Builtin.firstCells i.size m (.slice A m c)).run P w.drew = .ok (l.flatMap enc).toArray w.drew:=by
   rw [hs];cases A with
   | none =>
     have h0:m=0:=by
      rcases Nat.eq_zero_or_pos m with h0|h0
      ·exact h0
      ·have:=hS.base h0;simp at this
     subst h0;have:l=[]:=List.eq_nil_of_length_eq_zero hS.len
     subst this;simp [Builtin.firstCells]
   | some ad =>
     simp only [Builtin.firstCells];rw [← hlen];exact run_loadCells_list (P:=P) w.drew ad _ (fun j v hv=>HF j v hv)
  have FG:=Room.nextslicecap_le' iQ
  have ib:Builtin.nextslicecap (m+k) c*i.bytes≤281474976710656:=by
   rw [rB]
   calc Builtin.nextslicecap (m+k) c*bytes≤2*(m+k)*bytes:=Nat.mul_le_mul_right _ FG
    _≤281474976710656:=by rw [Nat.mul_assoc];omega
  have Pp:k*i.bytes≤281474976710656:=by
   rw [rB];have:k*bytes≤(m+k)*bytes:=Nat.mul_le_mul_right _ (by omega)
   omega
  have hr:=Lib.run_append_grow_zeros (P:=P) w t tn T e i z .i64 lk S.kz Po hi hz A m c _ hold k hk (by rw [hs];exact hp) iQ (by omega) Pp ib;simp only [swp,wpList,Region.wanted,if_true];refine .inl ?_;unfold Oper.wp
  have:(execOp a.eval ⟨some d,.call ⟨.builtin .append,#[x,y],#[t,tn]⟩,T,pos,af,none⟩).run P w = .ok (.value (.slice (some ⟨w.heap.size,0,none⟩) (m+k) (grownCap w (m+k) c e))) (w.drew.alloc (.cells ((l.flatMap enc).toArray++Builtin.zeroCells z.cells k++Builtin.zeroCells z.cells (grownCap w (m+k) c e-(m+k))) e)):=by
   simp [execOp,resolve,invoke,builtin,ha.eval hx,ha.eval hy,hr]
  rw [this,Oper.upon_value];have hg:=grownCap_ge w (m+k) c e;refine (h w.heap.size ((Builtin.zeroCells z.cells k).toList++(Builtin.zeroCells z.cells (grownCap w (m+k) c e-(m+k))).toList) _ _ (Ext.trans (Ext.drew w) (Ext.alloc _ _)) (Nat.le_refl _) ?_ ?_ hg (grownCap_le_maxLen w _ _ _ (by simp only [maxLen];omega))).out _ (ha.put hn _)
  ·have:=aT.new w.drew e (l.flatMap enc++((Builtin.zeroCells z.cells k).toList++(Builtin.zeroCells z.cells (grownCap w (m+k) c e-(m+k))).toList))
   have e1:(l.flatMap enc++((Builtin.zeroCells z.cells k).toList++(Builtin.zeroCells z.cells (grownCap w (m+k) c e-(m+k))).toList)).toArray=(l.flatMap enc).toArray++Builtin.zeroCells z.cells k++Builtin.zeroCells z.cells (grownCap w (m+k) c e-(m+k)):=by
    apply Array.ext';simp
   rw [e1] at this;exact this
  ·simp only [List.length_append,Array.length_toList,Go.size_zeroCells,T'.zc];rw [← Nat.add_mul,← Nat.add_mul];congr 1;omega⟩
open Go.RowKit
def tZ (w w':World) (t:TypeId) : Prop := ∃ row,w.grownBy w' row ∧ ∀ k,row=some k → ∃ cs,w.heap[k]?=some (.cells cs t (0,0))
theorem Own.gr {α:Type} {w w':World} {lo:Nat} {e:TypeId} {sz:Nat} {enc : α → List Value} {A:Option Addr} {n c:Nat} {l:List α} (h:Own w lo e sz enc A n c l) (hg:w.grownBy w' (aG A c)) : tZ w w' e:=by
 refine ⟨_,hg,fun k hk => ?_⟩;rcases h.row with ⟨_,rfl⟩|⟨hc,g,fW,rfl,_,h2,_⟩
 ·simp [aG] at hk
 ·simp [aG,Nat.pos_iff_ne_zero.1 hc] at hk;subst hk;exact ⟨fW,h2⟩
theorem aT.gr {w w':World} {b:Nat} {t:TypeId} {cs:List Value} (h:aT w b t cs) (hg:w.grownBy w' (some b)) : tZ w w' t:=⟨_,hg,fun k hk=>by cases hk;exact ⟨_,h⟩⟩
theorem Own.au {α:Type} {w w':World} {t lo:Nat} {e:TypeId} {sz:Nat} {enc : α → List Value} {A:Option Addr} {n c:Nat} {l:List α} (h:Own w lo e sz enc A n c l) (hG:tZ w w' t) (cr:Nat.beq t e=false) : Own w' lo e sz enc A n c l:=by
 obtain ⟨row,hg,hr⟩:=hG;refine h.grown hg ?_;rcases h.row with ⟨_,rfl⟩|⟨hc,g,fW,rfl,_,h2,_⟩
 ·simp [aG]
 ·right;rintro rfl;obtain ⟨cs,h3⟩:=hr g (by simp [aG,Nat.pos_iff_ne_zero.1 hc]);rw [h2] at h3;injection h3 with h3
  injection h3 with _ h _
  subst h;simp at cr
theorem aT.au {w w':World} {b t:Nat} {t':TypeId} {cs:List Value} (h:aT w b t' cs) (hG:tZ w w' t) (cr:Nat.beq t t'=false) : aT w' b t' cs:=by
 obtain ⟨row,hg,hr⟩:=hG;refine h.grown hg ?_;rintro rfl;obtain ⟨cs,h3⟩:=hr b rfl;unfold aT at h;rw [h] at h3;injection h3 with h3
 injection h3 with _ h _
 subst h;simp at cr
theorem Own.lt_size {α:Type} {w:World} {lo:Nat} {e:TypeId} {sz:Nat} {enc : α → List Value} {A:Option Addr} {n c:Nat} {l:List α} (h:Own w lo e sz enc A n c l) : ∀ k,aG A c=some k→k<w.heap.size:=by
 intro k hk;rcases h.row with ⟨_,rfl⟩|⟨hc,g,fW,rfl,_,h2,_⟩
 ·simp [aG] at hk
 ·simp [aG,Nat.pos_iff_ne_zero.1 hc] at hk;subst hk;exact (Array.getElem?_eq_some_iff.1 h2).1
structure dV {α β:Type} (R : α → β → Prop) (xs:List α) (ys:List β) : Prop where
 len:xs.length=ys.length
 get:∀ (i:Nat) (h1:i<xs.length) (h2:i<ys.length),R xs[i] ys[i]
theorem dV.mono {α β:Type} {R R' : α → β → Prop} {xs:List α} {ys:List β} (h:dV R xs ys) (hm:∀ a b,R a b→R' a b) : dV R' xs ys:=⟨h.len,fun i h1 h2=>hm _ _ (h.get i h1 h2)⟩
theorem dV.nil {α β:Type} {R : α → β → Prop}:dV R ([] : List α) ([] : List β):=⟨rfl,fun i h1 h2=>by simp at h1⟩
theorem dV.snoc {α β:Type} {R : α → β → Prop} {xs:List α} {ys:List β} (h:dV R xs ys) {x : α} {y : β} (hr:R x y) : dV R (xs++[x]) (ys++[y]):=by
 refine ⟨by simp [h.len],fun i h1 h2 => ?_⟩;have hl:=h.len;by_cases hi:i<xs.length
 ·rw [List.getElem_append_left hi,List.getElem_append_left (by omega)];exact h.get i hi (by omega)
 ·have e:i=xs.length:=by simp at h1;omega
  subst e;simp [hl];exact hr
structure bO where
 eI:Int
 ab:Int
 Ty:Int
 an:fD
def bi (r:bO) : List Value:=[.int .i64 r.eI,.int .i64 r.ab,.int .i64 r.Ty,r.an.v]
instance:fu bi 4:=⟨fun _=>rfl,fun r u hu=>by simp [bi,fD.v] at hu;rcases hu with rfl|rfl|rfl|rfl<;>rfl⟩
structure gb where
 aL:fD
 bT:fD
 bt:Int
 aj:fD
 Live:fD
def bW (r:gb) : List Value:=[r.aL.v,r.bT.v,.int .i64 r.bt,r.aj.v,r.Live.v]
instance:fu bW 5:=⟨fun _=>rfl,fun r u hu=>by simp [bW,fD.v] at hu;rcases hu with rfl|rfl|rfl|rfl|rfl<;>rfl⟩
def gb.zero:gb:=⟨.nil,.nil,0,.nil,.nil⟩
def Heap.zero:Heap:=⟨[],[],0,[],[]⟩
structure HG (w:World) (r:bO) (l:ap) : Prop where
 cpu:r.eI=l.eI
 gj:r.ab=l.ab
 ty:r.Ty=l.Ty
 cb:Sl w 1 bB r.an.A r.an.n l.an
structure mf (w:World) (lo:Nat) (r:bO) (l:ap) : Prop where
 cpu:r.eI=l.eI
 gj:r.ab=l.ab
 ty:r.Ty=l.Ty
 cb:Own w lo 3 1 bB r.an.A r.an.n r.an.c l.an
theorem HG.ext {w w':World} {r:bO} {l:ap} (h:HG w r l) (hx:Ext w w') : HG w' r l:=⟨h.cpu,h.gj,h.ty,h.cb.ext hx⟩
theorem mf.ext {w w':World} {lo:Nat} {r:bO} {l:ap} (h:mf w lo r l) (hx:Ext w w') : mf w' lo r l:=⟨h.cpu,h.gj,h.ty,h.cb.ext hx⟩
theorem mf.low {w:World} {lo kA:Nat} {r:bO} {l:ap} (h:mf w lo r l) (hl:kA≤lo) : mf w kA r l:=⟨h.cpu,h.gj,h.ty,h.cb.low hl⟩
theorem mf.rd {w:World} {lo:Nat} {r:bO} {l:ap} (h:mf w lo r l) : HG w r l:=⟨h.cpu,h.gj,h.ty,h.cb.sl⟩
theorem mf.au {w w':World} {t lo:Nat} {r:bO} {l:ap} (h:mf w lo r l) (hG:tZ w w' t) (cr:Nat.beq t 3=false) : mf w' lo r l:=⟨h.cpu,h.gj,h.ty,h.cb.au hG cr⟩
theorem dT.au {w w':World} {t lo:Nat} {r:bU} {z:ab} (h:dT w lo r z) (hG:tZ w w' t) (cr:(Nat.beq t 3 || Nat.beq t 165)=false) : dT w' lo r z:=by
 simp only [Bool.or_eq_false_iff] at cr;exact ⟨h.from_,h.jA,h.free.au hG cr.2,h.types.au hG cr.1⟩
structure zd (w:World) (s:fD) (zs:List bU) (l:List ab) : Prop where
 row:Sl w 4 bG s.A s.n zs
 each:dV (yU w) zs l
structure gT (w:World) (lo:Nat) (s:fD) (zs:List bU) (l:List ab) : Prop where
 row:Own w lo 139 4 bG s.A s.n s.c zs
 each:dV (dT w lo) zs l
structure sv (w:World) (s:fD) (ls:List bO) (l:List ap) : Prop where
 row:Sl w 4 bi s.A s.n ls
 each:dV (HG w) ls l
structure dE (w:World) (lo:Nat) (s:fD) (ls:List bO) (l:List ap) : Prop where
 row:Own w lo 142 4 bi s.A s.n s.c ls
 each:dV (mf w lo) ls l
section
variable {w w':World} {lo kA t:Nat} {s:fD} {zs:List bU} {z:List ab} {ls:List bO} {l:List ap}
theorem zd.ext (h:zd w s zs z) (hx:Ext w w') : zd w' s zs z:=⟨h.row.ext hx,h.each.mono fun _ _ h=>h.ext hx⟩
theorem sv.ext (h:sv w s ls l) (hx:Ext w w') : sv w' s ls l:=⟨h.row.ext hx,h.each.mono fun _ _ h=>h.ext hx⟩
theorem gT.ext (h:gT w lo s zs z) (hx:Ext w w') : gT w' lo s zs z:=⟨h.row.ext hx,h.each.mono fun _ _ h=>h.ext hx⟩
theorem dE.ext (h:dE w lo s ls l) (hx:Ext w w') : dE w' lo s ls l:=⟨h.row.ext hx,h.each.mono fun _ _ h=>h.ext hx⟩
theorem gT.low (h:gT w lo s zs z) (hl:kA≤lo) : gT w kA s zs z:=⟨h.row.low hl,h.each.mono fun _ _ h=>h.low hl⟩
theorem dE.low (h:dE w lo s ls l) (hl:kA≤lo) : dE w kA s ls l:=⟨h.row.low hl,h.each.mono fun _ _ h=>h.low hl⟩
theorem gT.rd (h:gT w lo s zs z) : zd w s zs z:=⟨h.row.sl,h.each.mono fun _ _ h=>h.rd⟩
theorem dE.rd (h:dE w lo s ls l) : sv w s ls l:=⟨h.row.sl,h.each.mono fun _ _ h=>h.rd⟩
theorem gT.au (h:gT w lo s zs z) (hG:tZ w w' t) (cr:(Nat.beq t 139 || (Nat.beq t 3 || Nat.beq t 165))=false) : gT w' lo s zs z:=by
 rw [Bool.or_eq_false_iff] at cr;exact ⟨h.row.au hG cr.1,h.each.mono fun _ _ h=>h.au hG cr.2⟩
theorem dE.au (h:dE w lo s ls l) (hG:tZ w w' t) (cr:(Nat.beq t 142 || Nat.beq t 3)=false) : dE w' lo s ls l:=by
 rw [Bool.or_eq_false_iff] at cr;exact ⟨h.row.au hG cr.1,h.each.mono fun _ _ h=>h.au hG cr.2⟩
theorem gT.nil (w:World) (lo:Nat) : gT w lo .nil [] []:=⟨Own.fj _ _ _ _ _ _,.nil⟩
theorem dE.nil (w:World) (lo:Nat) : dE w lo .nil [] []:=⟨Own.fj _ _ _ _ _ _,.nil⟩
theorem zd.len (h:zd w s zs z) : zs.length=s.n∧z.length=s.n:=⟨h.row.len,by rw [← h.each.len,h.row.len]⟩
theorem sv.len (h:sv w s ls l) : ls.length=s.n∧l.length=s.n:=⟨h.row.len,by rw [← h.each.len,h.row.len]⟩
end
structure AM (w:World) (r:gb) (h:Heap) : Prop where
 cpus:r.bt=h.bt
 cT:Sl w 1 bB r.bT.A r.bT.n h.bT
 live:Sl w 3 aA r.Live.A r.Live.n h.Live
 bz:∃ zs,zd w r.aL zs h.aL
 lists:∃ ls,sv w r.aj ls h.aj
structure gq (w:World) (lo:Nat) (r:gb) (h:Heap) : Prop where
 cpus:r.bt=h.bt
 cT:Own w lo 3 1 bB r.bT.A r.bT.n r.bT.c h.bT
 live:Own w lo 165 3 aA r.Live.A r.Live.n r.Live.c h.Live
 bz:∃ zs,gT w lo r.aL zs h.aL
 lists:∃ ls,dE w lo r.aj ls h.aj
section
variable {w w':World} {lo kA t:Nat} {r:gb} {h:Heap}
theorem AM.ext (a:AM w r h) (hx:Ext w w') : AM w' r h:=by
 obtain ⟨zs,hz⟩:=a.bz;obtain ⟨ls,hl⟩:=a.lists;exact ⟨a.cpus,a.cT.ext hx,a.live.ext hx,⟨zs,hz.ext hx⟩,⟨ls,hl.ext hx⟩⟩
theorem gq.ext (a:gq w lo r h) (hx:Ext w w') : gq w' lo r h:=by
 obtain ⟨zs,hz⟩:=a.bz;obtain ⟨ls,hl⟩:=a.lists;exact ⟨a.cpus,a.cT.ext hx,a.live.ext hx,⟨zs,hz.ext hx⟩,⟨ls,hl.ext hx⟩⟩
theorem gq.low (a:gq w lo r h) (Fc:kA≤lo) : gq w kA r h:=by
 obtain ⟨zs,hz⟩:=a.bz;obtain ⟨ls,hl⟩:=a.lists;exact ⟨a.cpus,a.cT.low Fc,a.live.low Fc,⟨zs,hz.low Fc⟩,⟨ls,hl.low Fc⟩⟩
theorem gq.rd (a:gq w lo r h) : AM w r h:=by
 obtain ⟨zs,hz⟩:=a.bz;obtain ⟨ls,hl⟩:=a.lists;exact ⟨a.cpus,a.cT.sl,a.live.sl,⟨zs,hz.rd⟩,⟨ls,hl.rd⟩⟩
theorem gq.au (a:gq w lo r h) (hG:tZ w w' t) (cr:(Nat.beq t 3 || (Nat.beq t 165 || (Nat.beq t 139 || Nat.beq t 142)))=false) : gq w' lo r h:=by
 obtain ⟨zs,hz⟩:=a.bz;obtain ⟨ls,hl⟩:=a.lists;simp only [Bool.or_eq_false_iff] at cr;obtain ⟨h1,h2,h3,h4⟩:=cr;exact ⟨a.cpus,a.cT.au hG h1,a.live.au hG h2,⟨zs,hz.au hG (by simp [h1,h2,h3])⟩,⟨ls,hl.au hG (by simp [h1,h4])⟩⟩
theorem gq.zero (w:World) (lo:Nat) : gq w lo .zero .zero:=⟨rfl,Own.fj _ _ _ _ _ _,Own.fj _ _ _ _ _ _,⟨[],.nil _ _⟩,⟨[],.nil _ _⟩⟩
end
structure Heap.small (h:Heap) : Prop where
 bz:h.aL.length*64≤140737488355328
 cT:h.bT.length*8≤140737488355328
 lists:h.aj.length*48≤140737488355328
 live:h.Live.length*24≤140737488355328
 free:∀ z∈h.aL,z.ag.length*24≤140737488355328∧z.Types.length*8≤140737488355328
 cb:∀ l∈h.aj,l.an.length*8≤140737488355328
open Go.RowKit
set_option maxHeartbeats 4000000 in
theorem jf (A:Option Addr) (n c lo:Nat) (l:List Block) (w:World) (hO:Own w lo 165 3 aA A n c l) (i:Nat) (hi:i<n) (hn:n≤1000000000000000000) (gQ:lo≤w.heap.size) :
 jr Tryz.prog 108 [.slice A n c,.int .i64 (i:Int),.int .i64 ((i+1:Nat) : Int)] w fun v w'=>v = .slice A (n-1) c∧Own w' lo 165 3 aA A (n-1) c (l.eraseIdx i)∧w.grownBy w' (aG A c):=by
 refine eG Tryz.func108 rfl Tryz.ntmps108 rfl ?_;have hle:=hO.le;have nP:=hO.len;have hA:=hO.sl.base;have Dm:w.grownBy w (aG A c):=World.grownBy.refl _ _
 repeat' (first|refine Wz ?_|(refine SW.st (uF (i:=i) (j:=i+1) (k:=n) rfl rfl rfl rfl (by omega) (by omega) (by omega)) rfl ?_))
 all_goals try omega
 have hw:=Ext.refl w;have e0:i+(n-(i+1))=n-1:=by omega
 have el:l.take i++l.drop (i+1)=l.eraseIdx i:=by rw [List.eraseIdx_eq_take_drop_succ]
 refine CW.any 6 mixed (dq (by kernel_rfl)) rfl fun w1 aa bm => ?_
 replace hw:=Ext.trans hw aa;replace hO:=hO.ext aa;clear aa;refine Wa ?_;refine SA.take 2 bm rfl (by kernel_rfl) (by kernel_rfl) rfl ?_;repeat ((refine SW.st (cG (k:=i) rfl rfl (by omega)) rfl ?_))
 refine SW.ar ?_;refine Wa ?_;refine SA.take 5 bm rfl (by kernel_rfl) (by kernel_rfl) rfl ?_;repeat ((refine SW.st (aP (k:=i+1) rfl rfl (by omega) (by omega)) rfl ?_))
 refine SW.ar ?_;refine SA.done (by kernel_rfl) ?_;refine SW.xi (hO.pre (i:=i) (by omega)) (hO.sl.drop (i+1) c (by omega) (by omega)) (by omega) rfl rfl rfl fun w2 cm hg => ?_
 rw [e0,el] at cm;rw [e0];have FH:=(hw.gr (aG A c));repeat' (first|refine Wz ?_|(refine SW.st (su (i:=n-1) (j:=n) rfl rfl rfl (by omega) (by omega)) rfl ?_))
 obtain ⟨g,rest,rfl,h1,h2,h3,h4,h5,h6⟩:=cm.opened (by omega);have nR:((l.eraseIdx i).flatMap aA).length=(n-1)*3:=by rw [aE,cm.len]
 refine SW.clear ((n-1)*3) h2 rfl (by rw [List.length_append,nR];omega) (fun h0 => ?_) (by decide) fun w3 cs nj hB oz => ?_
 ·rw [if_neg (by omega)];simp [cn]
 ·have e7:=eE ((l.eraseIdx i).flatMap aA) (rest.take ((n-(n-1))*3)) (rest.drop ((n-(n-1))*3)) cs (by rw [nj];simp;omega) (o:=(n-1)*3) nR.symm;rw [List.append_assoc (List.flatMap _ _),List.take_append_drop] at e7;rw [e7,List.append_assoc] at hB;have Bv:=Own.closed (l:=l.eraseIdx i) cm.len hB (by rw [List.length_append,nj];simp;omega) h4 (by omega) h5 h1;rw [← h6] at oz;have FI:=bR (bR FH hg (.inl rfl)) oz (.inl rfl);refine Wz ?_;exact ae.aI rfl rfl ⟨_,rfl,rfl,Bv,FI⟩
set_option maxHeartbeats 4000000 in
theorem fw (A:Option Addr) (n c lo:Nat) (l:List Block) (w:World) (hO:Own w lo 165 3 aA A n c l) (i:Nat) (hi:i≤n) (x:Block) (b:Nat) (hB:aT w b 165 (aA x)) (cr:aG A c≠some b) (hn:(n+1)*24≤140737488355328) (gQ:lo≤w.heap.size) :
 jr Tryz.prog 155 [.slice A n c,.int .i64 (i:Int),.slice (some ⟨b,0,none⟩) 1 1] w fun v w' => ∃ A' c',v = .slice A' (n+1) c'∧Own w' lo 165 3 aA A' (n+1) c' (aH l i x)∧w.grownBy w' (aG A c):=by
 refine eG Tryz.func155 rfl Tryz.ntmps155 rfl ?_;have hle:=hO.le;have nP:=hO.len;have hA:=hO.sl.base;have hw:=Ext.refl w;have j0:Sl w 3 aA (some ⟨b,0,none⟩) 1 [x]:=aT.wU hB
 have mF:(aA x).length=3:=rfl
 have nR:∀ q:List Block,(q.flatMap aA).length=q.length*3:=fun q=>aE q
 have lZ:∀ (q:List Block) (v:Value),v∈q.flatMap aA→v.oneCell'=true:=fun q v hv=>by
  obtain ⟨u,_,hu⟩:=List.mem_flatMap.1 hv;exact fu.one (enc:=aA) u v hu
 by_cases gR:i=n
 ·subst gR;repeat' (first|refine Wz ?_|(refine SW.st (aP (k:=i) rfl rfl (by omega) (by omega)) rfl ?_))
  all_goals try omega
  refine SW.append hO j0 gQ rfl rfl rfl (by omega) (by omega) fun A2 c2 w2 cm hg => ?_
  refine Wz ?_;refine ae.aI rfl rfl ⟨_,rfl,A2,c2,rfl,?_,hg⟩;have e:aH l i x=l++[x]:=by unfold aH;rw [List.take_of_length_le (by omega),List.drop_eq_nil_of_le (by omega)];simp
  rw [e];exact cm
 ·by_cases iQ:n+1≤c
  ·obtain ⟨g,rest,rfl,h1,h2,h3,h4,h5,h6⟩:=hO.opened (by omega);have AN:g≠b:=fun e=>cr (by rw [h6,e])
   have es:l.flatMap aA++rest=(l.take i).flatMap aA++((l.drop i).flatMap aA++rest):=by rw [← List.append_assoc,← List.flatMap_append,List.take_append_drop]
   have e1:((l.take i).flatMap aA).length=i*3:=by rw [nR];simp;omega
   have e2:((l.drop i).flatMap aA).length=(n-i)*3:=by rw [nR];simp [nP]
   have lp:=hO.sl.drop i c (by omega) (by omega);rw [if_neg (by omega)] at lp;rw [es] at h2
   have Dn:∀ w',Ext w w'→(Extern.SlicesOverlaps.overlaps #[39,39] #[4] #[.slice (some ⟨b,0,none⟩) 1 1,.slice (if c=i+1 then (some ⟨g,0,none⟩) else (some (⟨g,0,none⟩ : Addr)).map (·.add ((i+1)*3))) (n+1-(i+1)) (c-(i+1))]).run Tryz.prog w' = .ok (.bool false) w':=fun w' hx=>by
    rw [if_neg (by omega),Option.map_some,cn];have b1:=hB.ext hx;have b2:=h2.ext hx;unfold aT at b1 b2
    exact Lib.run_overlaps_apart w' 39 4 165 (aX.kz (t:=39)) 3 (fun w0=>run_sizeOf (aX.size (t:=39)) w0) ⟨b,0,none⟩ ⟨g,(i+1)*3,none⟩ 1 1 _ _ (fun e=>AN e.symm) 165 165 (aA x).toArray.size ((l.take i).flatMap aA++((l.drop i).flatMap aA++rest)).toArray.size
     (by simp only [World.shape?,b1]) (by simp only [World.shape?,b2]) (by simp [e1,e2];omega) (by simp [World.frozen?,b1]) (by simp [World.frozen?,b1])
   repeat' (first|refine Wz ?_|(refine CW.eX rfl ?_)|(refine SW.st (aP (k:=i) rfl rfl (by omega) (by omega)) rfl ?_)|(refine SW.st (cG (k:=n+1) rfl rfl (by omega)) rfl ?_)|(refine SW.st (aP (k:=i+1) rfl rfl (by omega) (by omega)) rfl ?_)|(refine SW.entry Tryz.func215 (by kernel_rfl) (by kernel_rfl) (by kernel_rfl) (e:=Extern.SlicesOverlaps.overlaps #[39,39] #[4]) (by kernel_rfl) rfl rfl (Dn _ hw) ?_))
   all_goals try omega
   have qW:((n-i)+1)*3≤((l.drop i).flatMap aA++rest).length:=by rw [List.length_append,e2];omega
   have e4:(l.drop i).flatMap aA++rest=((l.drop i).flatMap aA++rest).take 3++(((l.drop i).flatMap aA++rest).drop 3).take ((n-i)*3)++((l.drop i).flatMap aA++rest).drop (3+(n-i)*3):=by
    rw [List.append_assoc,← List.drop_drop,List.take_append_drop,List.take_append_drop]
   generalize Dp:((l.drop i).flatMap aA++rest).take 3=D1 at e4
   generalize Dq:(((l.drop i).flatMap aA++rest).drop 3).take ((n-i)*3)=D2 at e4
   generalize Dr:((l.drop i).flatMap aA++rest).drop (3+(n-i)*3)=D3 at e4
   have f1:D1.length=3:=by rw [← Dp];simp only [List.length_take];omega
   have f2:D2.length=(n-i)*3:=by rw [← Dq];simp only [List.length_take,List.length_drop];omega
   have f3:D3.length+3=rest.length:=by rw [← Dr];simp only [List.length_drop,List.length_append,e2];omega
   rw [e4] at h2;refine CW.any 8 mixed (dq (by kernel_rfl)) rfl fun w1 aa bm => ?_
   replace hw:=Ext.trans hw aa;replace hO:=hO.ext aa;replace hB:=hB.ext aa;replace h2:=h2.ext aa;clear aa;refine Wa ?_;refine SA.take 4 bm rfl (by kernel_rfl) (by kernel_rfl) rfl ?_;repeat ((refine SW.st (aP (k:=i+1) rfl rfl (by omega) (by omega)) rfl ?_))
   refine SW.ar ?_;refine Wa ?_;refine SA.take 7 bm rfl (by kernel_rfl) (by kernel_rfl) rfl ?_;repeat ((refine SW.st (aP (k:=i) rfl rfl (by omega) (by omega)) rfl ?_))
   refine SW.ar ?_;refine SA.done (by kernel_rfl) ?_;refine SW.copy (k:=n-i) ((i+1)*3) ((l.drop i).flatMap aA) h2 rfl rfl rfl (by omega) e2 (by simp only [List.length_append,e1,e2,f1,f2];omega) (fun h0=>⟨by rw [if_neg (by omega)];simp [cn],(⟨g,0,none⟩ : Addr).add (i*3),by rw [if_neg (by omega)];rfl,fun j v hv=>cg (by omega) (lp.ext hw) j v hv⟩) (lZ _) fun w3 ml oz => ?_
   have g1:=eE ((l.take i).flatMap aA++D1) D2 D3 ((l.drop i).flatMap aA) (by rw [e2,f2]) (o:=(i+1)*3) (by rw [List.length_append,e1,f1];omega);have g0:(l.take i).flatMap aA++(D1++D2++D3)=(l.take i).flatMap aA++D1++D2++D3:=by simp only [List.append_assoc]
   rw [g0,g1] at ml;have FH:=bR (hw.gr (aG (some ⟨g,0,none⟩) c)) oz (.inl h6.symm);have JK:=hB.grown oz (by simpa using fun e=>AN e.symm);repeat' (first|refine Wz ?_|(refine SW.st (aP (k:=i) rfl rfl (by omega) (by omega)) rfl ?_))
   refine SW.copy (k:=1) (i*3) (aA x) ml rfl rfl rfl (by omega) mF (by simp only [List.length_append,e1,e2,f1,mF];omega) (fun h0=>⟨by rw [if_neg (by omega)];simp [cn],⟨b,0,none⟩,rfl,fun j v hv=>JK.cell hv⟩) (fu.one (enc:=aA) x) fun w4 mG vD => ?_
   have g2:=eE ((l.take i).flatMap aA) D1 ((l.drop i).flatMap aA++D3) (aA x) (by rw [mF,f1]) (o:=i*3) e1.symm;have g3:(l.take i).flatMap aA++D1++(l.drop i).flatMap aA++D3=(l.take i).flatMap aA++D1++((l.drop i).flatMap aA++D3):=by simp only [List.append_assoc]
   have g4:(l.take i).flatMap aA++aA x++((l.drop i).flatMap aA++D3)=(aH l i x).flatMap aA++D3:=by unfold aH;simp only [List.flatMap_append,List.flatMap_cons,List.flatMap_nil,List.append_nil,List.append_assoc]
   rw [g3,g2,g4] at mG;have Bz:=Own.closed (n:=n+1) (c:=c) (l:=aH l i x) (by unfold aH;simp;omega) mG (by omega) iQ (by omega) h5 h1;have Ds:=bR FH vD (.inl h6.symm);refine Wz ?_;exact ae.aI rfl rfl ⟨_,rfl,_,_,rfl,Bz,Ds⟩
  ·have Li:c=n:=by omega
   have lp:=hO.sl.drop i c (by omega) (by omega);have xj:=hO.sl.pre (i:=i) (by omega);repeat' (first|refine Wz ?_|(refine SW.st (aP (k:=i) rfl rfl (by omega) (by omega)) rfl ?_)|(refine SW.st (cG (k:=i) rfl rfl (by omega)) rfl ?_))
   all_goals try omega
   refine SW.vP (k:=n+1-i) xj Tryz.underlying3 rfl rfl (by omega) rfl (by omega) (by omega) (by omega) (by omega) fun g rest c2 w2 bo qX h2 h3 h4 h5 => ?_
   have e1:((l.take i).flatMap aA).length=i*3:=by rw [nR];simp;omega
   have e2:((l.drop i).flatMap aA).length=(n-i)*3:=by rw [nR];simp [nP]
   have qW:((n-i)+1)*3≤rest.length:=by omega
   have e4:rest=rest.take 3++(rest.drop 3).take ((n-i)*3)++rest.drop (3+(n-i)*3):=by
    rw [List.append_assoc,← List.drop_drop,List.take_append_drop,List.take_append_drop]
   generalize Dp:rest.take 3=D1 at e4
   generalize Dq:(rest.drop 3).take ((n-i)*3)=D2 at e4
   generalize Dr:rest.drop (3+(n-i)*3)=D3 at e4
   have f1:D1.length=3:=by rw [← Dp];simp only [List.length_take];omega
   have f2:D2.length=(n-i)*3:=by rw [← Dq];simp only [List.length_take,List.length_drop];omega
   have f3:D3.length+((n-i)+1)*3=rest.length:=by rw [← Dr];simp only [List.length_drop];omega
   rw [e4] at h2;have fQ:aG A c≠some g:=fun e=>by have:=hO.lt_size _ e;omega
   have AN:b≠g:=by have:=hB.lt;omega
   replace lp:=lp.ext bo;replace hB:=hB.ext bo;replace hw:=Ext.trans hw bo;repeat' (first|refine Wz ?_|(refine SW.st (aP (k:=i) rfl rfl (by omega) (by omega)) rfl ?_))
   refine SW.copy (k:=1) (i*3) (aA x) h2 rfl rfl rfl (by omega) mF (by simp only [List.length_append,e1,f1,f2,mF];omega) (fun h0=>⟨by rw [if_neg (by omega)];simp [cn],⟨b,0,none⟩,rfl,fun j v hv=>hB.cell hv⟩) (fu.one (enc:=aA) x) fun w3 ml oz => ?_
   have g2:=eE ((l.take i).flatMap aA) D1 (D2++D3) (aA x) (by rw [mF,f1]) (o:=i*3) e1.symm;have g3:(l.take i).flatMap aA++(D1++D2++D3)=(l.take i).flatMap aA++D1++(D2++D3):=by simp only [List.append_assoc]
   rw [g3,g2] at ml;have GJ:Ext w w3:=hw.own qX oz
   have j7:Sl w3 3 aA (if c=i then A else A.map (·.add (i*3))) (n-i) (l.drop i):=(hO.sl.drop i c (by omega) (by omega)).ext GJ
   replace hw:=GJ;refine Wz ?_;refine CW.any 8 mixed (dq (by kernel_rfl)) rfl fun w1 aa bm => ?_
   replace hw:=Ext.trans hw aa;replace ml:=ml.ext aa;replace j7:=j7.ext aa;clear aa;refine Wa ?_;refine SA.take 4 bm rfl (by kernel_rfl) (by kernel_rfl) rfl ?_;repeat ((refine SW.st (aP (k:=i+1) rfl rfl (by omega) (by omega)) rfl ?_))
   refine SW.ar ?_;refine Wa ?_;refine SA.take 7 bm rfl (by kernel_rfl) (by kernel_rfl) rfl ?_;repeat ((refine SW.st (aP (k:=i) rfl rfl (by omega) (by omega)) rfl ?_))
   refine SW.ar ?_;refine SA.done (by kernel_rfl) ?_;refine SW.copy (k:=n-i) ((i+1)*3) ((l.drop i).flatMap aA) ml rfl rfl rfl (by omega) e2 (by simp only [List.length_append,e1,e2,f2,mF];omega) (fun h0=>⟨by rw [if_neg (by omega)];simp [cn],(if c=i then A else A.map (·.add (i*3))).getD default,?_,fun j v hv=>cg (by omega) j7 j v hv⟩) (lZ _) fun w4 mG vD => ?_
   ·obtain ⟨a,ha⟩:=Option.isSome_iff_exists.1 (j7.base h0);rw [ha];rfl
   ·have g4:=eE ((l.take i).flatMap aA++aA x) D2 D3 ((l.drop i).flatMap aA) (by rw [e2,f2]) (o:=(i+1)*3) (by rw [List.length_append,e1,mF];omega);have g5:(l.take i).flatMap aA++aA x++(D2++D3)=(l.take i).flatMap aA++aA x++D2++D3:=by simp only [List.append_assoc]
    have g6:(l.take i).flatMap aA++aA x++(l.drop i).flatMap aA++D3=(aH l i x).flatMap aA++D3:=by unfold aH;simp only [List.flatMap_append,List.flatMap_cons,List.flatMap_nil,List.append_nil,List.append_assoc]
    rw [g5,g4,g6] at mG;have Bz:=Own.closed (n:=n+1) (c:=c2) (lo:=lo) (l:=aH l i x) (by unfold aH;simp;omega) mG (by omega) (by omega) (by omega) h5 (by omega);have dz:Ext w w4:=hw.own qX vD
    have e9:i+(n+1-i)=n+1:=by omega
    refine Wz ?_;rw [e9];exact ae.aI rfl rfl ⟨_,rfl,_,_,rfl,Bz,dz.gr _⟩
open Go.RowKit
theorem iR:Tryz.prog.underlying 236=some (.int .u64):=by kernel_rfl
theorem wrap_u64 {z:Int} (h0 : 0≤z) (h1:z≤9223372036854775807) : IntKind.u64.wrap z=z:=by
 simp [IntKind.wrap,IntKind.bits,IntKind.signed];omega
section
variable {P:Program} {L:Env} {w:World} {d:Option Nat} {T:TypeId} {pos:String} {af:Array Edge} {g:Option (Nat×Bool)}
theorem iS {ft tt:TypeId} {x:Operand} {k k':IntKind} {i:Int} (hf:P.underlying ft=some (.int k)) (ht:P.underlying tt=some (.int k')) (hx:bF L x=some (.int k i)) :
 St P ⟨d,.convert ft tt x,T,pos,af,g⟩ L w (.int k' (k'.wrap i)) :=
 ⟨fun n a ha w' _=>by
  have e1:=ha.eval hx;generalize a.eval = ρ at *
  simp [go_sem,e1,convert,run_underlying hf,run_underlying ht,Conv.intToInt]⟩
theorem rE {t ty:TypeId} {x y:Operand} {yk:IntKind} {i:Int} (hx:bF L x=some (.int .u64 i)) (hy:bF L y=some (.int yk 1)) :
 St P ⟨d,.binOp .shr t x y ty,T,pos,af,g⟩ L w (.int .u64 (i / 2)) :=
 ⟨fun n a ha w' _=>by
  have e1:=ha.eval hx;have e2:=ha.eval hy;generalize a.eval = ρ at *
  simp [go_sem,e1,e2]⟩
end
def bf (l:List Block) (a:Int) : Bool:=if h:aZ l a<l.length then decide ((l[aZ l a]).At=a) else false
theorem fy (A:Option Addr) (n c:Nat) (l:List Block) (a:Int) (w:World) (hl:Sl w 3 aA A n l) (f:FuncId) [Body Tryz.prog f] (hf:∀ x∈l,∀ w',Ext w w'→bl Tryz.prog f ([.agg (aA x).toArray,.int .i64 a]++[]) w' fun v _=>v = .int .i64 (x.At-a))
 (hu:l.Pairwise fun x y=>x.At<y.At) (hn:n≤1000000000000000000) : bl Tryz.prog 105 [.slice A n c,.int .i64 a,.func (.func f) #[] #[]] w fun v _=>v = .tuple #[.int .i64 (aZ l a:Int),.bool (bf l a)]:=by
 refine aD Tryz.func105 rfl Tryz.ntmps105 rfl ?_;have hw:=Ext.refl w;have hA:=hl.base;have nP:=hl.len;rw [List.pairwise_iff_getElem] at hu;refine Wz ?_
 refine CW.loop (fun s:Nat×Nat=>[(0,.slice A n c),(1,.int .i64 a),(2,.func (.func f) #[] #[]),(8,.int .i64 (n:Int)),(9,.int .i64 (s.1:Int)),(10,.int .i64 (s.2:Int))])
  (fun s w'=>s.1≤s.2∧s.2≤n∧Ext w w'∧(∀ (k:Nat) (h:k<l.length),k<s.1→l[k].At<a)∧(∀ (k:Nat) (h:k<l.length),s.2≤k→a≤l[k].At)) (fun s=>s.2-s.1) (0,n)
  ⟨rfl,rfl,rfl,rfl,rfl,rfl,trivial⟩ ⟨by omega,by omega,hw,fun k h h'=>by omega,fun k h h'=>by omega⟩ ?_
 clear hw;rintro ⟨i,j⟩ w' ⟨j1,mm,hw,hI,hJ⟩
 simp only at j1 mm hI hJ ⊢;by_cases dg:i<j
 ·have hk:(i+j) / 2<n:=by omega
  have eV:=hl.lt hk;have qD:=fun w1 h1=>hf (l[(i+j) / 2]) (List.getElem_mem eV) w1 h1
  repeat' (first|refine Wz ?_|refine SW.st (aN hw rfl rfl ((hl.all hk))) rfl ?_|(refine SW.st ((iS Tryz.underlying3 iR rfl).eq (congrArg (Value.int .u64) (wrap_u64 (by omega) (by omega)))) rfl ?_)|(refine SW.st ((iS iR Tryz.underlying3 rfl).eq (congrArg (Value.int .i64) (fi (by omega) (by omega)))) rfl ?_)|(refine SW.st (rE rfl rfl) rfl ?_))
  refine SW.oG (cap:=[]) rfl rfl rfl (qD _ hw) fun v w1 aa hv => ?_
  subst hv;replace hw:=Ext.trans hw aa;by_cases JL:l[(i+j) / 2].At<a
  ·refine Wz ?_;refine ae.again ((i+j) / 2+1,j) ⟨rfl,rfl,rfl,rfl,congrArg (fun z=>some (Value.int .i64 z)) (by omega),rfl,trivial⟩ (by simp only;omega) ⟨by simp only;omega,mm,hw,fun k h h' => ?_,hJ⟩;simp only at h';by_cases e:k=(i+j) / 2
   ·subst e;exact JL
   ·have:=hu k ((i+j) / 2) h eV (by omega)
    omega
  ·refine Wz ?_;refine ae.again (i,(i+j) / 2) ⟨rfl,rfl,rfl,rfl,rfl,congrArg (fun z=>some (Value.int .i64 z)) (by omega),trivial⟩ (by simp only;omega) ⟨by simp only;omega,by simp only;omega,hw,hI,fun k h h' => ?_⟩;simp only at h';by_cases e:k=(i+j) / 2
   ·subst e;omega
   ·have:=hu ((i+j) / 2) k eV h (by omega)
    omega
 ·obtain rfl:i=j:=by omega
  have sw:aZ l a=i:=AJ (by omega) hI (fun h=>hJ i h (by omega))
  by_cases gR:i<n
  ·have eV:=hl.lt gR;have qD:=fun w1 h1=>hf (l[i]) (List.getElem_mem eV) w1 h1
   have FJ:bf l a=decide (l[i].At=a):=by unfold bf;simp only [sw,eV,dif_pos]
   rw [sw,FJ];repeat' (first|refine Wz ?_|refine SW.st (aN hw rfl rfl ((hl.all gR))) rfl ?_)
   refine SW.oG (cap:=[]) rfl rfl rfl (qD _ hw) fun v w1 aa hv => ?_
   subst hv;replace hw:=Ext.trans hw aa;by_cases he:l[i].At=a
   ·refine Wz ?_;refine ae.dk rfl rfl rfl ⟨_,rfl,hw,?_⟩;rw [decide_eq_true he,decide_eq_true (by omega)]
   ·refine Wz ?_;refine ae.dk rfl rfl rfl ⟨_,rfl,hw,?_⟩;rw [decide_eq_false he,decide_eq_false (by omega)]
  ·have FJ:bf l a=false:=by unfold bf;rw [dif_neg (by omega)]
   rw [sw,FJ];refine Wz ?_;exact ae.dk rfl rfl rfl ⟨_,rfl,hw,rfl⟩
theorem HH {f t:Int} {l:List Block} (h:mE l) (hb:∀ b∈l,fv f t b) : l.Pairwise fun x y=>x.At<y.At:=by
 unfold mE at h;rw [List.pairwise_iff_getElem] at h ⊢;intro i j hi hj j1;have h1:=h i j hi hj j1;have hp:=hb _ (List.getElem_mem hi);have:=bM hp.1.1 hp.1.2.1
 omega
theorem vQ (x:Block) (a:Int) (w:World) (hx : -4000000000000000000≤x.At∧x.At≤4000000000000000000) (ha : -4000000000000000000≤a∧a≤4000000000000000000) : bl Tryz.prog 255 ([.agg (aA x).toArray,.int .i64 a]++[]) w fun v _=>v = .int .i64 (x.At-a):=by
 refine aD Tryz.func255 rfl Tryz.ntmps255 rfl ?_;refine CW.seq (CW.region (SW.box rfl rfl fun b1 w1 hw gX aB => ?_));refine Wz ?_;exact ae.aI rfl rfl ⟨_,rfl,hw,rfl⟩
theorem pS (r:bU) (l:List Block) (f t a:Int) (w:World) (hl:Sl w 3 aA r.ag.A r.ag.n l) (hu:mE l) (hb:∀ b∈l,fv f t b) (h0 : 0≤f) (ht:t≤256) (hn:r.ag.n≤1000000000000000000) (ha : -1000≤a∧a≤1000) :
 bl Tryz.prog 234 [.agg (bG r).toArray,.int .i64 a] w fun v _=>v = .tuple #[.int .i64 (aZ l a:Int),.bool (bf l a)]:=by
 refine aD Tryz.func234 rfl Tryz.ntmps234 rfl ?_;refine CW.seq (CW.region (SW.box rfl rfl fun b1 w1 hw gX aB => ?_))
 have cB:∀ w',Ext w w'→bl Tryz.prog 105 [.slice r.ag.A r.ag.n r.ag.c,.int .i64 a,.func (.func 255) #[] #[]] w' fun v _=>v = .tuple #[.int .i64 (aZ l a:Int),.bool (bf l a)]:=fun w' h =>
  fy _ _ _ _ _ _ (hl.ext h) _ (fun x hx w1 _=>vQ x a w1 (by have:=(hb x hx).1;unfold dK at this;omega) (by omega)) (HH hu hb) hn
 repeat' (first|refine Wz ?_|(refine SW.call rfl rfl (cB _ hw) ?_;intro v w1 aa hv;subst hv;replace hw:=Ext.trans hw aa;replace aB:=aB.ext aa;clear aa))
 exact ae.dk rfl rfl rfl ⟨_,rfl,hw,rfl⟩
open Go.RowKit
theorem BA (a o:Int) (b9:Nat) (x:Block) (w:World) (h9:aT w b9 165 (aA ⟨a,o,0⟩)) (ho : 0≤o∧o≤4) (ha : 0≤a∧a≤256) (hx : 0≤x.At∧x.At≤256) (hy : 0≤x.Order∧x.Order≤4) :
 bl Tryz.prog 233 ([.agg (aA x).toArray]++[.pointer (some ⟨b9,0,none⟩)]) w fun v _=>v = .bool (decide (x.At<a+pw o) && decide (a<x.At+pw x.Order)):=by
 refine aD Tryz.func233 rfl Tryz.ntmps233 rfl ?_;refine CW.seq (CW.region (SW.box rfl rfl fun b2 w1 hw jg aC => ?_));replace h9:=h9.ext hw;have c1:∀ w',bl Tryz.prog 230 [.agg (aA ⟨a,o,0⟩).toArray] w' fun v _=>v = .int .i64 (a+pw o):=fun w'=>kC ⟨a,o,0⟩ w' ho ha
 have c2:∀ w',bl Tryz.prog 230 [.agg (aA x).toArray] w' fun v _=>v = .int .i64 (x.At+pw x.Order):=fun w'=>kC x w' hy hx
 by_cases h1:x.At<a+pw o
 ·repeat' (first|refine Wz ?_|((apply CW.bg mixed;(· kernel_rfl);rotate_left;intro w1 aa;replace hw:=Ext.trans hw aa;replace aC:=aC.ext aa;replace h9:=h9.ext aa;clear aa;rotate_right))|refine SW.cI rfl rfl (fun w1 aa=>(c1 _)) ?_|refine SW.cI rfl rfl (fun w1 aa=>(c2 _)) ?_|exact SW.du rfl)
  exact ae.aI rfl rfl ⟨_,rfl,hw,by simp [h1]⟩
 ·repeat' (first|refine Wz ?_|((apply CW.bg mixed;(· kernel_rfl);rotate_left;intro w1 aa;replace hw:=Ext.trans hw aa;replace aC:=aC.ext aa;replace h9:=h9.ext aa;clear aa;rotate_right))|refine SW.cI rfl rfl (fun w1 aa=>(c1 _)) ?_|exact SW.du rfl)
  exact ae.aI rfl rfl ⟨_,rfl,hw,by simp [h1]⟩
theorem oO {z:ab} {a o:Int} (h:df z=false) : bV z a o=(8,.zero):=by simp [bV,h,ab.zero]
theorem rF {z:ab} {a o:Int} (h:df z=true) (hf : ¬ dK z.aw z.To a o) : bV z a o=(1,.zero):=by simp [bV,h,hf,ab.zero]
theorem vR {z:ab} {a o:Int} (h:df z=true) (hf:dK z.aw z.To a o) (ho:eK z.ag a o=true) : bV z a o=(5,.zero):=by simp [bV,h,hf,ho,ab.zero]
theorem j8 {z:ab} {a o:Int} (h:df z=true) (hf:dK z.aw z.To a o) (ho:eK z.ag a o=false) {l:List Block} {a' o':Int} (hj:dr 5 z.ag a o=(l,a',o')) {t:Int} (ht:z.Types.getD ((a'-z.aw) / 8).toNat 0=t) :
 bV z a o=(0,⟨z.aw,z.To,aH l (aZ l a') ⟨a',o',t⟩,z.Types⟩):=by simp [bV,h,hf,ho,hj,← ht]
theorem gu {z:ab} (h:aU z) : z.ag.length≤256∧z.Types.length≤32:=by
 have hu:=kE h;have iO:=h.ok;unfold cw at iO
 have key:∀ (i:Nat) (hi:i<z.ag.length),(i:Int)≤(z.ag[i]).At:=by
  intro i;induction i with
  | zero =>
    intro hi;have:=(h.cU 0 hi).1
    unfold dK at this;omega
  | succ i ih =>
    intro hi;have h1:=ih (by omega);have h2:=fI hu hi (Nat.lt_succ_self i);have h3:=(h.cU i (by omega)).1;have:=bM h3.1 h3.2.1
    omega
 refine ⟨?_,by have:=h.len;omega⟩;rcases Nat.eq_zero_or_pos z.ag.length with h0|h0
 ·omega
 ·have h1:=key (z.ag.length-1) (by omega);have h2:=(h.cU (z.ag.length-1) (by omega)).1;unfold dK at h2;omega
theorem iC (z:ab) (a o:Int) : (bV z a o).2.ag.length≤257∧(bV z a o).2.Types.length≤32∧((bV z a o).1=0→(bV z a o).2.aw=z.aw∧(bV z a o).2.To=z.To∧(bV z a o).2.Types=z.Types):=by
 cases hq:df z
 ·rw [oO hq];simp [ab.zero]
 ·have hz:=dc.1 hq;have hl:=gu hz;by_cases hf:dK z.aw z.To a o
  ·cases ho:eK z.ag a o
   ·have hJ:=oN (f:=0) (t:=0) hz hf ho;have hj:=ss (by have:=hz.ok;unfold cw at this;omega) 5 hJ;obtain ⟨⟨l,a',o'⟩,uG⟩ : ∃ u,dr 5 z.ag a o=u:=⟨_,rfl⟩;rw [uG] at hj;rw [j8 hq hf ho uG rfl];have h3:=hj.2;simp only [aH,List.length_append,List.length_take,List.length_drop,List.length_singleton] at h3 ⊢;exact ⟨by omega,hl.2,fun _=>by simp⟩
   ·rw [vR hq hf ho];simp [ab.zero]
  ·rw [rF hq hf];simp [ab.zero]
noncomputable def oP:Nat→ab→Int→Int×ab
 | 0,z,_=>(0,z)
 | k+1,z,p=>if (bV z p 0).1=0 then oP k (bV z p 0).2 (p+1) else ((bV z p 0).1,.zero)
def iT (z:ab) (f s:Int) : Prop:=0≤s∧z.aw≤f∧f≤z.To∧s≤z.To-f
instance (z:ab) (f s:Int) : Decidable (iT z f s):=inferInstanceAs (Decidable (_∧_))
noncomputable def kG (z:ab) (f s:Int) : Int×ab:=if df z then (if iT z f s then oP s.toNat z f else (1,.zero)) else (8,.zero)
theorem AO {z:ab} {f s:Int} (h:df z=false) : kG z f s=(8,.zero):=by simp [kG,h]
theorem AP {z:ab} {f s:Int} (h:df z=true) (ha : ¬ iT z f s) : kG z f s=(1,.zero):=by simp [kG,h,ha]
theorem AQ {z:ab} {f:Int} {k:Nat} (h:df z=true) (ha:iT z f (k:Int)) : kG z f (k:Int)=oP k z f:=by simp [kG,h,ha]
end Go.Proofs.YtbidkghlpijecaaGreatDoor
