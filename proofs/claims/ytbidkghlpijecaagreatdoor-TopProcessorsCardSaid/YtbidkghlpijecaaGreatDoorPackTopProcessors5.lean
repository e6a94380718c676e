/-
  Texts of the claim TopProcessors, part 5: what its theorem leans on.
-/
import Derived.Test.YtbidkghlpijecaaGreatDoorPackTopProcessors4
import Derived.Lib.AppendZerosOnto
import Derived.Lib.Overlaps
import Derived.Room.Entries
import Derived.Test.YtbidkghlpijecaaGreatDoorPackTopProcessors3
import Derived.Test.YtbidkghlpijecaaGreatDoorPackTopProcessors2
set_option linter.unusedVariables false
set_option linter.unusedSimpArgs false
namespace Go.Proofs.YtbidkghlpijecaaGreatDoor
open Go.RowKit
def lay (ij:List Value) (o:Nat) (cs:List Value) : List Value:=ij.take o++cs++ij.drop (o+cs.length)
theorem DW (ij:List Value) (o:Nat) : lay ij o []=ij:=by simp [lay]
theorem dS (X Y Z cs:List Value) (h:cs.length=Y.length) {o:Nat} (ho:o=X.length) : lay (X++Y++Z) o cs=X++cs++Z:=by
 subst ho;unfold lay;rw [List.append_assoc X Y Z,List.take_left,h];congr 1
 rw [← List.append_assoc,List.drop_append];have e:List.drop (X.length+Y.length) (X++Y)=[]:=List.drop_eq_nil_of_le (by simp)
 rw [e];simp
theorem Own.opened {α:Type} {w:World} {lo:Nat} {e:TypeId} {sz:Nat} {enc : α → List Value} [E:fP enc sz] {A:Option Addr} {n c:Nat} {l:List α} (h:Own w lo e sz enc A n c l) (hc : 0<c) :
 ∃ g rest,A=some ⟨g,0,none⟩∧lo≤g∧aW w g e (l.flatMap enc++rest)∧n*sz+rest.length=c*sz∧n≤c∧c≤maxLen∧aM A c=some g:=by
 rcases h.row with ⟨_,h0⟩|⟨_,g,ij,rfl,h1,h2,h3,h4,h5,h6⟩
 ·omega
 ·refine ⟨g,ij.toList.drop (n*sz),rfl,h1,?_,?_,h3,h4,by simp [aM,Nat.pos_iff_ne_zero.1 hc]⟩
  ·unfold aW;rw [← h6,List.take_append_drop];simpa using h2
  ·have:n*sz≤c*sz:=Nat.mul_le_mul_right _ h3
   simp;omega
theorem Own.closed {α:Type} {w:World} {lo:Nat} {e:TypeId} {sz:Nat} {enc : α → List Value} [E:fP enc sz] {n c g:Nat} {l:List α} {rest:List Value} (hl:l.length=n) (hB:aW w g e (l.flatMap enc++rest)) (hr:n*sz+rest.length=c*sz) (hn:n≤c) (hc : 0<c) (hm:c≤maxLen) (gB:lo≤g) :
 Own w lo e sz enc (some ⟨g,0,none⟩) n c l:=by
 have m8:(l.flatMap enc).length=n*sz:=by rw [aQ,hl]
 refine ⟨hl,.inr ⟨hc,g,_,rfl,gB,hB,hn,hm,?_,?_⟩⟩
 ·simp [m8];omega
 ·rw [← m8];simp
theorem Own.pre {α:Type} {w:World} {lo:Nat} {e:TypeId} {sz:Nat} {enc : α → List Value} [E:fP enc sz] {A:Option Addr} {n c:Nat} {l:List α} (h:Own w lo e sz enc A n c l) {i:Nat} (hi:i≤n) : Own w lo e sz enc A i c (l.take i):=by
 rcases Nat.eq_zero_or_pos c with hc|hc
 ·have h1:=h.le.1;have:n=0:=by omega
  subst hc this;obtain rfl:i=0:=by omega
  simpa using Own.gz w lo e sz enc A
 ·obtain ⟨g,rest,rfl,h1,h2,h3,h4,h5,_⟩:=h.opened hc;refine Own.closed (rest:=(l.drop i).flatMap enc++rest) (by simp [h.len];omega) ?_ ?_ (by omega) hc h5 h1
  ·rw [← List.append_assoc,← List.flatMap_append,List.take_append_drop];exact h2
  ·have e1:((l.drop i).flatMap enc).length=(n-i)*sz:=by rw [aQ];simp [h.len]
   have e2:i+(n-i)=n:=by omega
   rw [List.length_append,e1,← h3,← Nat.add_assoc,← Nat.add_mul,e2]
theorem Sl.drop {α:Type} {w:World} {sz:Nat} {enc : α → List Value} {A:Option Addr} {n:Nat} {l:List α} (h:Sl w sz enc A n l) (i c:Nat) (hi:i≤n) (hc:n≤c) : Sl w sz enc (if c=i then A else A.map (·.add (i*sz))) (n-i) (l.drop i):=by
 refine ⟨by simp [h.len],fun hn => ?_,fun j hj k u hu => ?_⟩
 ·have:=h.base (by omega)
  split
  ·exact this
  ·simpa using this
 ·simp at hj;have hl:=h.len;rw [if_neg (by omega)];have hb:=h.base (by omega);obtain ⟨a,rfl⟩:=Option.isSome_iff_exists.1 hb;have tw:=h.cell (i+j) (by omega) k u (by simpa using hu);simp only [Option.getD_some,Option.map_some,add_add] at tw ⊢;rw [← tw];congr 2
  rw [Nat.add_mul]
theorem Sl.pre {α:Type} {w:World} {sz:Nat} {enc : α → List Value} {A:Option Addr} {n:Nat} {l:List α} (h:Sl w sz enc A n l) {i:Nat} (hi:i≤n) : Sl w sz enc A i (l.take i):=by
 refine ⟨by simp [h.len];omega,fun hn=>h.base (by omega),fun j hj k u hu => ?_⟩;simp at hj;exact h.cell j (by omega) k u (by simpa using hu)
section
variable {P:Program} {w:World}
theorem fq {g:Nat} {e:TypeId} {ij cs:List Value} (h:aW w g e ij) : aW (w.setRow g cs.toArray) g e cs∧w.grownBy (w.setRow g cs.toArray) (some g) :=
 ⟨setRow_heap w g _ _ e (0,0) h,⟨rfl,rfl,rfl,by simp,fun j _ hj=>by
  show (w.setRow g _).heap[j]?=_
  simp only [World.setRow,Array.getElem?_modify];rw [if_neg (fun e=>hj (by simp [e]))]⟩⟩
theorem zb {t e:TypeId} {z:Value} {sz bytes:Nat} [S:bj P t e sz] [T:dj P e z sz bytes] (ty:TypeId) {A X:Option Addr} {n c m c2 k g o:Nat} {ij cs:List Value} (hk:min m n=k) (hlen:cs.length=k*sz) (hB:aW w g e ij) (mn:o+cs.length≤ij.length)
 (ju : 0<k→A=some ⟨g,o,none⟩ ∧ ∃ ad,X=some ad ∧ ∀ j v,cs[j]?=some v→w.cell? (ad.add j)=some v) (h1:∀ v∈cs,v.oneCell'=true) :
 ∃ w',(Builtin.copy_ #[t,t] ty #[.slice A n c,.slice X m c2]).run P w = .ok (.int .i64 (k:Int)) w'∧aW w' g e (lay ij o cs)∧w.grownBy w' (some g):=by
 obtain ⟨i,hi,hz,hs,xb⟩:=dQ P e (z:=z) (sz:=sz) (bytes:=bytes);have Nx:Nat.min m n=k:=hk
 by_cases h0:k=0
 ·have m7:cs=[]:=List.eq_nil_of_length_eq_zero (by rw [hlen,h0];simp)
  subst m7;refine ⟨w,?_,by rw [DW];exact hB,World.grownBy.refl _ _⟩;cases A<;>cases X<;>simp [Builtin.copy_,run_underlying S.mB,Builtin.lenOf,Builtin.firstCells,sizeOf,typeInfo,hi,Nx,h0,loadCells,loadCellsFrom,storeCells,goInt]
 ·obtain ⟨rfl,ad,rfl,kK⟩:=ju (by omega);have hl:=run_loadCells_list (P:=P) w ad cs kK;have xc:=run_storeCells_at P g o e cs 0 ij.toArray w hB (by simpa using mn) h1;have e1:(ij.toArray.toList.take (o+0)++cs++ij.toArray.toList.drop (o+0+cs.length))=lay ij o cs:=by simp [lay]
  rw [e1] at xc;rw [hlen] at hl;refine ⟨_,?_,(fq hB).1,(fq hB).2⟩;simp [Builtin.copy_,run_underlying S.mB,Builtin.lenOf,Builtin.firstCells,sizeOf,typeInfo,hi,hs,Nx,hl,xc,goInt]
theorem xm {t e:TypeId} {z:Value} {sz bytes:Nat} [S:bj P t e sz] [T:dj P e z sz bytes] (ty:TypeId) {A:Option Addr} {n c g o:Nat} {ij:List Value} (hB:aW w g e ij) (mn:o+n*sz≤ij.length) (ju : 0<n→A=some ⟨g,o,none⟩) (Jb:∀ v∈z.cells.toList,v.oneCell'=true) :
 ∃ w' cs,(Builtin.clear_ #[t] ty #[.slice A n c]).run P w = .ok (.tuple #[]) w'∧cs.length=n*sz∧aW w' g e (lay ij o cs)∧w.grownBy w' (some g):=by
 obtain ⟨i,hi,hz,hs,xb⟩:=dQ P e (z:=z) (sz:=sz) (bytes:=bytes);by_cases h0:n=0
 ·subst h0;refine ⟨w,[],?_,by simp,by rw [DW];exact hB,World.grownBy.refl _ _⟩;cases A<;>simp [Builtin.clear_,run_underlying S.mB]
 ·obtain rfl:=ju (by omega);obtain ⟨k,rfl⟩ : ∃ k,n=k+1:=⟨n-1,by omega⟩;have hlen:(Builtin.zeroCells z.cells (k+1)).toList.length=(k+1)*sz:=by simp [Go.size_zeroCells,T.zc]
  have h1:∀ v∈(Builtin.zeroCells z.cells (k+1)).toList,v.oneCell'=true:=by
   intro v hv;simp only [Builtin.zeroCells,Array.toList_map,Array.toList_range,List.mem_map] at hv;obtain ⟨j,hj,rfl⟩:=hv;have hp:=T.pos;have:j % z.cells.size<z.cells.size:=Nat.mod_lt _ (by rw [T.zc];exact hp)
   rw [getElem!_pos z.cells _ this];exact Jb _ (Array.getElem_mem_toList _)
  have xc:=run_storeCells_at P g o e (Builtin.zeroCells z.cells (k+1)).toList 0 ij.toArray w hB (by rw [hlen];simpa using mn) h1;have e1:(ij.toArray.toList.take (o+0)++(Builtin.zeroCells z.cells (k+1)).toList++ij.toArray.toList.drop (o+0+(Builtin.zeroCells z.cells (k+1)).toList.length))=lay ij o (Builtin.zeroCells z.cells (k+1)).toList:=by simp [lay]
  rw [e1] at xc;refine ⟨_,_,?_,hlen,(fq hB).1,(fq hB).2⟩;simp [Builtin.clear_,run_underlying S.mB,zeroValue,typeInfo,hi,hz,xc]
end
section
variable {P:Program} {n:Nat} {ops:Array Oper} {Q:Exit→Act→World→Prop} {rest:List Oper} {L:Env} {w:World} {d:Option Nat} {T:TypeId} {pos:String} {af:Array Edge} {g:Option (Nat×Bool)}
theorem SW.copy {d:Nat} {t e:TypeId} {z:Value} {sz bytes:Nat} [S:bj P t e sz] [E:dj P e z sz bytes] {x y:Operand} {A X:Option Addr} {m c m2 c2 k g:Nat} (o:Nat) {ij:List Value} (cs:List Value) (hB:aW w g e ij) (hx:cg L x=some (.slice A m c)) (hy:cg L y=some (.slice X m2 c2)) (hn:Nat.blt d n=true)
 (hk:min m2 m=k) (hlen:cs.length=k*sz) (mn:o+cs.length≤ij.length) (ju : 0<k→A=some ⟨g,o,none⟩ ∧ ∃ ad,X=some ad ∧ ∀ j v,cs[j]?=some v→w.cell? (ad.add j)=some v) (h1:∀ v∈cs,v.oneCell'=true)
 (h:∀ w',aW w' g e (lay ij o cs)→w.grownBy w' (some g)→SW P n ops (.gw Q) rest ((d,.int .i64 (k:Int))::L) w') :
 SW P n ops (.gw Q) (⟨some d,.call ⟨.builtin .copy,#[x,y],#[t,t]⟩,T,pos,af,none⟩::rest) L w :=
 ⟨fun a ha=>by
  obtain ⟨w',hr,h2,h3⟩:=zb (P:=P) (t:=t) T (c:=c) (c2:=c2) hk hlen hB mn ju h1;simp only [swp,wpList,Region.wanted,if_true];refine .inl ?_;unfold Oper.wp
  have:(execOp a.eval ⟨some d,.call ⟨.builtin .copy,#[x,y],#[t,t]⟩,T,pos,af,none⟩).run P w = .ok (.value (.int .i64 (k:Int))) w':=by
   simp [execOp,resolve,invoke,builtin,ha.eval hx,ha.eval hy,hr]
  rw [this,Oper.upon_value];exact (h w' h2 h3).out _ (ha.put hn _)⟩
theorem SW.clear {t e:TypeId} {z:Value} {sz bytes:Nat} [S:bj P t e sz] [E:dj P e z sz bytes] {x:Operand} {A:Option Addr} {m c g:Nat} (o:Nat) {ij:List Value} (hB:aW w g e ij) (hx:cg L x=some (.slice A m c)) (mn:o+m*sz≤ij.length) (ju : 0<m→A=some ⟨g,o,none⟩) (Jb:∀ v∈z.cells.toList,v.oneCell'=true)
 (h:∀ w' cs,cs.length=m*sz→aW w' g e (lay ij o cs)→w.grownBy w' (some g)→SW P n ops (.gw Q) rest L w') :
 SW P n ops (.gw Q) (⟨none,.call ⟨.builtin .clear,#[x],#[t]⟩,T,pos,af,none⟩::rest) L w :=
 ⟨fun a ha=>by
  obtain ⟨w',cs,hr,h1,h2,h3⟩:=xm (P:=P) (t:=t) T (c:=c) hB mn ju Jb;simp only [swp,wpList,Region.wanted,if_true];refine .inl ?_;unfold Oper.wp
  have:(execOp a.eval ⟨none,.call ⟨.builtin .clear,#[x],#[t]⟩,T,pos,af,none⟩).run P w = .ok (.value (.tuple #[])) w':=by
   simp [execOp,resolve,invoke,builtin,ha.eval hx,hr]
  rw [this,Oper.upon_value];exact (h w' cs h1 h2 h3).out _ (ha.Gm _)⟩
theorem qt {t e:TypeId} {sz:Nat} [c:bj P t e sz] {x y u:Operand} {A:Option Addr} {m cap i j:Nat} (hx:cg L x=some (.slice A m cap)) (hy:cg L y=some (.int .i64 (i:Int))) (hu:cg L u=some (.int .i64 (j:Int))) (hi:i≤j) (hj:j≤cap) :
 St P ⟨d,.slice t x (some y) (some u) none,T,pos,af,g⟩ L w (.slice (if cap=i then A else A.map (·.add (i*sz))) (j-i) (cap-i)) :=
 ⟨fun _ a ha w' _=>by
  have e1:=ha.eval hx;have e2:=ha.eval hy;have e3:=ha.eval hu;generalize a.eval = ρ at *
  simp [execOp,e1,e2,e3,Instr.sliceAt,Instr.slice,Instr.sliceBounds,Instr.sliceBound,asIntOf,run_underlying c.mB,run_sizeOf c.size,hi,hj]⟩
theorem so {t e:TypeId} {sz:Nat} [c:bj P t e sz] {x y u v:Operand} {A:Option Addr} {m cap i j k:Nat} (hx:cg L x=some (.slice A m cap)) (hy:cg L y=some (.int .i64 (i:Int))) (hu:cg L u=some (.int .i64 (j:Int))) (hv:cg L v=some (.int .i64 (k:Int))) (hi:i≤j) (hj:j≤k) (hk:k≤cap) :
 St P ⟨d,.slice t x (some y) (some u) (some v),T,pos,af,g⟩ L w (.slice (if k=i then A else A.map (·.add (i*sz))) (j-i) (k-i)) :=
 ⟨fun _ a ha w' _=>by
  have e1:=ha.eval hx;have e2:=ha.eval hy;have e3:=ha.eval hu;have e4:=ha.eval hv;generalize a.eval = ρ at *
  simp [execOp,e1,e2,e3,e4,Instr.sliceAt,Instr.slice,Instr.sliceBounds,Instr.sliceBound,asIntOf,run_underlying c.mB,run_sizeOf c.size,hi,hj,hk]⟩
end
section
variable {P:Program} {n:Nat} {ops:Array Oper} {Q:Exit→Act→World→Prop} {rest:List Oper} {L:Env} {w:World}
structure jw (P:Program) (f:FuncId) (args:List Value) (w:World) (R:Value→World→Prop) : Prop where
 out:Calls P f args.toArray w fun e w' => ∃ v,e = .returned v∧R v w'
theorem SW.dt {d:Nat} {f:FuncId} {xs:List Operand} {vs:List Value} {ts:Array TypeId} {T:TypeId} {pos:String} {af:Array Edge} {R:Value→World→Prop}
 [Body P f] (hx:sc L xs=some vs) (hn:Nat.blt d n=true) (hc:jw P f vs w R) (h:∀ v w',R v w'→SW P n ops (.gw Q) rest ((d,v)::L) w') :
 SW P n ops (.gw Q) (⟨some d,.call ⟨.value (.func f),xs.toArray,ts⟩,T,pos,af,none⟩::rest) L w :=
 ⟨fun a ha=>by
  simp only [swp,wpList,Region.wanted,if_true];refine .inl ?_;unfold Oper.wp;rw [u9,Oper.upon_enter,ha.qQ hx];refine Calls.mono hc.out ?_;rintro e w' ⟨v,rfl,hv⟩
  exact (h v w' hv).out _ (ha.put hn v)⟩
theorem dM {fn:Func} {f:FuncId} {c:Code} {args:List Value} {R:Value→World→Prop} (hf:P.funcs[f]?=some fn) (hb:fn.body=some c) (hn:fn.ntmps=n) (hl:Nat.ble args.length n=true)
 (h:CW P n c (bodyPost P fn fun e w' => ∃ v,e = .returned v∧R v w') (pn 0 args) w) : jw P f args w R:=by
 have IN:args.length≤n:=by simpa using hl
 refine ⟨calls_of_wp hf hb (h.out _ ⟨?_,rfl,?_⟩)⟩
 ·simp [hn];omega
 ·intro i v hi;obtain ⟨_,h2⟩:=oy args 0 i v hi;simp only [Nat.sub_zero] at h2
  have dL:i<args.length:=by
   rcases Nat.lt_or_ge i args.length with h|h
   ·exact h
   ·rw [List.getElem?_eq_none h] at h2;cases h2
  rw [Array.getD_eq_getD_getElem?,Array.getElem?_append_left (by simpa using dL)];simp [h2]
theorem SW.entry {d:Nat} {f:FuncId} {fn:Func} {e:Array Value→Sem Value} {xs:List Operand} {vs:List Value} {v:Value} {ts:Array TypeId} {T:TypeId} {pos:String} {af:Array Edge}
 (hf : P.funcs[f]? = some fn) (Ny : (fn.name == "runtime.NumGoroutine") = false) (hb : fn.body.isNone = true) (Gx : Extern.findNext fn = none) (he : Extern.find fn = some e) (hx : sc L xs = some vs) (hn : Nat.blt d n = true)
 (hr:(e vs.toArray).run P w = .ok v w) (h:SW P n ops (.gw Q) rest ((d,v)::L) w) :
 SW P n ops (.gw Q) (⟨some d,.call ⟨.value (.func f),xs.toArray,ts⟩,T,pos,af,none⟩::rest) L w :=
 ⟨fun a ha=>by
  simp only [swp,wpList,Region.wanted,if_true];refine .inl ?_;unfold Oper.wp;have h1:=run_callFunc_extern (P:=P) hf Ny hb Gx he vs.toArray w
  have:(execOp a.eval ⟨some d,.call ⟨.value (.func f),xs.toArray,ts⟩,T,pos,af,none⟩).run P w = .ok (.value v) w:=by
   have e2:=ha.qQ hx;simp only [execOp,resolve,Deferred.ofValue,Act.eval,Sem.run_bind,Result.andThen,invoke,List.map_toArray,e2];rw [hr] at h1;simpa [Result.andThen] using h1
  rw [this,Oper.upon_value];exact h.out _ (ha.put hn v)⟩
end
theorem Ext.gr {w w':World} (h:Ext w w') (row:Option Nat) : w.grownBy w' row:=⟨h.os,h.tape,h.output,h.size,fun k hk _=>h.block k hk⟩
theorem bH {w w1 w2:World} {row Lv:Option Nat} (h:w.grownBy w1 row) (k:w1.grownBy w2 Lv) (hr:Lv=row ∨ ∀ i,Lv=some i→w.heap.size≤i) : w.grownBy w2 row :=
 ⟨k.os.trans h.os,k.tape.trans h.tape,k.output.trans h.output,Nat.le_trans h.size k.size,fun i hi bW=>by
  have r6:i<w1.heap.size:=Nat.lt_of_lt_of_le hi h.size
  rcases hr with e|e
  ·subst e;rw [k.block i r6 bW,h.block i hi bW]
  ·rw [k.block i r6 (fun e'=>by have:=e i e'.symm;omega),h.block i hi bW]⟩
theorem SW.vx {α:Type} {P:Program} {n:Nat} {ops:Array Oper} {Q:Exit→Act→World→Prop} {rest:List Oper} {L:Env} {w:World} {dd:Nat} {T:TypeId} {pos:String} {af:Array Edge}
 {lo:Nat} {t e:TypeId} {z:Value} {sz bytes:Nat} {enc : α → List Value} {A X:Option Addr} {k c m c2:Nat} {l ys:List α} [S:bj P t e sz] [T':dj P e z sz bytes] [E:fP enc sz] {x y:Operand}
 (hO:Own w lo e sz enc A k c l) (hS:Sl w sz enc X m ys) (jI:k+m≤c) (hx:cg L x=some (.slice A k c)) (hy:cg L y=some (.slice X m c2)) (hn:Nat.blt dd n=true)
 (h:∀ w',Own w' lo e sz enc A (k+m) c (l++ys)→w.grownBy w' (aM A c)→SW P n ops (.gw Q) rest ((dd,.slice A (k+m) c)::L) w') :
 SW P n ops (.gw Q) (⟨some dd,.call ⟨.builtin .append,#[x,y],#[t,t]⟩,T,pos,af,none⟩::rest) L w :=
 ⟨fun a ha=>by
  obtain ⟨i,hi,hz,hs,xb⟩:=dQ P e (z:=z) (sz:=sz) (bytes:=bytes);have Gd:(ys.flatMap enc).length=m*sz:=by rw [aQ,hS.len]
  have ml:∀ u∈ys.flatMap enc,u.oneCell'=true:=fun u hu=>by
   obtain ⟨x,_,hx⟩:=List.mem_flatMap.1 hu;exact E.one x u hx
  have key:∃ w',(Builtin.append_ #[t,t] T #[.slice A k c,.slice X m c2]).run P w = .ok (.slice A (k+m) c) w'∧Own w' lo e sz enc A (k+m) c (l++ys)∧w.grownBy w' (aM A c):=by
   by_cases DP:m=0
   ·subst DP;have S9:ys=[]:=List.eq_nil_of_length_eq_zero hS.len
    subst S9;refine ⟨w,?_,by simpa using hO,World.grownBy.refl _ _⟩;have Aw:k≤c:=by omega
    cases A<;>cases X<;>simp [Builtin.append_,run_underlying S.mB,sizeOf,typeInfo,hi,Builtin.lenOf,Aw,Builtin.firstCells,loadCells,loadCellsFrom,storeCells]
   ·obtain ⟨ad,rfl⟩:=Option.isSome_iff_exists.1 (hS.base (by omega));have qS:=de T'.pos hS;obtain ⟨g,rest,rfl,h1,h2,h3,h4,h5,h6⟩:=hO.opened (by omega);have mn:(k+m)*sz≤c*sz:=Nat.mul_le_mul_right _ jI
    have m8:(l.flatMap enc).length=k*sz:=by rw [aQ,hO.len]
    rw [Nat.add_mul] at mn;have hr:=run_append_room (P:=P) w t T e i S.mB hi g k c (l.flatMap enc++rest).toArray h2 ad m c2 (ys.flatMap enc) (by rw [hs];exact Gd) qS ml jI (by rw [hs,Gd];simp [m8];omega)
    have e1:(l.flatMap enc++rest).toArray.toList.take (k*i.size)++ys.flatMap enc++(l.flatMap enc++rest).toArray.toList.drop (k*i.size+(ys.flatMap enc).length)=(l++ys).flatMap enc++rest.drop (m*sz):=by
     rw [hs];have h7:=dS (l.flatMap enc) (rest.take (m*sz)) (rest.drop (m*sz)) (ys.flatMap enc) (by rw [Gd];simp;omega) (o:=k*sz) m8.symm;rw [List.append_assoc (l.flatMap enc),List.take_append_drop] at h7;rw [List.flatMap_append];exact h7
    rw [e1] at hr;refine ⟨_,hr,?_,?_⟩
    ·exact Own.closed (by rw [List.length_append,hO.len,hS.len]) (fq h2).1 (by rw [Nat.add_mul];simp;omega) jI (by omega) h5 h1
    ·rw [h6];exact (fq h2).2
  obtain ⟨w',hr,h1,h2⟩:=key;simp only [swp,wpList,Region.wanted,if_true];refine .inl ?_;unfold Oper.wp
  have:(execOp a.eval ⟨some dd,.call ⟨.builtin .append,#[x,y],#[t,t]⟩,T,pos,af,none⟩).run P w = .ok (.value (.slice A (k+m) c)) w':=by
   simp [execOp,resolve,invoke,builtin,ha.eval hx,ha.eval hy,hr]
  rw [this,Oper.upon_value];exact (h w' h1 h2).out _ (ha.put hn _)⟩
theorem SW.uA {α:Type} {P:Program} {n:Nat} {ops:Array Oper} {Q:Exit→Act→World→Prop} {rest:List Oper} {L:Env} {w:World} {d:Nat} {T:TypeId} {pos:String} {af:Array Edge}
 {t tn e:TypeId} {z:Value} {sz bytes:Nat} {enc : α → List Value} {A:Option Addr} {m c k:Nat} {l:List α} {lk:IntKind} [S:bj P t e sz] [T':dj P e z sz bytes] [E:fP enc sz] {x y:Operand}
 {j:Int} (hS:Sl w sz enc A m l) (Ta:P.underlying tn=some (.int lk)) (hx:cg L x=some (.slice A m c)) (hy:cg L y=some (.int .i64 j)) (hj:j=(k:Int)) (hn:Nat.blt d n=true) (hk : 0<k) (jI:c<m+k) (hb:(m+k)*bytes≤140737488355328) (hm:m+k≤9223372036854775807)
 (h:∀ g Kk c' w',Ext w w'→w.heap.size≤g→aW w' g e (l.flatMap enc++Kk)→m*sz+Kk.length=c'*sz→m+k≤c'→c'≤maxLen→SW P n ops (.gw Q) rest ((d,.slice (some ⟨g,0,none⟩) (m+k) c')::L) w') :
 SW P n ops (.gw Q) (⟨some d,.call ⟨.builtin .append,#[x,y],#[t,tn]⟩,T,pos,af,none⟩::rest) L w :=
 ⟨fun a ha=>by
  subst hj;obtain ⟨i,hi,hz,hs,xb⟩:=dQ P e (z:=z) (sz:=sz) (bytes:=bytes);have hp:=T'.pos;have Lw:=de hp hS;have hlen:(l.flatMap enc).length=m*sz:=by rw [aQ,hS.len]
  have hold:(Builtin.firstCells i.size m (.slice A m c)).run P w.drew = .ok (l.flatMap enc).toArray w.drew:=by
   rw [hs];cases A with
   | none =>
     have h0:m=0:=by
      rcases Nat.eq_zero_or_pos m with h0|h0
      ·exact h0
      ·have:=hS.base h0;simp at this
     subst h0;have:l=[]:=List.eq_nil_of_length_eq_zero hS.len
     subst this;simp [Builtin.firstCells]
   | some ad =>
     simp only [Builtin.firstCells];rw [← hlen];exact run_loadCells_list (P:=P) w.drew ad _ (fun j v hv=>Lw j v hv)
  have Jc:=Room.nextslicecap_le' jI
  have mn:Builtin.nextslicecap (m+k) c*i.bytes≤281474976710656:=by
   rw [xb]
   calc Builtin.nextslicecap (m+k) c*bytes≤2*(m+k)*bytes:=Nat.mul_le_mul_right _ Jc
    _≤281474976710656:=by rw [Nat.mul_assoc];omega
  have Tb:k*i.bytes≤281474976710656:=by
   rw [xb];have:k*bytes≤(m+k)*bytes:=Nat.mul_le_mul_right _ (by omega)
   omega
  have hr:=Lib.run_append_grow_zeros (P:=P) w t tn T e i z .i64 lk S.mB Ta hi hz A m c _ hold k hk (by rw [hs];exact hp) jI (by omega) Tb mn;simp only [swp,wpList,Region.wanted,if_true];refine .inl ?_;unfold Oper.wp
  have:(execOp a.eval ⟨some d,.call ⟨.builtin .append,#[x,y],#[t,tn]⟩,T,pos,af,none⟩).run P w = .ok (.value (.slice (some ⟨w.heap.size,0,none⟩) (m+k) (grownCap w (m+k) c e))) (w.drew.alloc (.cells ((l.flatMap enc).toArray++Builtin.zeroCells z.cells k++Builtin.zeroCells z.cells (grownCap w (m+k) c e-(m+k))) e)):=by
   simp [execOp,resolve,invoke,builtin,ha.eval hx,ha.eval hy,hr]
  rw [this,Oper.upon_value];have hg:=grownCap_ge w (m+k) c e;refine (h w.heap.size ((Builtin.zeroCells z.cells k).toList++(Builtin.zeroCells z.cells (grownCap w (m+k) c e-(m+k))).toList) _ _ (Ext.trans (Ext.drew w) (Ext.alloc _ _)) (Nat.le_refl _) ?_ ?_ hg (grownCap_le_maxLen w _ _ _ (by simp only [maxLen];omega))).out _ (ha.put hn _)
  ·have:=aW.new w.drew e (l.flatMap enc++((Builtin.zeroCells z.cells k).toList++(Builtin.zeroCells z.cells (grownCap w (m+k) c e-(m+k))).toList))
   have e1:(l.flatMap enc++((Builtin.zeroCells z.cells k).toList++(Builtin.zeroCells z.cells (grownCap w (m+k) c e-(m+k))).toList)).toArray=(l.flatMap enc).toArray++Builtin.zeroCells z.cells k++Builtin.zeroCells z.cells (grownCap w (m+k) c e-(m+k)):=by
    apply Array.ext';simp
   rw [e1] at this;exact this
  ·simp only [List.length_append,Array.length_toList,Go.size_zeroCells,T'.zc];rw [← Nat.add_mul,← Nat.add_mul];congr 1;omega⟩
open Go.RowKit
def r7 (w w':World) (t:TypeId) : Prop := ∃ row,w.grownBy w' row ∧ ∀ k,row=some k → ∃ cs,w.heap[k]?=some (.cells cs t (0,0))
theorem Own.gr {α:Type} {w w':World} {lo:Nat} {e:TypeId} {sz:Nat} {enc : α → List Value} {A:Option Addr} {n c:Nat} {l:List α} (h:Own w lo e sz enc A n c l) (hg:w.grownBy w' (aM A c)) : r7 w w' e:=by
 refine ⟨_,hg,fun k hk => ?_⟩;rcases h.row with ⟨_,rfl⟩|⟨hc,g,ij,rfl,_,h2,_⟩
 ·simp [aM] at hk
 ·simp [aM,Nat.pos_iff_ne_zero.1 hc] at hk;subst hk;exact ⟨ij,h2⟩
theorem aW.gr {w w':World} {b:Nat} {t:TypeId} {cs:List Value} (h:aW w b t cs) (hg:w.grownBy w' (some b)) : r7 w w' t:=⟨_,hg,fun k hk=>by cases hk;exact ⟨_,h⟩⟩
theorem Own.aw {α:Type} {w w':World} {t lo:Nat} {e:TypeId} {sz:Nat} {enc : α → List Value} {A:Option Addr} {n c:Nat} {l:List α} (h:Own w lo e sz enc A n c l) (hG:r7 w w' t) (bW:Nat.beq t e=false) : Own w' lo e sz enc A n c l:=by
 obtain ⟨row,hg,hr⟩:=hG;refine h.grown hg ?_;rcases h.row with ⟨_,rfl⟩|⟨hc,g,ij,rfl,_,h2,_⟩
 ·simp [aM]
 ·right;rintro rfl;obtain ⟨cs,h3⟩:=hr g (by simp [aM,Nat.pos_iff_ne_zero.1 hc]);rw [h2] at h3;injection h3 with h3
  injection h3 with _ h _
  subst h;simp at bW
theorem aW.aw {w w':World} {b t:Nat} {t':TypeId} {cs:List Value} (h:aW w b t' cs) (hG:r7 w w' t) (bW:Nat.beq t t'=false) : aW w' b t' cs:=by
 obtain ⟨row,hg,hr⟩:=hG;refine h.grown hg ?_;rintro rfl;obtain ⟨cs,h3⟩:=hr b rfl;unfold aW at h;rw [h] at h3;injection h3 with h3
 injection h3 with _ h _
 subst h;simp at bW
theorem Own.lt_size {α:Type} {w:World} {lo:Nat} {e:TypeId} {sz:Nat} {enc : α → List Value} {A:Option Addr} {n c:Nat} {l:List α} (h:Own w lo e sz enc A n c l) : ∀ k,aM A c=some k→k<w.heap.size:=by
 intro k hk;rcases h.row with ⟨_,rfl⟩|⟨hc,g,ij,rfl,_,h2,_⟩
 ·simp [aM] at hk
 ·simp [aM,Nat.pos_iff_ne_zero.1 hc] at hk;subst hk;exact (Array.getElem?_eq_some_iff.1 h2).1
structure eK {α β:Type} (R : α → β → Prop) (xs:List α) (ys:List β) : Prop where
 len:xs.length=ys.length
 get:∀ (i:Nat) (h1:i<xs.length) (h2:i<ys.length),R xs[i] ys[i]
theorem eK.mono {α β:Type} {R R' : α → β → Prop} {xs:List α} {ys:List β} (h:eK R xs ys) (hm:∀ a b,R a b→R' a b) : eK R' xs ys:=⟨h.len,fun i h1 h2=>hm _ _ (h.get i h1 h2)⟩
theorem eK.nil {α β:Type} {R : α → β → Prop}:eK R ([] : List α) ([] : List β):=⟨rfl,fun i h1 h2=>by simp at h1⟩
theorem eK.snoc {α β:Type} {R : α → β → Prop} {xs:List α} {ys:List β} (h:eK R xs ys) {x : α} {y : β} (hr:R x y) : eK R (xs++[x]) (ys++[y]):=by
 refine ⟨by simp [h.len],fun i h1 h2 => ?_⟩;have hl:=h.len;by_cases hi:i<xs.length
 ·rw [List.getElem_append_left hi,List.getElem_append_left (by omega)];exact h.get i hi (by omega)
 ·have e:i=xs.length:=by simp at h1;omega
  subst e;simp [hl];exact hr
structure cy where
 fT:Int
 ao:Int
 Ty:Int
 av:gg
def bI (r:cy) : List Value:=[.int .i64 r.fT,.int .i64 r.ao,.int .i64 r.Ty,r.av.v]
instance:fP bI 4:=⟨fun _=>rfl,fun r u hu=>by simp [bI,gg.v] at hu;rcases hu with rfl|rfl|rfl|rfl<;>rfl⟩
structure gC where
 bf:gg
 dk:gg
 bw:Int
 au:gg
 Live:gg
def cV (r:gC) : List Value:=[r.bf.v,r.dk.v,.int .i64 r.bw,r.au.v,r.Live.v]
instance:fP cV 5:=⟨fun _=>rfl,fun r u hu=>by simp [cV,gg.v] at hu;rcases hu with rfl|rfl|rfl|rfl|rfl<;>rfl⟩
def gC.zero:gC:=⟨.nil,.nil,0,.nil,.nil⟩
def Heap.zero:Heap:=⟨[],[],0,[],[]⟩
structure Lx (w:World) (r:cy) (l:ay) : Prop where
 cpu:r.fT=l.fT
 iG:r.ao=l.ao
 ty:r.Ty=l.Ty
 bM:Sl w 1 bK r.av.A r.av.n l.av
structure od (w:World) (lo:Nat) (r:cy) (l:ay) : Prop where
 cpu:r.fT=l.fT
 iG:r.ao=l.ao
 ty:r.Ty=l.Ty
 bM:Own w lo 3 1 bK r.av.A r.av.n r.av.c l.av
theorem Lx.ext {w w':World} {r:cy} {l:ay} (h:Lx w r l) (hx:Ext w w') : Lx w' r l:=⟨h.cpu,h.iG,h.ty,h.bM.ext hx⟩
theorem od.ext {w w':World} {lo:Nat} {r:cy} {l:ay} (h:od w lo r l) (hx:Ext w w') : od w' lo r l:=⟨h.cpu,h.iG,h.ty,h.bM.ext hx⟩
theorem od.low {w:World} {lo lj:Nat} {r:cy} {l:ay} (h:od w lo r l) (hl:lj≤lo) : od w lj r l:=⟨h.cpu,h.iG,h.ty,h.bM.low hl⟩
theorem od.rd {w:World} {lo:Nat} {r:cy} {l:ay} (h:od w lo r l) : Lx w r l:=⟨h.cpu,h.iG,h.ty,h.bM.sl⟩
theorem od.aw {w w':World} {t lo:Nat} {r:cy} {l:ay} (h:od w lo r l) (hG:r7 w w' t) (bW:Nat.beq t 3=false) : od w' lo r l:=⟨h.cpu,h.iG,h.ty,h.bM.aw hG bW⟩
theorem fc.aw {w w':World} {t lo:Nat} {r:cU} {z:ao} (h:fc w lo r z) (hG:r7 w w' t) (bW:(Nat.beq t 3 || Nat.beq t 165)=false) : fc w' lo r z:=by
 simp only [Bool.or_eq_false_iff] at bW;exact ⟨h.from_,h.lV,h.free.aw hG bW.2,h.types.aw hG bW.1⟩
structure Cq (w:World) (s:gg) (zs:List cU) (l:List ao) : Prop where
 row:Sl w 4 bX s.A s.n zs
 each:eK (Ca w) zs l
structure jo (w:World) (lo:Nat) (s:gg) (zs:List cU) (l:List ao) : Prop where
 row:Own w lo 139 4 bX s.A s.n s.c zs
 each:eK (fc w lo) zs l
structure vy (w:World) (s:gg) (ls:List cy) (l:List ay) : Prop where
 row:Sl w 4 bI s.A s.n ls
 each:eK (Lx w) ls l
structure eH (w:World) (lo:Nat) (s:gg) (ls:List cy) (l:List ay) : Prop where
 row:Own w lo 142 4 bI s.A s.n s.c ls
 each:eK (od w lo) ls l
section
variable {w w':World} {lo lj t:Nat} {s:gg} {zs:List cU} {z:List ao} {ls:List cy} {l:List ay}
theorem Cq.ext (h:Cq w s zs z) (hx:Ext w w') : Cq w' s zs z:=⟨h.row.ext hx,h.each.mono fun _ _ h=>h.ext hx⟩
theorem vy.ext (h:vy w s ls l) (hx:Ext w w') : vy w' s ls l:=⟨h.row.ext hx,h.each.mono fun _ _ h=>h.ext hx⟩
theorem jo.ext (h:jo w lo s zs z) (hx:Ext w w') : jo w' lo s zs z:=⟨h.row.ext hx,h.each.mono fun _ _ h=>h.ext hx⟩
theorem eH.ext (h:eH w lo s ls l) (hx:Ext w w') : eH w' lo s ls l:=⟨h.row.ext hx,h.each.mono fun _ _ h=>h.ext hx⟩
theorem jo.low (h:jo w lo s zs z) (hl:lj≤lo) : jo w lj s zs z:=⟨h.row.low hl,h.each.mono fun _ _ h=>h.low hl⟩
theorem eH.low (h:eH w lo s ls l) (hl:lj≤lo) : eH w lj s ls l:=⟨h.row.low hl,h.each.mono fun _ _ h=>h.low hl⟩
theorem jo.rd (h:jo w lo s zs z) : Cq w s zs z:=⟨h.row.sl,h.each.mono fun _ _ h=>h.rd⟩
theorem eH.rd (h:eH w lo s ls l) : vy w s ls l:=⟨h.row.sl,h.each.mono fun _ _ h=>h.rd⟩
theorem jo.aw (h:jo w lo s zs z) (hG:r7 w w' t) (bW:(Nat.beq t 139 || (Nat.beq t 3 || Nat.beq t 165))=false) : jo w' lo s zs z:=by
 rw [Bool.or_eq_false_iff] at bW;exact ⟨h.row.aw hG bW.1,h.each.mono fun _ _ h=>h.aw hG bW.2⟩
theorem eH.aw (h:eH w lo s ls l) (hG:r7 w w' t) (bW:(Nat.beq t 142 || Nat.beq t 3)=false) : eH w' lo s ls l:=by
 rw [Bool.or_eq_false_iff] at bW;exact ⟨h.row.aw hG bW.1,h.each.mono fun _ _ h=>h.aw hG bW.2⟩
theorem jo.nil (w:World) (lo:Nat) : jo w lo .nil [] []:=⟨Own.gz _ _ _ _ _ _,.nil⟩
theorem eH.nil (w:World) (lo:Nat) : eH w lo .nil [] []:=⟨Own.gz _ _ _ _ _ _,.nil⟩
theorem Cq.len (h:Cq w s zs z) : zs.length=s.n∧z.length=s.n:=⟨h.row.len,by rw [← h.each.len,h.row.len]⟩
theorem vy.len (h:vy w s ls l) : ls.length=s.n∧l.length=s.n:=⟨h.row.len,by rw [← h.each.len,h.row.len]⟩
end
structure DX (w:World) (r:gC) (h:Heap) : Prop where
 cpus:r.bw=h.bw
 dA:Sl w 1 bK r.dk.A r.dk.n h.dk
 live:Sl w 3 aL r.Live.A r.Live.n h.Live
 cj:∃ zs,Cq w r.bf zs h.bf
 lists:∃ ls,vy w r.au ls h.au
structure gZ (w:World) (lo:Nat) (r:gC) (h:Heap) : Prop where
 cpus:r.bw=h.bw
 dA:Own w lo 3 1 bK r.dk.A r.dk.n r.dk.c h.dk
 live:Own w lo 165 3 aL r.Live.A r.Live.n r.Live.c h.Live
 cj:∃ zs,jo w lo r.bf zs h.bf
 lists:∃ ls,eH w lo r.au ls h.au
section
variable {w w':World} {lo lj t:Nat} {r:gC} {h:Heap}
theorem DX.ext (a:DX w r h) (hx:Ext w w') : DX w' r h:=by
 obtain ⟨zs,hz⟩:=a.cj;obtain ⟨ls,hl⟩:=a.lists;exact ⟨a.cpus,a.dA.ext hx,a.live.ext hx,⟨zs,hz.ext hx⟩,⟨ls,hl.ext hx⟩⟩
theorem gZ.ext (a:gZ w lo r h) (hx:Ext w w') : gZ w' lo r h:=by
 obtain ⟨zs,hz⟩:=a.cj;obtain ⟨ls,hl⟩:=a.lists;exact ⟨a.cpus,a.dA.ext hx,a.live.ext hx,⟨zs,hz.ext hx⟩,⟨ls,hl.ext hx⟩⟩
theorem gZ.low (a:gZ w lo r h) (IN:lj≤lo) : gZ w lj r h:=by
 obtain ⟨zs,hz⟩:=a.cj;obtain ⟨ls,hl⟩:=a.lists;exact ⟨a.cpus,a.dA.low IN,a.live.low IN,⟨zs,hz.low IN⟩,⟨ls,hl.low IN⟩⟩
theorem gZ.rd (a:gZ w lo r h) : DX w r h:=by
 obtain ⟨zs,hz⟩:=a.cj;obtain ⟨ls,hl⟩:=a.lists;exact ⟨a.cpus,a.dA.sl,a.live.sl,⟨zs,hz.rd⟩,⟨ls,hl.rd⟩⟩
theorem gZ.aw (a:gZ w lo r h) (hG:r7 w w' t) (bW:(Nat.beq t 3 || (Nat.beq t 165 || (Nat.beq t 139 || Nat.beq t 142)))=false) : gZ w' lo r h:=by
 obtain ⟨zs,hz⟩:=a.cj;obtain ⟨ls,hl⟩:=a.lists;simp only [Bool.or_eq_false_iff] at bW;obtain ⟨h1,h2,h3,h4⟩:=bW;exact ⟨a.cpus,a.dA.aw hG h1,a.live.aw hG h2,⟨zs,hz.aw hG (by simp [h1,h2,h3])⟩,⟨ls,hl.aw hG (by simp [h1,h4])⟩⟩
theorem gZ.zero (w:World) (lo:Nat) : gZ w lo .zero .zero:=⟨rfl,Own.gz _ _ _ _ _ _,Own.gz _ _ _ _ _ _,⟨[],.nil _ _⟩,⟨[],.nil _ _⟩⟩
end
structure Heap.small (h:Heap) : Prop where
 cj:h.bf.length*64≤140737488355328
 dA:h.dk.length*8≤140737488355328
 lists:h.au.length*48≤140737488355328
 live:h.Live.length*24≤140737488355328
 free:∀ z∈h.bf,z.aj.length*24≤140737488355328∧z.Types.length*8≤140737488355328
 bM:∀ l∈h.au,l.av.length*8≤140737488355328
open Go.RowKit
set_option maxHeartbeats 4000000 in
theorem kM (A:Option Addr) (n c lo:Nat) (l:List Block) (w:World) (hO:Own w lo 165 3 aL A n c l) (i:Nat) (hi:i<n) (hn:n≤1000000000000000000) (gB:lo≤w.heap.size) :
 jw Tryz.prog 108 [.slice A n c,.int .i64 (i:Int),.int .i64 ((i+1:Nat) : Int)] w fun v w'=>v = .slice A (n-1) c∧Own w' lo 165 3 aL A (n-1) c (l.eraseIdx i)∧w.grownBy w' (aM A c):=by
 refine dM Tryz.func108 rfl Tryz.ntmps108 rfl ?_;have hle:=hO.le;have pp:=hO.len;have hA:=hO.sl.base;have Ge:w.grownBy w (aM A c):=World.grownBy.refl _ _
 repeat' (first|refine Wz ?_|(refine SW.st (so (i:=i) (j:=i+1) (k:=n) rfl rfl rfl rfl (by omega) (by omega) (by omega)) rfl ?_))
 all_goals try omega
 have hw:=Ext.refl w;have e0:i+(n-(i+1))=n-1:=by omega
 have el:l.take i++l.drop (i+1)=l.eraseIdx i:=by rw [List.eraseIdx_eq_take_drop_succ]
 refine CW.any 6 mixed (da (by kernel_rfl)) rfl fun w1 ae aJ => ?_
 replace hw:=Ext.trans hw ae;replace hO:=hO.ext ae;clear ae;refine Wa ?_;refine SA.take 2 aJ rfl (by kernel_rfl) (by kernel_rfl) rfl ?_;repeat ((refine SW.st (cS (k:=i) rfl rfl (by omega)) rfl ?_))
 refine SW.ai ?_;refine Wa ?_;refine SA.take 5 aJ rfl (by kernel_rfl) (by kernel_rfl) rfl ?_;repeat ((refine SW.st (aV (k:=i+1) rfl rfl (by omega) (by omega)) rfl ?_))
 refine SW.ai ?_;refine SA.done (by kernel_rfl) ?_;refine SW.vx (hO.pre (i:=i) (by omega)) (hO.sl.drop (i+1) c (by omega) (by omega)) (by omega) rfl rfl rfl fun w2 cJ hg => ?_
 rw [e0,el] at cJ;rw [e0];have EO:=(hw.gr (aM A c));repeat' (first|refine Wz ?_|(refine SW.st (qt (i:=n-1) (j:=n) rfl rfl rfl (by omega) (by omega)) rfl ?_))
 obtain ⟨g,rest,rfl,h1,h2,h3,h4,h5,h6⟩:=cJ.opened (by omega);have m8:((l.eraseIdx i).flatMap aL).length=(n-1)*3:=by rw [aQ,cJ.len]
 refine SW.clear ((n-1)*3) h2 rfl (by rw [List.length_append,m8];omega) (fun h0 => ?_) (by decide) fun w3 cs m7 hB nY => ?_
 ·rw [if_neg (by omega)];simp [ck]
 ·have e7:=dS ((l.eraseIdx i).flatMap aL) (rest.take ((n-(n-1))*3)) (rest.drop ((n-(n-1))*3)) cs (by rw [m7];simp;omega) (o:=(n-1)*3) m8.symm;rw [List.append_assoc (List.flatMap _ _),List.take_append_drop] at e7;rw [e7,List.append_assoc] at hB;have Cn:=Own.closed (l:=l.eraseIdx i) cJ.len hB (by rw [List.length_append,m7];simp;omega) h4 (by omega) h5 h1;rw [← h6] at nY;have xJ:=bH (bH EO hg (.inl rfl)) nY (.inl rfl);refine Wz ?_;exact ah.aY rfl rfl ⟨_,rfl,rfl,Cn,xJ⟩
set_option maxHeartbeats 4000000 in
theorem gm (A:Option Addr) (n c lo:Nat) (l:List Block) (w:World) (hO:Own w lo 165 3 aL A n c l) (i:Nat) (hi:i≤n) (x:Block) (b:Nat) (hB:aW w b 165 (aL x)) (bW:aM A c≠some b) (hn:(n+1)*24≤140737488355328) (gB:lo≤w.heap.size) :
 jw Tryz.prog 155 [.slice A n c,.int .i64 (i:Int),.slice (some ⟨b,0,none⟩) 1 1] w fun v w' => ∃ A' c',v = .slice A' (n+1) c'∧Own w' lo 165 3 aL A' (n+1) c' (aN l i x)∧w.grownBy w' (aM A c):=by
 refine dM Tryz.func155 rfl Tryz.ntmps155 rfl ?_;have hle:=hO.le;have pp:=hO.len;have hA:=hO.sl.base;have hw:=Ext.refl w;have jn:Sl w 3 aL (some ⟨b,0,none⟩) 1 [x]:=aW.z7 hB
 have lW:(aL x).length=3:=rfl
 have m8:∀ q:List Block,(q.flatMap aL).length=q.length*3:=fun q=>aQ q
 have ml:∀ (q:List Block) (v:Value),v∈q.flatMap aL→v.oneCell'=true:=fun q v hv=>by
  obtain ⟨u,_,hu⟩:=List.mem_flatMap.1 hv;exact fP.one (enc:=aL) u v hu
 by_cases df:i=n
 ·subst df;repeat' (first|refine Wz ?_|(refine SW.st (aV (k:=i) rfl rfl (by omega) (by omega)) rfl ?_))
  all_goals try omega
  refine SW.append hO jn gB rfl rfl rfl (by omega) (by omega) fun A2 c2 w2 cJ hg => ?_
  refine Wz ?_;refine ah.aY rfl rfl ⟨_,rfl,A2,c2,rfl,?_,hg⟩;have e:aN l i x=l++[x]:=by unfold aN;rw [List.take_of_length_le (by omega),List.drop_eq_nil_of_le (by omega)];simp
  rw [e];exact cJ
 ·by_cases jI:n+1≤c
  ·obtain ⟨g,rest,rfl,h1,h2,h3,h4,h5,h6⟩:=hO.opened (by omega);have Aa:g≠b:=fun e=>bW (by rw [h6,e])
   have es:l.flatMap aL++rest=(l.take i).flatMap aL++((l.drop i).flatMap aL++rest):=by rw [← List.append_assoc,← List.flatMap_append,List.take_append_drop]
   have e1:((l.take i).flatMap aL).length=i*3:=by rw [m8];simp;omega
   have e2:((l.drop i).flatMap aL).length=(n-i)*3:=by rw [m8];simp [pp]
   have kK:=hO.sl.drop i c (by omega) (by omega);rw [if_neg (by omega)] at kK;rw [es] at h2
   have EP:∀ w',Ext w w'→(Extern.SlicesOverlaps.overlaps #[39,39] #[4] #[.slice (some ⟨b,0,none⟩) 1 1,.slice (if c=i+1 then (some ⟨g,0,none⟩) else (some (⟨g,0,none⟩ : Addr)).map (·.add ((i+1)*3))) (n+1-(i+1)) (c-(i+1))]).run Tryz.prog w' = .ok (.bool false) w':=fun w' hx=>by
    rw [if_neg (by omega),Option.map_some,ck];have b1:=hB.ext hx;have b2:=h2.ext hx;unfold aW at b1 b2
    exact Lib.run_overlaps_apart w' 39 4 165 (bj.mB (t:=39)) 3 (fun w0=>run_sizeOf (bj.size (t:=39)) w0) ⟨b,0,none⟩ ⟨g,(i+1)*3,none⟩ 1 1 _ _ (fun e=>Aa e.symm) 165 165 (aL x).toArray.size ((l.take i).flatMap aL++((l.drop i).flatMap aL++rest)).toArray.size
     (by simp only [World.shape?,b1]) (by simp only [World.shape?,b2]) (by simp [e1,e2];omega) (by simp [World.frozen?,b1]) (by simp [World.frozen?,b1])
   repeat' (first|refine Wz ?_|(refine CW.dh rfl ?_)|(refine SW.st (aV (k:=i) rfl rfl (by omega) (by omega)) rfl ?_)|(refine SW.st (cS (k:=n+1) rfl rfl (by omega)) rfl ?_)|(refine SW.st (aV (k:=i+1) rfl rfl (by omega) (by omega)) rfl ?_)|(refine SW.entry Tryz.func215 (by kernel_rfl) (by kernel_rfl) (by kernel_rfl) (e:=Extern.SlicesOverlaps.overlaps #[39,39] #[4]) (by kernel_rfl) rfl rfl (EP _ hw) ?_))
   all_goals try omega
   have qO:((n-i)+1)*3≤((l.drop i).flatMap aL++rest).length:=by rw [List.length_append,e2];omega
   have e4:(l.drop i).flatMap aL++rest=((l.drop i).flatMap aL++rest).take 3++(((l.drop i).flatMap aL++rest).drop 3).take ((n-i)*3)++((l.drop i).flatMap aL++rest).drop (3+(n-i)*3):=by
    rw [List.append_assoc,← List.drop_drop,List.take_append_drop,List.take_append_drop]
   generalize Cr:((l.drop i).flatMap aL++rest).take 3=D1 at e4
   generalize Cs:(((l.drop i).flatMap aL++rest).drop 3).take ((n-i)*3)=D2 at e4
   generalize Ct:((l.drop i).flatMap aL++rest).drop (3+(n-i)*3)=D3 at e4
   have f1:D1.length=3:=by rw [← Cr];simp only [List.length_take];omega
   have f2:D2.length=(n-i)*3:=by rw [← Cs];simp only [List.length_take,List.length_drop];omega
   have f3:D3.length+3=rest.length:=by rw [← Ct];simp only [List.length_drop,List.length_append,e2];omega
   rw [e4] at h2;refine CW.any 8 mixed (da (by kernel_rfl)) rfl fun w1 ae aJ => ?_
   replace hw:=Ext.trans hw ae;replace hO:=hO.ext ae;replace hB:=hB.ext ae;replace h2:=h2.ext ae;clear ae;refine Wa ?_;refine SA.take 4 aJ rfl (by kernel_rfl) (by kernel_rfl) rfl ?_;repeat ((refine SW.st (aV (k:=i+1) rfl rfl (by omega) (by omega)) rfl ?_))
   refine SW.ai ?_;refine Wa ?_;refine SA.take 7 aJ rfl (by kernel_rfl) (by kernel_rfl) rfl ?_;repeat ((refine SW.st (aV (k:=i) rfl rfl (by omega) (by omega)) rfl ?_))
   refine SW.ai ?_;refine SA.done (by kernel_rfl) ?_;refine SW.copy (k:=n-i) ((i+1)*3) ((l.drop i).flatMap aL) h2 rfl rfl rfl (by omega) e2 (by simp only [List.length_append,e1,e2,f1,f2];omega) (fun h0=>⟨by rw [if_neg (by omega)];simp [ck],(⟨g,0,none⟩ : Addr).add (i*3),by rw [if_neg (by omega)];rfl,fun j v hv=>de (by omega) (kK.ext hw) j v hv⟩) (ml _) fun w3 lN nY => ?_
   have g1:=dS ((l.take i).flatMap aL++D1) D2 D3 ((l.drop i).flatMap aL) (by rw [e2,f2]) (o:=(i+1)*3) (by rw [List.length_append,e1,f1];omega);have g0:(l.take i).flatMap aL++(D1++D2++D3)=(l.take i).flatMap aL++D1++D2++D3:=by simp only [List.append_assoc]
   rw [g0,g1] at lN;have EO:=bH (hw.gr (aM (some ⟨g,0,none⟩) c)) nY (.inl h6.symm);have Ly:=hB.grown nY (by simpa using fun e=>Aa e.symm);repeat' (first|refine Wz ?_|(refine SW.st (aV (k:=i) rfl rfl (by omega) (by omega)) rfl ?_))
   refine SW.copy (k:=1) (i*3) (aL x) lN rfl rfl rfl (by omega) lW (by simp only [List.length_append,e1,e2,f1,lW];omega) (fun h0=>⟨by rw [if_neg (by omega)];simp [ck],⟨b,0,none⟩,rfl,fun j v hv=>Ly.cell hv⟩) (fP.one (enc:=aL) x) fun w4 lA vh => ?_
   have g2:=dS ((l.take i).flatMap aL) D1 ((l.drop i).flatMap aL++D3) (aL x) (by rw [lW,f1]) (o:=i*3) e1.symm;have g3:(l.take i).flatMap aL++D1++(l.drop i).flatMap aL++D3=(l.take i).flatMap aL++D1++((l.drop i).flatMap aL++D3):=by simp only [List.append_assoc]
   have g4:(l.take i).flatMap aL++aL x++((l.drop i).flatMap aL++D3)=(aN l i x).flatMap aL++D3:=by unfold aN;simp only [List.flatMap_append,List.flatMap_cons,List.flatMap_nil,List.append_nil,List.append_assoc]
   rw [g3,g2,g4] at lA;have Ax:=Own.closed (n:=n+1) (c:=c) (l:=aN l i x) (by unfold aN;simp;omega) lA (by omega) jI (by omega) h5 h1;have EQ:=bH EO vh (.inl h6.symm);refine Wz ?_;exact ah.aY rfl rfl ⟨_,rfl,_,_,rfl,Ax,EQ⟩
  ·have Lz:c=n:=by omega
   have kK:=hO.sl.drop i c (by omega) (by omega);have xn:=hO.sl.pre (i:=i) (by omega);repeat' (first|refine Wz ?_|(refine SW.st (aV (k:=i) rfl rfl (by omega) (by omega)) rfl ?_)|(refine SW.st (cS (k:=i) rfl rfl (by omega)) rfl ?_))
   all_goals try omega
   refine SW.uA (k:=n+1-i) xn Tryz.underlying3 rfl rfl (by omega) rfl (by omega) (by omega) (by omega) (by omega) fun g rest c2 w2 bF r5 h2 h3 h4 h5 => ?_
   have e1:((l.take i).flatMap aL).length=i*3:=by rw [m8];simp;omega
   have e2:((l.drop i).flatMap aL).length=(n-i)*3:=by rw [m8];simp [pp]
   have qO:((n-i)+1)*3≤rest.length:=by omega
   have e4:rest=rest.take 3++(rest.drop 3).take ((n-i)*3)++rest.drop (3+(n-i)*3):=by
    rw [List.append_assoc,← List.drop_drop,List.take_append_drop,List.take_append_drop]
   generalize Cr:rest.take 3=D1 at e4
   generalize Cs:(rest.drop 3).take ((n-i)*3)=D2 at e4
   generalize Ct:rest.drop (3+(n-i)*3)=D3 at e4
   have f1:D1.length=3:=by rw [← Cr];simp only [List.length_take];omega
   have f2:D2.length=(n-i)*3:=by rw [← Cs];simp only [List.length_take,List.length_drop];omega
   have f3:D3.length+((n-i)+1)*3=rest.length:=by rw [← Ct];simp only [List.length_drop];omega
   rw [e4] at h2;have dN:aM A c≠some g:=fun e=>by have:=hO.lt_size _ e;omega
   have Aa:b≠g:=by have:=hB.lt;omega
   replace kK:=kK.ext bF;replace hB:=hB.ext bF;replace hw:=Ext.trans hw bF;repeat' (first|refine Wz ?_|(refine SW.st (aV (k:=i) rfl rfl (by omega) (by omega)) rfl ?_))
   refine SW.copy (k:=1) (i*3) (aL x) h2 rfl rfl rfl (by omega) lW (by simp only [List.length_append,e1,f1,f2,lW];omega) (fun h0=>⟨by rw [if_neg (by omega)];simp [ck],⟨b,0,none⟩,rfl,fun j v hv=>hB.cell hv⟩) (fP.one (enc:=aL) x) fun w3 lN nY => ?_
   have g2:=dS ((l.take i).flatMap aL) D1 (D2++D3) (aL x) (by rw [lW,f1]) (o:=i*3) e1.symm;have g3:(l.take i).flatMap aL++(D1++D2++D3)=(l.take i).flatMap aL++D1++(D2++D3):=by simp only [List.append_assoc]
   rw [g3,g2] at lN;have GF:Ext w w3:=hw.own r5 nY
   have jJ:Sl w3 3 aL (if c=i then A else A.map (·.add (i*3))) (n-i) (l.drop i):=(hO.sl.drop i c (by omega) (by omega)).ext GF
   replace hw:=GF;refine Wz ?_;refine CW.any 8 mixed (da (by kernel_rfl)) rfl fun w1 ae aJ => ?_
   replace hw:=Ext.trans hw ae;replace lN:=lN.ext ae;replace jJ:=jJ.ext ae;clear ae;refine Wa ?_;refine SA.take 4 aJ rfl (by kernel_rfl) (by kernel_rfl) rfl ?_;repeat ((refine SW.st (aV (k:=i+1) rfl rfl (by omega) (by omega)) rfl ?_))
   refine SW.ai ?_;refine Wa ?_;refine SA.take 7 aJ rfl (by kernel_rfl) (by kernel_rfl) rfl ?_;repeat ((refine SW.st (aV (k:=i) rfl rfl (by omega) (by omega)) rfl ?_))
   refine SW.ai ?_;refine SA.done (by kernel_rfl) ?_;refine SW.copy (k:=n-i) ((i+1)*3) ((l.drop i).flatMap aL) lN rfl rfl rfl (by omega) e2 (by simp only [List.length_append,e1,e2,f2,lW];omega) (fun h0=>⟨by rw [if_neg (by omega)];simp [ck],(if c=i then A else A.map (·.add (i*3))).getD default,?_,fun j v hv=>de (by omega) jJ j v hv⟩) (ml _) fun w4 lA vh => ?_
   ·obtain ⟨a,ha⟩:=Option.isSome_iff_exists.1 (jJ.base h0);rw [ha];rfl
   ·have g4:=dS ((l.take i).flatMap aL++aL x) D2 D3 ((l.drop i).flatMap aL) (by rw [e2,f2]) (o:=(i+1)*3) (by rw [List.length_append,e1,lW];omega);have g5:(l.take i).flatMap aL++aL x++(D2++D3)=(l.take i).flatMap aL++aL x++D2++D3:=by simp only [List.append_assoc]
    have g6:(l.take i).flatMap aL++aL x++(l.drop i).flatMap aL++D3=(aN l i x).flatMap aL++D3:=by unfold aN;simp only [List.flatMap_append,List.flatMap_cons,List.flatMap_nil,List.append_nil,List.append_assoc]
    rw [g5,g4,g6] at lA;have Ax:=Own.closed (n:=n+1) (c:=c2) (lo:=lo) (l:=aN l i x) (by unfold aN;simp;omega) lA (by omega) (by omega) (by omega) h5 (by omega);have eM:Ext w w4:=hw.own r5 vh
    have e9:i+(n+1-i)=n+1:=by omega
    refine Wz ?_;rw [e9];exact ah.aY rfl rfl ⟨_,rfl,_,_,rfl,Ax,eM.gr _⟩
open Go.RowKit
theorem kA:Tryz.prog.underlying 236=some (.int .u64):=by kernel_rfl
theorem wrap_u64 {z:Int} (h0 : 0≤z) (h1:z≤9223372036854775807) : IntKind.u64.wrap z=z:=by
 simp [IntKind.wrap,IntKind.bits,IntKind.signed];omega
section
variable {P:Program} {L:Env} {w:World} {d:Option Nat} {T:TypeId} {pos:String} {af:Array Edge} {g:Option (Nat×Bool)}
theorem kB {ft tt:TypeId} {x:Operand} {k k':IntKind} {i:Int} (hf:P.underlying ft=some (.int k)) (ht:P.underlying tt=some (.int k')) (hx:cg L x=some (.int k i)) :
 St P ⟨d,.convert ft tt x,T,pos,af,g⟩ L w (.int k' (k'.wrap i)) :=
 ⟨fun n a ha w' _=>by
  have e1:=ha.eval hx;generalize a.eval = ρ at *
  simp [go_sem,e1,convert,run_underlying hf,run_underlying ht,Conv.intToInt]⟩
theorem uB {t ty:TypeId} {x y:Operand} {yk:IntKind} {i:Int} (hx:cg L x=some (.int .u64 i)) (hy:cg L y=some (.int yk 1)) :
 St P ⟨d,.binOp .shr t x y ty,T,pos,af,g⟩ L w (.int .u64 (i / 2)) :=
 ⟨fun n a ha w' _=>by
  have e1:=ha.eval hx;have e2:=ha.eval hy;generalize a.eval = ρ at *
  simp [go_sem,e1,e2]⟩
end
def br (l:List Block) (a:Int) : Bool:=if h:bi l a<l.length then decide ((l[bi l a]).At=a) else false
theorem gn (A:Option Addr) (n c:Nat) (l:List Block) (a:Int) (w:World) (hl:Sl w 3 aL A n l) (f:FuncId) [Body Tryz.prog f] (hf:∀ x∈l,∀ w',Ext w w'→bq Tryz.prog f ([.agg (aL x).toArray,.int .i64 a]++[]) w' fun v _=>v = .int .i64 (x.At-a))
 (hu:l.Pairwise fun x y=>x.At<y.At) (hn:n≤1000000000000000000) : bq Tryz.prog 105 [.slice A n c,.int .i64 a,.func (.func f) #[] #[]] w fun v _=>v = .tuple #[.int .i64 (bi l a:Int),.bool (br l a)]:=by
 refine aG Tryz.func105 rfl Tryz.ntmps105 rfl ?_;have hw:=Ext.refl w;have hA:=hl.base;have pp:=hl.len;rw [List.pairwise_iff_getElem] at hu;refine Wz ?_
 refine CW.loop (fun s:Nat×Nat=>[(0,.slice A n c),(1,.int .i64 a),(2,.func (.func f) #[] #[]),(8,.int .i64 (n:Int)),(9,.int .i64 (s.1:Int)),(10,.int .i64 (s.2:Int))])
  (fun s w'=>s.1≤s.2∧s.2≤n∧Ext w w'∧(∀ (k:Nat) (h:k<l.length),k<s.1→l[k].At<a)∧(∀ (k:Nat) (h:k<l.length),s.2≤k→a≤l[k].At)) (fun s=>s.2-s.1) (0,n)
  ⟨rfl,rfl,rfl,rfl,rfl,rfl,trivial⟩ ⟨by omega,by omega,hw,fun k h h'=>by omega,fun k h h'=>by omega⟩ ?_
 clear hw;rintro ⟨i,j⟩ w' ⟨lz,nd,hw,hI,hJ⟩
 simp only at lz nd hI hJ ⊢;by_cases dL:i<j
 ·have hk:(i+j) / 2<n:=by omega
  have fe:=hl.lt hk;have tv:=fun w1 h1=>hf (l[(i+j) / 2]) (List.getElem_mem fe) w1 h1
  repeat' (first|refine Wz ?_|refine SW.st (aU hw rfl rfl ((hl.all hk))) rfl ?_|(refine SW.st ((kB Tryz.underlying3 kA rfl).eq (congrArg (Value.int .u64) (wrap_u64 (by omega) (by omega)))) rfl ?_)|(refine SW.st ((kB kA Tryz.underlying3 rfl).eq (congrArg (Value.int .i64) (gf (by omega) (by omega)))) rfl ?_)|(refine SW.st (uB rfl rfl) rfl ?_))
  refine SW.qU (cap:=[]) rfl rfl rfl (tv _ hw) fun v w1 ae hv => ?_
  subst hv;replace hw:=Ext.trans hw ae;by_cases Nz:l[(i+j) / 2].At<a
  ·refine Wz ?_;refine ah.again ((i+j) / 2+1,j) ⟨rfl,rfl,rfl,rfl,congrArg (fun z=>some (Value.int .i64 z)) (by omega),rfl,trivial⟩ (by simp only;omega) ⟨by simp only;omega,nd,hw,fun k h h' => ?_,hJ⟩;simp only at h';by_cases e:k=(i+j) / 2
   ·subst e;exact Nz
   ·have:=hu k ((i+j) / 2) h fe (by omega)
    omega
  ·refine Wz ?_;refine ah.again (i,(i+j) / 2) ⟨rfl,rfl,rfl,rfl,rfl,congrArg (fun z=>some (Value.int .i64 z)) (by omega),trivial⟩ (by simp only;omega) ⟨by simp only;omega,by simp only;omega,hw,hI,fun k h h' => ?_⟩;simp only at h';by_cases e:k=(i+j) / 2
   ·subst e;omega
   ·have:=hu ((i+j) / 2) k fe h (by omega)
    omega
 ·obtain rfl:i=j:=by omega
  have vA:bi l a=i:=DU (by omega) hI (fun h=>hJ i h (by omega))
  by_cases df:i<n
  ·have fe:=hl.lt df;have tv:=fun w1 h1=>hf (l[i]) (List.getElem_mem fe) w1 h1
   have IQ:br l a=decide (l[i].At=a):=by unfold br;simp only [vA,fe,dif_pos]
   rw [vA,IQ];repeat' (first|refine Wz ?_|refine SW.st (aU hw rfl rfl ((hl.all df))) rfl ?_)
   refine SW.qU (cap:=[]) rfl rfl rfl (tv _ hw) fun v w1 ae hv => ?_
   subst hv;replace hw:=Ext.trans hw ae;by_cases he:l[i].At=a
   ·refine Wz ?_;refine ah.cb rfl rfl rfl ⟨_,rfl,hw,?_⟩;rw [decide_eq_true he,decide_eq_true (by omega)]
   ·refine Wz ?_;refine ah.cb rfl rfl rfl ⟨_,rfl,hw,?_⟩;rw [decide_eq_false he,decide_eq_false (by omega)]
  ·have IQ:br l a=false:=by unfold br;rw [dif_neg (by omega)]
   rw [vA,IQ];refine Wz ?_;exact ah.cb rfl rfl rfl ⟨_,rfl,hw,rfl⟩
theorem LA {f t:Int} {l:List Block} (h:oE l) (hb:∀ b∈l,gl f t b) : l.Pairwise fun x y=>x.At<y.At:=by
 unfold oE at h;rw [List.pairwise_iff_getElem] at h ⊢;intro i j hi hj lz;have h1:=h i j hi hj lz;have hp:=hb _ (List.getElem_mem hi);have:=bT hp.1.1 hp.1.2.1
 omega
theorem zd (x:Block) (a:Int) (w:World) (hx : -4000000000000000000≤x.At∧x.At≤4000000000000000000) (ha : -4000000000000000000≤a∧a≤4000000000000000000) : bq Tryz.prog 255 ([.agg (aL x).toArray,.int .i64 a]++[]) w fun v _=>v = .int .i64 (x.At-a):=by
 refine aG Tryz.func255 rfl Tryz.ntmps255 rfl ?_;refine CW.seq (CW.region (SW.box rfl rfl fun b1 w1 hw jh aI => ?_));refine Wz ?_;exact ah.aY rfl rfl ⟨_,rfl,hw,rfl⟩
theorem sq (r:cU) (l:List Block) (f t a:Int) (w:World) (hl:Sl w 3 aL r.aj.A r.aj.n l) (hu:oE l) (hb:∀ b∈l,gl f t b) (h0 : 0≤f) (ht:t≤256) (hn:r.aj.n≤1000000000000000000) (ha : -1000≤a∧a≤1000) :
 bq Tryz.prog 234 [.agg (bX r).toArray,.int .i64 a] w fun v _=>v = .tuple #[.int .i64 (bi l a:Int),.bool (br l a)]:=by
 refine aG Tryz.func234 rfl Tryz.ntmps234 rfl ?_;refine CW.seq (CW.region (SW.box rfl rfl fun b1 w1 hw jh aI => ?_))
 have cB:∀ w',Ext w w'→bq Tryz.prog 105 [.slice r.aj.A r.aj.n r.aj.c,.int .i64 a,.func (.func 255) #[] #[]] w' fun v _=>v = .tuple #[.int .i64 (bi l a:Int),.bool (br l a)]:=fun w' h =>
  gn _ _ _ _ _ _ (hl.ext h) _ (fun x hx w1 _=>zd x a w1 (by have:=(hb x hx).1;unfold fU at this;omega) (by omega)) (LA hu hb) hn
 repeat' (first|refine Wz ?_|(refine SW.call rfl rfl (cB _ hw) ?_;intro v w1 ae hv;subst hv;replace hw:=Ext.trans hw ae;replace aI:=aI.ext ae;clear ae))
 exact ah.cb rfl rfl rfl ⟨_,rfl,hw,rfl⟩
open Go.RowKit
theorem ER (a o:Int) (b9:Nat) (x:Block) (w:World) (h9:aW w b9 165 (aL ⟨a,o,0⟩)) (ho : 0≤o∧o≤4) (ha : 0≤a∧a≤256) (hx : 0≤x.At∧x.At≤256) (hy : 0≤x.Order∧x.Order≤4) :
 bq Tryz.prog 233 ([.agg (aL x).toArray]++[.pointer (some ⟨b9,0,none⟩)]) w fun v _=>v = .bool (decide (x.At<a+pw o) && decide (a<x.At+pw x.Order)):=by
 refine aG Tryz.func233 rfl Tryz.ntmps233 rfl ?_;refine CW.seq (CW.region (SW.box rfl rfl fun b2 w1 hw j0 aD => ?_));replace h9:=h9.ext hw;have c1:∀ w',bq Tryz.prog 230 [.agg (aL ⟨a,o,0⟩).toArray] w' fun v _=>v = .int .i64 (a+pw o):=fun w'=>mC ⟨a,o,0⟩ w' ho ha
 have c2:∀ w',bq Tryz.prog 230 [.agg (aL x).toArray] w' fun v _=>v = .int .i64 (x.At+pw x.Order):=fun w'=>mC x w' hy hx
 by_cases h1:x.At<a+pw o
 ·repeat' (first|refine Wz ?_|((apply CW.bl mixed;(· kernel_rfl);rotate_left;intro w1 ae;replace hw:=Ext.trans hw ae;replace aD:=aD.ext ae;replace h9:=h9.ext ae;clear ae;rotate_right))|refine SW.cx rfl rfl (fun w1 ae=>(c1 _)) ?_|refine SW.cx rfl rfl (fun w1 ae=>(c2 _)) ?_|exact SW.dF rfl)
  exact ah.aY rfl rfl ⟨_,rfl,hw,by simp [h1]⟩
 ·repeat' (first|refine Wz ?_|((apply CW.bl mixed;(· kernel_rfl);rotate_left;intro w1 ae;replace hw:=Ext.trans hw ae;replace aD:=aD.ext ae;replace h9:=h9.ext ae;clear ae;rotate_right))|refine SW.cx rfl rfl (fun w1 ae=>(c1 _)) ?_|exact SW.dF rfl)
  exact ah.aY rfl rfl ⟨_,rfl,hw,by simp [h1]⟩
theorem rb {z:ao} {a o:Int} (h:dO z=false) : ee z a o=(8,.zero):=by simp [ee,h,ao.zero]
theorem uC {z:ao} {a o:Int} (h:dO z=true) (hf : ¬ fU z.aK z.To a o) : ee z a o=(1,.zero):=by simp [ee,h,hf,ao.zero]
theorem ze {z:ao} {a o:Int} (h:dO z=true) (hf:fU z.aK z.To a o) (ho:iC z.aj a o=true) : ee z a o=(5,.zero):=by simp [ee,h,hf,ho,ao.zero]
theorem uD {z:ao} {a o:Int} (h:dO z=true) (hf:fU z.aK z.To a o) (ho:iC z.aj a o=false) {l:List Block} {a' o':Int} (hj:fV 5 z.aj a o=(l,a',o')) {t:Int} (ht:z.Types.getD ((a'-z.aK) / 8).toNat 0=t) :
 ee z a o=(0,⟨z.aK,z.To,aN l (bi l a') ⟨a',o',t⟩,z.Types⟩):=by simp [ee,h,hf,ho,hj,← ht]
theorem iO {z:ao} (h:bD z) : z.aj.length≤256∧z.Types.length≤32:=by
 have hu:=mD h;have jv:=h.ok;unfold dI at jv
 have key:∀ (i:Nat) (hi:i<z.aj.length),(i:Int)≤(z.aj[i]).At:=by
  intro i;induction i with
  | zero =>
    intro hi;have:=(h.dD 0 hi).1
    unfold fU at this;omega
  | succ i ih =>
    intro hi;have h1:=ih (by omega);have h2:=gL hu hi (Nat.lt_succ_self i);have h3:=(h.dD i (by omega)).1;have:=bT h3.1 h3.2.1
    omega
 refine ⟨?_,by have:=h.len;omega⟩;rcases Nat.eq_zero_or_pos z.aj.length with h0|h0
 ·omega
 ·have h1:=key (z.aj.length-1) (by omega);have h2:=(h.dD (z.aj.length-1) (by omega)).1;unfold fU at h2;omega
theorem kb (z:ao) (a o:Int) : (ee z a o).2.aj.length≤257∧(ee z a o).2.Types.length≤32∧((ee z a o).1=0→(ee z a o).2.aK=z.aK∧(ee z a o).2.To=z.To∧(ee z a o).2.Types=z.Types):=by
 cases hq:dO z
 ·rw [rb hq];simp [ao.zero]
 ·have hz:=ed.1 hq;have hl:=iO hz;by_cases hf:fU z.aK z.To a o
  ·cases ho:iC z.aj a o
   ·have hJ:=vw (f:=0) (t:=0) hz hf ho;have hj:=As (by have:=hz.ok;unfold dI at this;omega) 5 hJ;obtain ⟨⟨l,a',o'⟩,sr⟩ : ∃ u,fV 5 z.aj a o=u:=⟨_,rfl⟩;rw [sr] at hj;rw [uD hq hf ho sr rfl];have h3:=hj.2;simp only [aN,List.length_append,List.length_take,List.length_drop,List.length_singleton] at h3 ⊢;exact ⟨by omega,hl.2,fun _=>by simp⟩
   ·rw [ze hq hf ho];simp [ao.zero]
  ·rw [uC hq hf];simp [ao.zero]
noncomputable def rc:Nat→ao→Int→Int×ao
 | 0,z,_=>(0,z)
 | k+1,z,p=>if (ee z p 0).1=0 then rc k (ee z p 0).2 (p+1) else ((ee z p 0).1,.zero)
def kC (z:ao) (f s:Int) : Prop:=0≤s∧z.aK≤f∧f≤z.To∧s≤z.To-f
instance (z:ao) (f s:Int) : Decidable (kC z f s):=inferInstanceAs (Decidable (_∧_))
noncomputable def mF (z:ao) (f s:Int) : Int×ao:=if dO z then (if kC z f s then rc s.toNat z f else (1,.zero)) else (8,.zero)
theorem DY {z:ao} {f s:Int} (h:dO z=false) : mF z f s=(8,.zero):=by simp [mF,h]
theorem DZ {z:ao} {f s:Int} (h:dO z=true) (ha : ¬ kC z f s) : mF z f s=(1,.zero):=by simp [mF,h,ha]
theorem D0 {z:ao} {f:Int} {k:Nat} (h:dO z=true) (ha:kC z f (k:Int)) : mF z f (k:Int)=rc k z f:=by simp [mF,h,ha]
end Go.Proofs.YtbidkghlpijecaaGreatDoor
