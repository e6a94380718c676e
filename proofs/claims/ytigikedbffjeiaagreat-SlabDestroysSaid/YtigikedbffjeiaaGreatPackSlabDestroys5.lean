/-
  Texts of the claim SlabDestroys, part 5: what its theorem leans on.
-/
import Derived.Test.YtigikedbffjeiaaGreatPackSlabDestroys4
import Derived.Lib.AppendZerosOnto
import Derived.Lib.Overlaps
import Derived.Room.Entries
import Derived.Test.YtigikedbffjeiaaGreatPackSlabDestroys2
import Derived.Test.YtigikedbffjeiaaGreatPackSlabDestroys3
set_option linter.unusedVariables false
set_option linter.unusedSimpArgs false
namespace Go.Proofs.YtigikedbffjeiaaGreat
open Go.RowKit
def lay (cur:List Value) (o:Nat) (cs:List Value) : List Value:=cur.take o++cs++cur.drop (o+cs.length)
theorem lay_nil (cur:List Value) (o:Nat) : lay cur o []=cur:=by simp [lay]
theorem lay_mid (X Y Z cs:List Value) (h:cs.length=Y.length) {o:Nat} (ho:o=X.length) : lay (X++Y++Z) o cs=X++cs++Z:=by
 subst ho
 unfold lay
 rw [List.append_assoc X Y Z,List.take_left,h]
 congr 1
 rw [← List.append_assoc,List.drop_append]
 have e:List.drop (X.length+Y.length) (X++Y)=[]:=List.drop_eq_nil_of_le (by simp)
 rw [e];simp
theorem Own.opened {α : Type} {w:World} {lo:Nat} {e:TypeId} {sz:Nat} {enc : α → List Value} [E:Enc enc sz] {A:Option Addr} {n c:Nat} {l:List α} (h:Own w lo e sz enc A n c l) (hc : 0<c) :
  ∃ g rest,A=some ⟨g,0,none⟩∧lo≤g∧Blk w g e (l.flatMap enc++rest)∧n*sz+rest.length=c*sz∧n≤c∧c≤maxLen∧ownB A c=some g:=by
 rcases h.row with ⟨_,h0⟩|⟨_,g,cur,rfl,h1,h2,h3,h4,h5,h6⟩
 ·omega
 ·refine ⟨g,cur.toList.drop (n*sz),rfl,h1,?_,?_,h3,h4,by simp [ownB,Nat.pos_iff_ne_zero.1 hc]⟩
  ·unfold Blk
   rw [← h6,List.take_append_drop]
   simpa using h2
  ·have:n*sz≤c*sz:=Nat.mul_le_mul_right _ h3
   simp;omega
theorem Own.closed {α : Type} {w:World} {lo:Nat} {e:TypeId} {sz:Nat} {enc : α → List Value} [E:Enc enc sz] {n c g:Nat} {l:List α} {rest:List Value} (hl:l.length=n) (hB:Blk w g e (l.flatMap enc++rest)) (hr:n*sz+rest.length=c*sz) (hn:n≤c) (hc : 0<c) (hm:c≤maxLen) (hlo:lo≤g) :
  Own w lo e sz enc (some ⟨g,0,none⟩) n c l:=by
 have hfl:(l.flatMap enc).length=n*sz:=by rw [length_flatMap_enc,hl]
 refine ⟨hl,.inr ⟨hc,g,_,rfl,hlo,hB,hn,hm,?_,?_⟩⟩
 ·simp [hfl];omega
 ·rw [← hfl];simp
theorem Own.pre {α : Type} {w:World} {lo:Nat} {e:TypeId} {sz:Nat} {enc : α → List Value} [E:Enc enc sz] {A:Option Addr} {n c:Nat} {l:List α} (h:Own w lo e sz enc A n c l) {i:Nat} (hi:i≤n) : Own w lo e sz enc A i c (l.take i):=by
 rcases Nat.eq_zero_or_pos c with hc|hc
 ·have h1:=h.le.1
  have:n=0:=by omega
  subst hc this
  obtain rfl:i=0:=by omega
  simpa using Own.nil_ w lo e sz enc A
 ·obtain ⟨g,rest,rfl,h1,h2,h3,h4,h5,_⟩:=h.opened hc
  refine Own.closed (rest:=(l.drop i).flatMap enc++rest) (by simp [h.len];omega) ?_ ?_ (by omega) hc h5 h1
  ·rw [← List.append_assoc,← List.flatMap_append,List.take_append_drop];exact h2
  ·have e1:((l.drop i).flatMap enc).length=(n-i)*sz:=by rw [length_flatMap_enc];simp [h.len]
   have e2:i+(n-i)=n:=by omega
   rw [List.length_append,e1,← h3,← Nat.add_assoc,← Nat.add_mul,e2]
theorem Sl.drop {α : Type} {w:World} {sz:Nat} {enc : α → List Value} {A:Option Addr} {n:Nat} {l:List α} (h:Sl w sz enc A n l) (i c:Nat) (hi:i≤n) (hc:n≤c) : Sl w sz enc (if c=i then A else A.map (·.add (i*sz))) (n-i) (l.drop i):=by
 refine ⟨by simp [h.len],fun hn => ?_,fun j hj k u hu => ?_⟩
 ·have:=h.base (by omega)
  split
  ·exact this
  ·simpa using this
 ·simp at hj
  have hl:=h.len
  rw [if_neg (by omega)]
  have hb:=h.base (by omega)
  obtain ⟨a,rfl⟩:=Option.isSome_iff_exists.1 hb
  have hcell:=h.cell (i+j) (by omega) k u (by simpa using hu)
  simp only [Option.getD_some,Option.map_some,add_add] at hcell ⊢
  rw [← hcell]
  congr 2
  rw [Nat.add_mul]
theorem Sl.pre {α : Type} {w:World} {sz:Nat} {enc : α → List Value} {A:Option Addr} {n:Nat} {l:List α} (h:Sl w sz enc A n l) {i:Nat} (hi:i≤n) : Sl w sz enc A i (l.take i):=by
 refine ⟨by simp [h.len];omega,fun hn=>h.base (by omega),fun j hj k u hu => ?_⟩
 simp at hj
 exact h.cell j (by omega) k u (by simpa using hu)
section
variable {P:Program} {w:World}
theorem grown_setRow {g:Nat} {e:TypeId} {cur cs:List Value} (h:Blk w g e cur) : Blk (w.setRow g cs.toArray) g e cs∧w.grownBy (w.setRow g cs.toArray) (some g) :=
 ⟨setRow_heap w g _ _ e (0,0) h,⟨rfl,rfl,rfl,by simp,fun j _ hj=>by
  show (w.setRow g _).heap[j]?=_
  simp only [World.setRow,Array.getElem?_modify]
  rw [if_neg (fun e=>hj (by simp [e]))]⟩⟩
theorem run_copy_gen {t e:TypeId} {z:Value} {sz bytes:Nat} [S:SliceTy P t e sz] [T:ElemTy P e z sz bytes] (ty:TypeId) {A X:Option Addr} {n c m c2 k g o:Nat} {cur cs:List Value} (hk:min m n=k) (hlen:cs.length=k*sz) (hB:Blk w g e cur) (hfit:o+cs.length≤cur.length)
  (hpos : 0<k→A=some ⟨g,o,none⟩ ∧ ∃ ad,X=some ad ∧ ∀ j v,cs[j]?=some v→w.cell? (ad.add j)=some v) (h1:∀ v∈cs,v.oneCell'=true) :
  ∃ w',(Builtin.copy_ #[t,t] ty #[.slice A n c,.slice X m c2]).run P w = .ok (.int .i64 (k:Int)) w'∧Blk w' g e (lay cur o cs)∧w.grownBy w' (some g):=by
 obtain ⟨i,hi,hz,hs,hby⟩:=elem_parts P e (z:=z) (sz:=sz) (bytes:=bytes)
 have hmin:Nat.min m n=k:=hk
 by_cases h0:k=0
 ·have hcs:cs=[]:=List.eq_nil_of_length_eq_zero (by rw [hlen,h0];simp)
  subst hcs
  refine ⟨w,?_,by rw [lay_nil];exact hB,World.grownBy.refl _ _⟩
  cases A<;>cases X<;>simp [Builtin.copy_,run_underlying S.und,Builtin.lenOf,Builtin.firstCells,sizeOf,typeInfo,hi,hmin,h0,loadCells,loadCellsFrom,storeCells,goInt]
 ·obtain ⟨rfl,ad,rfl,hsrc⟩:=hpos (by omega)
  have hl:=run_loadCells_list (P:=P) w ad cs hsrc
  have hst:=run_storeCells_at P g o e cs 0 cur.toArray w hB (by simpa using hfit) h1
  have e1:(cur.toArray.toList.take (o+0)++cs++cur.toArray.toList.drop (o+0+cs.length))=lay cur o cs:=by simp [lay]
  rw [e1] at hst
  rw [hlen] at hl
  refine ⟨_,?_,(grown_setRow hB).1,(grown_setRow hB).2⟩
  simp [Builtin.copy_,run_underlying S.und,Builtin.lenOf,Builtin.firstCells,sizeOf,typeInfo,hi,hs,hmin,hl,hst,goInt]
theorem run_clear_gen {t e:TypeId} {z:Value} {sz bytes:Nat} [S:SliceTy P t e sz] [T:ElemTy P e z sz bytes] (ty:TypeId) {A:Option Addr} {n c g o:Nat} {cur:List Value} (hB:Blk w g e cur) (hfit:o+n*sz≤cur.length) (hpos : 0<n→A=some ⟨g,o,none⟩) (hz1:∀ v∈z.cells.toList,v.oneCell'=true) :
  ∃ w' cs,(Builtin.clear_ #[t] ty #[.slice A n c]).run P w = .ok (.tuple #[]) w'∧cs.length=n*sz∧Blk w' g e (lay cur o cs)∧w.grownBy w' (some g):=by
 obtain ⟨i,hi,hz,hs,hby⟩:=elem_parts P e (z:=z) (sz:=sz) (bytes:=bytes)
 by_cases h0:n=0
 ·subst h0
  refine ⟨w,[],?_,by simp,by rw [lay_nil];exact hB,World.grownBy.refl _ _⟩
  cases A<;>simp [Builtin.clear_,run_underlying S.und]
 ·obtain rfl:=hpos (by omega)
  obtain ⟨k,rfl⟩ : ∃ k,n=k+1:=⟨n-1,by omega⟩
  have hlen:(Builtin.zeroCells z.cells (k+1)).toList.length=(k+1)*sz:=by simp [Go.size_zeroCells,T.zc]
  have h1:∀ v∈(Builtin.zeroCells z.cells (k+1)).toList,v.oneCell'=true:=by
   intro v hv
   simp only [Builtin.zeroCells,Array.toList_map,Array.toList_range,List.mem_map] at hv
   obtain ⟨j,hj,rfl⟩:=hv
   have hp:=T.pos
   have:j % z.cells.size<z.cells.size:=Nat.mod_lt _ (by rw [T.zc];exact hp)
   rw [getElem!_pos z.cells _ this]
   exact hz1 _ (Array.getElem_mem_toList _)
  have hst:=run_storeCells_at P g o e (Builtin.zeroCells z.cells (k+1)).toList 0 cur.toArray w hB (by rw [hlen];simpa using hfit) h1
  have e1:(cur.toArray.toList.take (o+0)++(Builtin.zeroCells z.cells (k+1)).toList++cur.toArray.toList.drop (o+0+(Builtin.zeroCells z.cells (k+1)).toList.length))=lay cur o (Builtin.zeroCells z.cells (k+1)).toList:=by simp [lay]
  rw [e1] at hst
  refine ⟨_,_,?_,hlen,(grown_setRow hB).1,(grown_setRow hB).2⟩
  simp [Builtin.clear_,run_underlying S.und,zeroValue,typeInfo,hi,hz,hst]
end
section
variable {P:Program} {n:Nat} {ops:Array Oper} {Q:Exit→Act→World→Prop} {rest:List Oper} {L:Env} {w:World} {d:Option Nat} {T:TypeId} {pos:String} {af:Array Edge} {g:Option (Nat×Bool)}
theorem SW.copy {d:Nat} {t e:TypeId} {z:Value} {sz bytes:Nat} [S:SliceTy P t e sz] [E:ElemTy P e z sz bytes] {x y:Operand} {A X:Option Addr} {m c m2 c2 k g:Nat} (o:Nat) {cur:List Value} (cs:List Value) (hB:Blk w g e cur) (hx:opv L x=some (.slice A m c)) (hy:opv L y=some (.slice X m2 c2)) (hn:Nat.blt d n=true)
  (hk:min m2 m=k) (hlen:cs.length=k*sz) (hfit:o+cs.length≤cur.length) (hpos : 0<k→A=some ⟨g,o,none⟩ ∧ ∃ ad,X=some ad ∧ ∀ j v,cs[j]?=some v→w.cell? (ad.add j)=some v) (h1:∀ v∈cs,v.oneCell'=true)
  (h:∀ w',Blk w' g e (lay cur o cs)→w.grownBy w' (some g)→SW P n ops (.eff Q) rest ((d,.int .i64 (k:Int))::L) w') :
  SW P n ops (.eff Q) (⟨some d,.call ⟨.builtin .copy,#[x,y],#[t,t]⟩,T,pos,af,none⟩::rest) L w :=
 ⟨fun a ha=>by
  obtain ⟨w',hr,h2,h3⟩:=run_copy_gen (P:=P) (t:=t) T (c:=c) (c2:=c2) hk hlen hB hfit hpos h1
  simp only [swp,wpList,Region.wanted,if_true]
  refine .inl ?_
  unfold Oper.wp
  have:(execOp a.eval ⟨some d,.call ⟨.builtin .copy,#[x,y],#[t,t]⟩,T,pos,af,none⟩).run P w = .ok (.value (.int .i64 (k:Int))) w':=by
   simp [execOp,resolve,invoke,builtin,ha.eval hx,ha.eval hy,hr]
  rw [this,Oper.upon_value]
  exact (h w' h2 h3).out _ (ha.put hn _)⟩
theorem SW.clear {t e:TypeId} {z:Value} {sz bytes:Nat} [S:SliceTy P t e sz] [E:ElemTy P e z sz bytes] {x:Operand} {A:Option Addr} {m c g:Nat} (o:Nat) {cur:List Value} (hB:Blk w g e cur) (hx:opv L x=some (.slice A m c)) (hfit:o+m*sz≤cur.length) (hpos : 0<m→A=some ⟨g,o,none⟩) (hz1:∀ v∈z.cells.toList,v.oneCell'=true)
  (h:∀ w' cs,cs.length=m*sz→Blk w' g e (lay cur o cs)→w.grownBy w' (some g)→SW P n ops (.eff Q) rest L w') :
  SW P n ops (.eff Q) (⟨none,.call ⟨.builtin .clear,#[x],#[t]⟩,T,pos,af,none⟩::rest) L w :=
 ⟨fun a ha=>by
  obtain ⟨w',cs,hr,h1,h2,h3⟩:=run_clear_gen (P:=P) (t:=t) T (c:=c) hB hfit hpos hz1
  simp only [swp,wpList,Region.wanted,if_true]
  refine .inl ?_
  unfold Oper.wp
  have:(execOp a.eval ⟨none,.call ⟨.builtin .clear,#[x],#[t]⟩,T,pos,af,none⟩).run P w = .ok (.value (.tuple #[])) w':=by
   simp [execOp,resolve,invoke,builtin,ha.eval hx,hr]
  rw [this,Oper.upon_value]
  exact (h w' cs h1 h2 h3).out _ (ha.put_none _)⟩
theorem st_sliceLH {t e:TypeId} {sz:Nat} [c:SliceTy P t e sz] {x y u:Operand} {A:Option Addr} {m cap i j:Nat} (hx:opv L x=some (.slice A m cap)) (hy:opv L y=some (.int .i64 (i:Int))) (hu:opv L u=some (.int .i64 (j:Int))) (hi:i≤j) (hj:j≤cap) :
  St P ⟨d,.slice t x (some y) (some u) none,T,pos,af,g⟩ L w (.slice (if cap=i then A else A.map (·.add (i*sz))) (j-i) (cap-i)) :=
 ⟨fun _ a ha w' _=>by
  have e1:=ha.eval hx;have e2:=ha.eval hy;have e3:=ha.eval hu;generalize a.eval = ρ at *
  simp [execOp,e1,e2,e3,Instr.sliceAt,Instr.slice,Instr.sliceBounds,Instr.sliceBound,asIntOf,run_underlying c.und,run_sizeOf c.size,hi,hj]⟩
theorem st_slice3 {t e:TypeId} {sz:Nat} [c:SliceTy P t e sz] {x y u v:Operand} {A:Option Addr} {m cap i j k:Nat} (hx:opv L x=some (.slice A m cap)) (hy:opv L y=some (.int .i64 (i:Int))) (hu:opv L u=some (.int .i64 (j:Int))) (hv:opv L v=some (.int .i64 (k:Int))) (hi:i≤j) (hj:j≤k) (hk:k≤cap) :
  St P ⟨d,.slice t x (some y) (some u) (some v),T,pos,af,g⟩ L w (.slice (if k=i then A else A.map (·.add (i*sz))) (j-i) (k-i)) :=
 ⟨fun _ a ha w' _=>by
  have e1:=ha.eval hx;have e2:=ha.eval hy;have e3:=ha.eval hu;have e4:=ha.eval hv;generalize a.eval = ρ at *
  simp [execOp,e1,e2,e3,e4,Instr.sliceAt,Instr.slice,Instr.sliceBounds,Instr.sliceBound,asIntOf,run_underlying c.und,run_sizeOf c.size,hi,hj,hk]⟩
end
section
variable {P:Program} {n:Nat} {ops:Array Oper} {Q:Exit→Act→World→Prop} {rest:List Oper} {L:Env} {w:World}
structure AnsX (P:Program) (f:FuncId) (args:List Value) (w:World) (R:Value→World→Prop) : Prop where
 out:Calls P f args.toArray w fun e w' => ∃ v,e = .returned v∧R v w'
theorem SW.callX {d:Nat} {f:FuncId} {xs:List Operand} {vs:List Value} {ts:Array TypeId} {T:TypeId} {pos:String} {af:Array Edge} {R:Value→World→Prop}
  [Body P f] (hx:opvs L xs=some vs) (hn:Nat.blt d n=true) (hc:AnsX P f vs w R) (h:∀ v w',R v w'→SW P n ops (.eff Q) rest ((d,v)::L) w') :
  SW P n ops (.eff Q) (⟨some d,.call ⟨.value (.func f),xs.toArray,ts⟩,T,pos,af,none⟩::rest) L w :=
 ⟨fun a ha=>by
  simp only [swp,wpList,Region.wanted,if_true]
  refine .inl ?_
  unfold Oper.wp
  rw [run_call,Oper.upon_enter,ha.evals hx]
  refine Calls.mono hc.out ?_
  rintro e w' ⟨v,rfl,hv⟩
  exact (h v w' hv).out _ (ha.put hn v)⟩
theorem ansx_of {fn:Func} {f:FuncId} {c:Code} {args:List Value} {R:Value→World→Prop} (hf:P.funcs[f]?=some fn) (hb:fn.body=some c) (hn:fn.ntmps=n) (hl:Nat.ble args.length n=true)
  (h:CW P n c (bodyPost P fn fun e w' => ∃ v,e = .returned v∧R v w') (argsEnv 0 args) w) : AnsX P f args w R:=by
 have hl':args.length≤n:=by simpa using hl
 refine ⟨calls_of_wp hf hb (h.out _ ⟨?_,rfl,?_⟩)⟩
 ·simp [hn];omega
 ·intro i v hi
  obtain ⟨_,h2⟩:=get_argsEnv args 0 i v hi
  simp only [Nat.sub_zero] at h2
  have hlt:i<args.length:=by
   rcases Nat.lt_or_ge i args.length with h|h
   ·exact h
   ·rw [List.getElem?_eq_none h] at h2;cases h2
  rw [Array.getD_eq_getD_getElem?,Array.getElem?_append_left (by simpa using hlt)]
  simp [h2]
theorem SW.entry {d:Nat} {f:FuncId} {fn:Func} {e:Array Value→Sem Value} {xs:List Operand} {vs:List Value} {v:Value} {ts:Array TypeId} {T:TypeId} {pos:String} {af:Array Edge}
  (hf : P.funcs[f]? = some fn) (hname : (fn.name == "runtime.NumGoroutine") = false) (hb : fn.body.isNone = true) (hn0 : Extern.findNext fn = none) (he : Extern.find fn = some e) (hx : opvs L xs = some vs) (hn : Nat.blt d n = true)
  (hr:(e vs.toArray).run P w = .ok v w) (h:SW P n ops (.eff Q) rest ((d,v)::L) w) :
  SW P n ops (.eff Q) (⟨some d,.call ⟨.value (.func f),xs.toArray,ts⟩,T,pos,af,none⟩::rest) L w :=
 ⟨fun a ha=>by
  simp only [swp,wpList,Region.wanted,if_true]
  refine .inl ?_
  unfold Oper.wp
  have h1:=run_callFunc_extern (P:=P) hf hname hb hn0 he vs.toArray w
  have:(execOp a.eval ⟨some d,.call ⟨.value (.func f),xs.toArray,ts⟩,T,pos,af,none⟩).run P w = .ok (.value v) w:=by
   have e2:=ha.evals hx
   simp only [execOp,resolve,Deferred.ofValue,Act.eval,Sem.run_bind,Result.andThen,invoke,List.map_toArray,e2]
   rw [hr] at h1
   simpa [Result.andThen] using h1
  rw [this,Oper.upon_value]
  exact h.out _ (ha.put hn v)⟩
end
theorem Ext.gr {w w':World} (h:Ext w w') (row:Option Nat) : w.grownBy w' row:=⟨h.os,h.tape,h.output,h.size,fun k hk _=>h.block k hk⟩
theorem grown_trans {w w1 w2:World} {row row':Option Nat} (h:w.grownBy w1 row) (k:w1.grownBy w2 row') (hr:row'=row ∨ ∀ i,row'=some i→w.heap.size≤i) : w.grownBy w2 row :=
 ⟨k.os.trans h.os,k.tape.trans h.tape,k.output.trans h.output,Nat.le_trans h.size k.size,fun i hi hne=>by
  have hi':i<w1.heap.size:=Nat.lt_of_lt_of_le hi h.size
  rcases hr with e|e
  ·subst e;rw [k.block i hi' hne,h.block i hi hne]
  ·rw [k.block i hi' (fun e'=>by have:=e i e'.symm;omega),h.block i hi hne]⟩
theorem SW.appendIn {α : Type} {P:Program} {n:Nat} {ops:Array Oper} {Q:Exit→Act→World→Prop} {rest:List Oper} {L:Env} {w:World} {dd:Nat} {T:TypeId} {pos:String} {af:Array Edge}
  {lo:Nat} {t e:TypeId} {z:Value} {sz bytes:Nat} {enc : α → List Value} {A X:Option Addr} {k c m c2:Nat} {l ys:List α} [S:SliceTy P t e sz] [T':ElemTy P e z sz bytes] [E:Enc enc sz] {x y:Operand}
  (hO:Own w lo e sz enc A k c l) (hS:Sl w sz enc X m ys) (hroom:k+m≤c) (hx:opv L x=some (.slice A k c)) (hy:opv L y=some (.slice X m c2)) (hn:Nat.blt dd n=true)
  (h:∀ w',Own w' lo e sz enc A (k+m) c (l++ys)→w.grownBy w' (ownB A c)→SW P n ops (.eff Q) rest ((dd,.slice A (k+m) c)::L) w') :
  SW P n ops (.eff Q) (⟨some dd,.call ⟨.builtin .append,#[x,y],#[t,t]⟩,T,pos,af,none⟩::rest) L w :=
 ⟨fun a ha=>by
  obtain ⟨i,hi,hz,hs,hby⟩:=elem_parts P e (z:=z) (sz:=sz) (bytes:=bytes)
  have hyl:(ys.flatMap enc).length=m*sz:=by rw [length_flatMap_enc,hS.len]
  have hone:∀ u∈ys.flatMap enc,u.oneCell'=true:=fun u hu=>by
   obtain ⟨x,_,hx⟩:=List.mem_flatMap.1 hu
   exact E.one x u hx
  have key:∃ w',(Builtin.append_ #[t,t] T #[.slice A k c,.slice X m c2]).run P w = .ok (.slice A (k+m) c) w'∧Own w' lo e sz enc A (k+m) c (l++ys)∧w.grownBy w' (ownB A c):=by
   by_cases hm0:m=0
   ·subst hm0
    have hy0:ys=[]:=List.eq_nil_of_length_eq_zero hS.len
    subst hy0
    refine ⟨w,?_,by simpa using hO,World.grownBy.refl _ _⟩
    have hkc:k≤c:=by omega
    cases A<;>cases X<;>simp [Builtin.append_,run_underlying S.und,sizeOf,typeInfo,hi,Builtin.lenOf,hkc,Builtin.firstCells,loadCells,loadCellsFrom,storeCells]
   ·obtain ⟨ad,rfl⟩:=Option.isSome_iff_exists.1 (hS.base (by omega))
    have hnews:=cells_flatMap T'.pos hS
    obtain ⟨g,rest,rfl,h1,h2,h3,h4,h5,h6⟩:=hO.opened (by omega)
    have hfit:(k+m)*sz≤c*sz:=Nat.mul_le_mul_right _ hroom
    have hfl:(l.flatMap enc).length=k*sz:=by rw [length_flatMap_enc,hO.len]
    rw [Nat.add_mul] at hfit
    have hr:=run_append_room (P:=P) w t T e i S.und hi g k c (l.flatMap enc++rest).toArray h2 ad m c2 (ys.flatMap enc) (by rw [hs];exact hyl) hnews hone hroom (by rw [hs,hyl];simp [hfl];omega)
    have e1:(l.flatMap enc++rest).toArray.toList.take (k*i.size)++ys.flatMap enc++(l.flatMap enc++rest).toArray.toList.drop (k*i.size+(ys.flatMap enc).length)=(l++ys).flatMap enc++rest.drop (m*sz):=by
     rw [hs]
     have h7:=lay_mid (l.flatMap enc) (rest.take (m*sz)) (rest.drop (m*sz)) (ys.flatMap enc) (by rw [hyl];simp;omega) (o:=k*sz) hfl.symm
     rw [List.append_assoc (l.flatMap enc),List.take_append_drop] at h7
     rw [List.flatMap_append]
     exact h7
    rw [e1] at hr
    refine ⟨_,hr,?_,?_⟩
    ·exact Own.closed (by rw [List.length_append,hO.len,hS.len]) (grown_setRow h2).1 (by rw [Nat.add_mul];simp;omega) hroom (by omega) h5 h1
    ·rw [h6];exact (grown_setRow h2).2
  obtain ⟨w',hr,h1,h2⟩:=key
  simp only [swp,wpList,Region.wanted,if_true]
  refine .inl ?_
  unfold Oper.wp
  have:(execOp a.eval ⟨some dd,.call ⟨.builtin .append,#[x,y],#[t,t]⟩,T,pos,af,none⟩).run P w = .ok (.value (.slice A (k+m) c)) w':=by
   simp [execOp,resolve,invoke,builtin,ha.eval hx,ha.eval hy,hr]
  rw [this,Oper.upon_value]
  exact (h w' h1 h2).out _ (ha.put hn _)⟩
theorem SW.appendZ {α : Type} {P:Program} {n:Nat} {ops:Array Oper} {Q:Exit→Act→World→Prop} {rest:List Oper} {L:Env} {w:World} {d:Nat} {T:TypeId} {pos:String} {af:Array Edge}
  {t tn e:TypeId} {z:Value} {sz bytes:Nat} {enc : α → List Value} {A:Option Addr} {m c k:Nat} {l:List α} {lk:IntKind} [S:SliceTy P t e sz] [T':ElemTy P e z sz bytes] [E:Enc enc sz] {x y:Operand}
  {j:Int} (hS:Sl w sz enc A m l) (htn:P.underlying tn=some (.int lk)) (hx:opv L x=some (.slice A m c)) (hy:opv L y=some (.int .i64 j)) (hj:j=(k:Int)) (hn:Nat.blt d n=true) (hk : 0<k) (hroom:c<m+k) (hb:(m+k)*bytes≤140737488355328) (hm:m+k≤9223372036854775807)
  (h:∀ g rest' c' w',Ext w w'→w.heap.size≤g→Blk w' g e (l.flatMap enc++rest')→m*sz+rest'.length=c'*sz→m+k≤c'→c'≤maxLen→SW P n ops (.eff Q) rest ((d,.slice (some ⟨g,0,none⟩) (m+k) c')::L) w') :
  SW P n ops (.eff Q) (⟨some d,.call ⟨.builtin .append,#[x,y],#[t,tn]⟩,T,pos,af,none⟩::rest) L w :=
 ⟨fun a ha=>by
  subst hj
  obtain ⟨i,hi,hz,hs,hby⟩:=elem_parts P e (z:=z) (sz:=sz) (bytes:=bytes)
  have hp:=T'.pos
  have hcells:=cells_flatMap hp hS
  have hlen:(l.flatMap enc).length=m*sz:=by rw [length_flatMap_enc,hS.len]
  have hold:(Builtin.firstCells i.size m (.slice A m c)).run P w.drew = .ok (l.flatMap enc).toArray w.drew:=by
   rw [hs]
   cases A with
   | none =>
    have h0:m=0:=by
     rcases Nat.eq_zero_or_pos m with h0|h0
     ·exact h0
     ·have:=hS.base h0;simp at this
    subst h0
    have:l=[]:=List.eq_nil_of_length_eq_zero hS.len
    subst this
    simp [Builtin.firstCells]
   | some ad =>
    simp only [Builtin.firstCells]
    rw [← hlen]
    exact run_loadCells_list (P:=P) w.drew ad _ (fun j v hv=>hcells j v hv)
  have hcap:=Room.nextslicecap_le' hroom
  have hfit:Builtin.nextslicecap (m+k) c*i.bytes≤281474976710656:=by
   rw [hby]
   calc Builtin.nextslicecap (m+k) c*bytes≤2*(m+k)*bytes:=Nat.mul_le_mul_right _ hcap
    _≤281474976710656:=by rw [Nat.mul_assoc];omega
  have h48:k*i.bytes≤281474976710656:=by
   rw [hby]
   have:k*bytes≤(m+k)*bytes:=Nat.mul_le_mul_right _ (by omega)
   omega
  have hr:=Lib.run_append_grow_zeros (P:=P) w t tn T e i z .i64 lk S.und htn hi hz A m c _ hold k hk (by rw [hs];exact hp) hroom (by omega) h48 hfit
  simp only [swp,wpList,Region.wanted,if_true]
  refine .inl ?_
  unfold Oper.wp
  have:(execOp a.eval ⟨some d,.call ⟨.builtin .append,#[x,y],#[t,tn]⟩,T,pos,af,none⟩).run P w = .ok (.value (.slice (some ⟨w.heap.size,0,none⟩) (m+k) (grownCap w (m+k) c e))) (w.drew.alloc (.cells ((l.flatMap enc).toArray++Builtin.zeroCells z.cells k++Builtin.zeroCells z.cells (grownCap w (m+k) c e-(m+k))) e)):=by
   simp [execOp,resolve,invoke,builtin,ha.eval hx,ha.eval hy,hr]
  rw [this,Oper.upon_value]
  have hg:=grownCap_ge w (m+k) c e
  refine (h w.heap.size ((Builtin.zeroCells z.cells k).toList++(Builtin.zeroCells z.cells (grownCap w (m+k) c e-(m+k))).toList) _ _ (Ext.trans (Ext.drew w) (Ext.alloc _ _)) (Nat.le_refl _) ?_ ?_ hg (grownCap_le_maxLen w _ _ _ (by simp only [maxLen];omega))).out _ (ha.put hn _)
  ·have:=Blk.new w.drew e (l.flatMap enc++((Builtin.zeroCells z.cells k).toList++(Builtin.zeroCells z.cells (grownCap w (m+k) c e-(m+k))).toList))
   have e1:(l.flatMap enc++((Builtin.zeroCells z.cells k).toList++(Builtin.zeroCells z.cells (grownCap w (m+k) c e-(m+k))).toList)).toArray=(l.flatMap enc).toArray++Builtin.zeroCells z.cells k++Builtin.zeroCells z.cells (grownCap w (m+k) c e-(m+k)):=by
    apply Array.ext';simp
   rw [e1] at this
   exact this
  ·simp only [List.length_append,Array.length_toList,Go.size_zeroCells,T'.zc]
   rw [← Nat.add_mul,← Nat.add_mul]
   congr 1;omega⟩
def isB (a o:Int) (b:Block) : Bool:=decide (b.At=a) && decide (b.Order=o)
def without (l:List Block) (a o:Int) : List Block:=l.filter fun b => !isB a o b
def joinL:Nat→List Block→Int→Int→List Block×Int×Int
 | 0,l,a,o=>(l,a,o)
 | f+1,l,a,o=>if o<4 then (if l.any (isB (beside a o) o) then joinL f (without l (beside a o) o) (min a (beside a o)) (o+1) else (l,a,o)) else (l,a,o)
def lbOf (l:List Block) (a:Int) : Nat:=l.findIdx fun b=>decide (a≤b.At)
def insAt {α : Type} (l:List α) (i:Nat) (b : α) : List α := l.take i++[b]++l.drop i
def overB (l:List Block) (a o:Int) : Bool:=l.any fun x=>decide (x.At<a+pw o) && decide (a<x.At+pw x.Order)
def ups (l:List Block) : Prop:=l.Pairwise fun x y=>x.At+pw x.Order≤y.At
structure JOk (f t:Int) (l:List Block) (a o:Int) : Prop where
 ups:ups l
 blk:∀ b∈l,blkOk f t b
 fit:fitsZ f t a o
 dis:∀ b∈l,b.At+pw b.Order≤a∨a+pw o≤b.At
theorem ups_get {l:List Block} (h:ups l) {i j:Nat} (hj:j<l.length) (hij:i<j) : (l[i]'(by omega)).At+pw (l[i]'(by omega)).Order≤l[j].At:=by
 unfold ups at h
 rw [List.pairwise_iff_getElem] at h
 exact h i j (by omega) hj hij
theorem zone_ups {z:Zone} (h:ZoneMay z) : ups z.Free:=by
 have key:∀ (d i:Nat) (hj:i+d+1<z.Free.length),(z.Free[i]'(by omega)).At+pw (z.Free[i]'(by omega)).Order≤z.Free[i+d+1].At:=by
  intro d
  induction d with
  | zero=>intro i hj;exact (h.next i hj).1
  | succ d ih =>
   intro i hj
   have h1:=ih i (by omega)
   have h2:=(h.next (i+d+1) (by omega)).1
   have hb:=(h.blk (i+d+1) (by omega)).1
   have:=pw_le hb.1 hb.2.1
   have e:z.Free[i+(d+1)+1]=z.Free[i+d+1+1]'(by omega):=rfl
   rw [e]
   omega
 unfold ups
 rw [List.pairwise_iff_getElem]
 intro i j hi hj hij
 have:=key (j-i-1) i (by omega)
 have e:i+(j-i-1)+1=j:=by omega
 simp only [e] at this
 exact this
theorem ups_uniq {f t:Int} {l:List Block} (h:ups l) (hb:∀ b∈l,blkOk f t b) {x y:Block} (hx:x∈l) (hy:y∈l) : x=y∨x.At+pw x.Order≤y.At∨y.At+pw y.Order≤x.At:=by
 obtain ⟨i,hi,rfl⟩:=List.getElem_of_mem hx
 obtain ⟨j,hj,rfl⟩:=List.getElem_of_mem hy
 rcases Nat.lt_trichotomy i j with h1|h1|h1
 ·exact .inr (.inl (ups_get h hj h1))
 ·subst h1;exact .inl rfl
 ·exact .inr (.inr (ups_get h hi h1))
theorem ups_at {f t:Int} {l:List Block} (h:ups l) (hb:∀ b∈l,blkOk f t b) {i j:Nat} (hi:i<l.length) (hj:j<l.length) (e:l[i].At=l[j].At) : i=j:=by
 have p1:=hb _ (List.getElem_mem hi)
 have p2:=hb _ (List.getElem_mem hj)
 have q1:=pw_le p1.1.1 p1.1.2.1
 have q2:=pw_le p2.1.1 p2.1.2.1
 rcases Nat.lt_trichotomy i j with h1|h1|h1
 ·have:=ups_get h hj h1;omega
 ·exact h1
 ·have:=ups_get h hi h1;omega
theorem beside_fit {a o:Int} (h : 0≤a) (h0 : 0≤o) (h4:o<4) (hm:a % pw o=0) : (min a (beside a o)) % pw (o+1)=0∧(beside a o=a+pw o∨beside a o=a-pw o)∧(beside a o) % pw o=0:=by
 rw [pw_succ h0 (by omega)]
 unfold beside
 have hp:=pw_cases h0 (show o≤4 by omega)
 generalize pw o=q at *
 rcases hp with ⟨e,rfl⟩|⟨e,rfl⟩|⟨e,rfl⟩|⟨e,rfl⟩|⟨e,rfl⟩<;>split<;>omega
theorem isB_iff {a o:Int} {b:Block}:isB a o b=true↔b.At=a∧b.Order=o:=by simp [isB]
theorem JOk.step {f t:Int} {l:List Block} {a o:Int} (h:JOk f t l a o) (h0 : 0≤f) (ho:o<4) (hany:l.any (isB (beside a o) o)=true) : JOk f t (without l (beside a o) o) (min a (beside a o)) (o+1):=by
 obtain ⟨b,hb,hi⟩:=List.any_eq_true.1 hany
 obtain ⟨e1,e2⟩:=isB_iff.1 hi
 obtain ⟨f1,f2,f3,f4,f5⟩:=h.fit
 obtain ⟨g1,g2,g3,g4,g5⟩:=(h.blk b hb).1
 obtain ⟨k1,k2,k3⟩:=beside_fit (by omega) f1 ho f5
 have hp:=pw_succ f1 f2
 have hp1:=pw_le f1 f2
 refine ⟨h.ups.sublist List.filter_sublist,fun x hx=>h.blk x ((List.mem_filter.1 hx).1),⟨by omega,by omega,by omega,by omega,k1⟩,fun x hx => ?_⟩
 have hx1:=(List.mem_filter.1 hx).1
 have hx2:isB (beside a o) o x=false:=by
  have:=(List.mem_filter.1 hx).2
  simpa using this
 have hd:=h.dis x hx1
 have hxp:=pw_le (h.blk x hx1).1.1 (h.blk x hx1).1.2.1
 rcases ups_uniq h.ups h.blk hb hx1 with e|e|e
 ·subst e;rw [hi] at hx2;cases hx2
 ·rw [hp];rw [e2] at e;omega
 ·rw [hp];omega
theorem joinL_ok {f t:Int} (h0 : 0≤f) : ∀ (k:Nat) {l:List Block} {a o:Int},JOk f t l a o→JOk f t (joinL k l a o).1 (joinL k l a o).2.1 (joinL k l a o).2.2∧(joinL k l a o).1.length≤l.length
 | 0,l,a,o,h=>⟨h,Nat.le_refl _⟩
 | k+1,l,a,o,h=>by
  simp only [joinL]
  split
  ·rename_i ho
   split
   ·rename_i hany
    have ih:=joinL_ok h0 k (h.step h0 ho hany)
    exact ⟨ih.1,Nat.le_trans ih.2 (List.length_filter_le _ _)⟩
   ·exact ⟨h,Nat.le_refl _⟩
  ·exact ⟨h,Nat.le_refl _⟩
theorem lb_spec {l:List Block} {a:Int} {i:Nat} (hi:i≤l.length) (h1:∀ (k:Nat) (h:k<l.length),k<i→l[k].At<a) (h2:∀ h:i<l.length,a≤l[i].At) : lbOf l a=i:=by
 unfold lbOf
 by_cases h:i<l.length
 ·exact (List.findIdx_eq h).2 ⟨by simpa using h2 h,fun j hj=>by simpa using h1 j (by omega) hj⟩
 ·have e:i=l.length:=by omega
  subst e
  rw [List.findIdx_eq_length]
  intro x hx
  obtain ⟨k,hk,rfl⟩:=List.getElem_of_mem hx
  simpa using h1 k hk hk
theorem lb_le (l:List Block) (a:Int) : lbOf l a≤l.length:=List.findIdx_le_length
theorem lb_below {l:List Block} {a:Int} {k:Nat} (hk:k<lbOf l a) : (l[k]'(Nat.lt_of_lt_of_le hk (lb_le l a))).At<a:=by
 have:=List.not_of_lt_findIdx hk
 simpa using this
theorem lb_at {l:List Block} {a:Int} (h:lbOf l a<l.length) : a≤(l[lbOf l a]).At:=by
 have:=List.findIdx_getElem (w:=h)
 exact of_decide_eq_true this
def foundB (l:List Block) (a o:Int) : Bool:=if h:lbOf l a<l.length then decide ((l[lbOf l a]).At=a∧(l[lbOf l a]).Order=o) else false
theorem found_any {f t:Int} {l:List Block} (hu:ups l) (hb:∀ b∈l,blkOk f t b) (a o:Int) : l.any (isB a o)=foundB l a o:=by
 unfold foundB
 by_cases h:lbOf l a<l.length
 ·rw [dif_pos h]
  by_cases hh:(l[lbOf l a]).At=a∧(l[lbOf l a]).Order=o
  ·rw [decide_eq_true hh]
   exact List.any_eq_true.2 ⟨_,List.getElem_mem h,isB_iff.2 hh⟩
  ·rw [decide_eq_false hh,List.any_eq_false]
   intro x hx hi
   obtain ⟨e1,e2⟩:=isB_iff.1 hi
   obtain ⟨j,hj,rfl⟩:=List.getElem_of_mem hx
   have h1:=lb_at h
   rcases Nat.lt_trichotomy j (lbOf l a) with hlt|hlt|hlt
   ·have:=lb_below hlt;omega
   ·subst hlt;exact hh ⟨e1,e2⟩
   ·have:=ups_get hu hj hlt
    have hp:=hb _ (List.getElem_mem h)
    have:=pw_le hp.1.1 hp.1.2.1
    omega
 ·rw [dif_neg h,List.any_eq_false]
  intro x hx hi
  obtain ⟨e1,e2⟩:=isB_iff.1 hi
  obtain ⟨j,hj,rfl⟩:=List.getElem_of_mem hx
  have:=lb_below (show j<lbOf l a by omega)
  omega
theorem erase_without {f t:Int} {l:List Block} (hu:ups l) (hb:∀ b∈l,blkOk f t b) {a o:Int} {i:Nat} (hi:i<l.length) (h1:l[i].At=a) (h2:l[i].Order=o) : l.eraseIdx i=without l a o:=by
 have hne:∀ (j:Nat) (hj:j<l.length),j≠i→isB a o l[j]=false:=fun j hj hji=>by
  cases hh:isB a o l[j] with
  | false=>rfl
  | true =>
   obtain ⟨e1,e2⟩:=isB_iff.1 hh
   exact absurd (ups_at hu hb hj hi (by omega)) hji
 have e:l=l.take i++l[i]::l.drop (i+1):=by simp
 have hL:∀ x∈l.take i,isB a o x=false:=fun x hx=>by
  obtain ⟨j,hj,rfl⟩:=List.getElem_of_mem hx
  simp at hj
  rw [List.getElem_take]
  exact hne j (by omega) (by omega)
 have hR:∀ x∈l.drop (i+1),isB a o x=false:=fun x hx=>by
  obtain ⟨j,hj,rfl⟩:=List.getElem_of_mem hx
  simp at hj
  rw [List.getElem_drop]
  exact hne _ (by omega) (by omega)
 have hm:isB a o l[i]=true:=isB_iff.2 ⟨h1,h2⟩
 unfold without
 rw [List.eraseIdx_eq_take_drop_succ]
 conv=>rhs;rw [e]
 rw [List.filter_append,List.filter_cons]
 simp only [hm,Bool.not_true,Bool.false_eq_true,if_false]
 rw [List.filter_eq_self.2 (fun x hx=>by simp [hL x hx]),List.filter_eq_self.2 (fun x hx=>by simp [hR x hx])]
noncomputable def backV (z:Zone) (a o:Int) : Int×Zone :=
 if zoneB z then (if fitsZ z.From z.To a o then (if overB z.Free a o then (5,⟨0,0,[],[]⟩) else
  (0,⟨z.From,z.To,insAt (joinL 5 z.Free a o).1 (lbOf (joinL 5 z.Free a o).1 (joinL 5 z.Free a o).2.1) ⟨(joinL 5 z.Free a o).2.1,(joinL 5 z.Free a o).2.2,z.Types.getD (((joinL 5 z.Free a o).2.1-z.From) / 8).toNat 0⟩,z.Types⟩)) else (1,⟨0,0,[],[]⟩)) else (8,⟨0,0,[],[]⟩)
theorem over_dis {f t:Int} {z:Zone} {a o:Int} (hz:ZoneMay z) (hf:fitsZ z.From z.To a o) (h:overB z.Free a o=false) : JOk z.From z.To z.Free a o:=by
 refine ⟨zone_ups hz,fun b hb => ?_,hf,fun b hb => ?_⟩
 ·obtain ⟨i,hi,rfl⟩:=List.getElem_of_mem hb
  exact hz.blk i hi
 ·unfold overB at h
  rw [List.any_eq_false] at h
  have:=h b hb
  simp at this
  omega
open Go.RowKit
set_option maxHeartbeats 4000000 in
theorem DeleteBlock_ans (A:Option Addr) (n c lo:Nat) (l:List Block) (w:World) (hO:Own w lo 94 3 encBk A n c l) (i:Nat) (hi:i<n) (hn:n≤1000000000000000000) (hlo:lo≤w.heap.size) :
  AnsX Tryz.prog 74 [.slice A n c,.int .i64 (i:Int),.int .i64 ((i+1:Nat) : Int)] w fun v w'=>v = .slice A (n-1) c∧Own w' lo 94 3 encBk A (n-1) c (l.eraseIdx i)∧w.grownBy w' (ownB A c):=by
 refine ansx_of Tryz.func74 rfl Tryz.ntmps74 rfl ?_
 have hle:=hO.le
 have hll:=hO.len
 have hA:=hO.sl.base
 have hg0:w.grownBy w (ownB A c):=World.grownBy.refl _ _
 repeat' (first|(first|refine CW.seq ?_|refine CW.region ?_|refine CW.condd_f rfl (by omega) ?_|refine CW.skip ?_)|(refine Post.seq ?_)|refine SW.nil ?_|refine SW.pure rfl rfl ?_|(show SW _ _ _ _ (⟨_,Op.call ⟨.builtin .len,_,_⟩,_,_,_,none⟩::_) _ _;refine SW.st (st_len rfl) rfl ?_)|(refine SW.st (st_slice3 (i:=i) (j:=i+1) (k:=n) rfl rfl rfl rfl (by omega) (by omega) (by omega)) rfl ?_))
 all_goals first|(exfalso;omega)|skip
 have hw:=Ext.refl w
 have e0:i+(n-(i+1))=n-1:=by omega
 have el:l.take i++l.drop (i+1)=l.eraseIdx i:=by rw [List.eraseIdx_eq_take_drop_succ]
 refine CW.any 6 mixed (rb_tail (by kernel_rfl)) rfl fun w1 hw1 hRB => ?_
 replace hw:=Ext.trans hw hw1;replace hO:=hO.ext hw1;clear hw1
 refine SA.take 0 hRB rfl (by kernel_rfl) (by kernel_rfl) rfl ?_
 repeat (refine SW.pure rfl rfl ?_)
 refine SW.tknil ?_
 refine SA.take 1 hRB rfl (by kernel_rfl) (by kernel_rfl) rfl ?_
 repeat (refine SW.pure rfl rfl ?_)
 refine SW.tknil ?_
 refine SA.take 2 hRB rfl (by kernel_rfl) (by kernel_rfl) rfl ?_
 repeat ((refine SW.st (st_sliceHi (k:=i) rfl rfl (by omega)) rfl ?_))
 refine SW.tknil ?_
 refine SA.take 3 hRB rfl (by kernel_rfl) (by kernel_rfl) rfl ?_
 repeat (refine SW.pure rfl rfl ?_)
 refine SW.tknil ?_
 refine SA.take 4 hRB rfl (by kernel_rfl) (by kernel_rfl) rfl ?_
 repeat (refine SW.pure rfl rfl ?_)
 refine SW.tknil ?_
 refine SA.take 5 hRB rfl (by kernel_rfl) (by kernel_rfl) rfl ?_
 repeat ((refine SW.st (st_sliceLo (k:=i+1) rfl rfl (by omega) (by omega)) rfl ?_))
 refine SW.tknil ?_
 refine SA.done (by kernel_rfl) ?_
 refine SW.appendIn (hO.pre (i:=i) (by omega)) (hO.sl.drop (i+1) c (by omega) (by omega)) (by omega) rfl rfl rfl fun w2 hO2 hg => ?_
 rw [e0,el] at hO2
 rw [e0]
 have hG1:=(hw.gr (ownB A c))
 repeat' (first|(first|refine CW.seq ?_|refine CW.region ?_)|(first|refine Post.seq ?_|refine Post.np ?_)|refine SW.nil ?_|refine SW.pure rfl rfl ?_|(show SW _ _ _ _ (⟨_,Op.call ⟨.builtin .len,_,_⟩,_,_,_,none⟩::_) _ _;refine SW.st (st_len rfl) rfl ?_)|(refine SW.st (st_sliceLH (i:=n-1) (j:=n) rfl rfl rfl (by omega) (by omega)) rfl ?_))
 obtain ⟨g,rest,rfl,h1,h2,h3,h4,h5,h6⟩:=hO2.opened (by omega)
 have hfl:((l.eraseIdx i).flatMap encBk).length=(n-1)*3:=by rw [length_flatMap_enc,hO2.len]
 refine SW.clear ((n-1)*3) h2 rfl (by rw [List.length_append,hfl];omega) (fun h0 => ?_) (by decide) fun w3 cs hcs hB hg3 => ?_
 ·rw [if_neg (by omega)];simp [addr_of]
 ·have e7:=lay_mid ((l.eraseIdx i).flatMap encBk) (rest.take ((n-(n-1))*3)) (rest.drop ((n-(n-1))*3)) cs (by rw [hcs];simp;omega) (o:=(n-1)*3) hfl.symm
  rw [List.append_assoc (List.flatMap _ _),List.take_append_drop] at e7
  rw [e7,List.append_assoc] at hB
  have hO3:=Own.closed (l:=l.eraseIdx i) hO2.len hB (by rw [List.length_append,hcs];simp;omega) h4 (by omega) h5 h1
  rw [← h6] at hg3
  have hgg:=grown_trans (grown_trans hG1 hg (.inl rfl)) hg3 (.inl rfl)
  repeat' (first|(first|refine CW.seq ?_|refine CW.region ?_|refine CW.ret ?_)|(refine Post.seq ?_)|refine SW.nil ?_|refine SW.pure rfl rfl ?_)
  exact Post.ret1 rfl rfl ⟨_,rfl,rfl,hO3,hgg⟩
set_option maxHeartbeats 4000000 in
theorem InsertBlock_ans (A:Option Addr) (n c lo:Nat) (l:List Block) (w:World) (hO:Own w lo 94 3 encBk A n c l) (i:Nat) (hi:i≤n) (x:Block) (b:Nat) (hB:Blk w b 94 (encBk x)) (hne:ownB A c≠some b) (hn:(n+1)*24≤140737488355328) (hlo:lo≤w.heap.size) :
  AnsX Tryz.prog 127 [.slice A n c,.int .i64 (i:Int),.slice (some ⟨b,0,none⟩) 1 1] w fun v w' => ∃ A' c',v = .slice A' (n+1) c'∧Own w' lo 94 3 encBk A' (n+1) c' (insAt l i x)∧w.grownBy w' (ownB A c):=by
 refine ansx_of Tryz.func127 rfl Tryz.ntmps127 rfl ?_
 have hle:=hO.le
 have hll:=hO.len
 have hA:=hO.sl.base
 have hw:=Ext.refl w
 have hx1:Sl w 3 encBk (some ⟨b,0,none⟩) 1 [x]:=Blk.sl1 hB
 have hxl:(encBk x).length=3:=rfl
 have hfl:∀ q:List Block,(q.flatMap encBk).length=q.length*3:=fun q=>length_flatMap_enc q
 have hone:∀ (q:List Block) (v:Value),v∈q.flatMap encBk→v.oneCell'=true:=fun q v hv=>by
  obtain ⟨u,_,hu⟩:=List.mem_flatMap.1 hv
  exact Enc.one (enc:=encBk) u v hu
 by_cases hin:i=n
 ·subst hin
  repeat' (first|(first|refine CW.seq ?_|refine CW.region ?_|refine CW.condd_t rfl (by omega) ?_|refine CW.condd_f rfl (by omega) ?_|refine CW.skip ?_)|(refine Post.seq ?_)|refine SW.nil ?_|refine SW.pure rfl rfl ?_|(show SW _ _ _ _ (⟨_,Op.call ⟨.builtin .len,_,_⟩,_,_,_,none⟩::_) _ _;refine SW.st (st_len rfl) rfl ?_)|(refine SW.st (st_sliceLo (k:=i) rfl rfl (by omega) (by omega)) rfl ?_))
  all_goals first|(exfalso;omega)|skip
  refine SW.append hO hx1 hlo rfl rfl rfl (by omega) (by omega) fun A2 c2 w2 hO2 hg => ?_
  repeat' (first|(refine CW.ret ?_)|(first|refine Post.seq ?_|refine Post.seq_ret ?_)|refine SW.nil ?_|refine SW.pure rfl rfl ?_)
  refine Post.ret1 rfl rfl ⟨_,rfl,A2,c2,rfl,?_,hg⟩
  have e:insAt l i x=l++[x]:=by unfold insAt;rw [List.take_of_length_le (by omega),List.drop_eq_nil_of_le (by omega)];simp
  rw [e];exact hO2
 ·by_cases hroom:n+1≤c
  ·obtain ⟨g,rest,rfl,h1,h2,h3,h4,h5,h6⟩:=hO.opened (by omega)
   have hgb:g≠b:=fun e=>hne (by rw [h6,e])
   have es:l.flatMap encBk++rest=(l.take i).flatMap encBk++((l.drop i).flatMap encBk++rest):=by rw [← List.append_assoc,← List.flatMap_append,List.take_append_drop]
   have e1:((l.take i).flatMap encBk).length=i*3:=by rw [hfl];simp;omega
   have e2:((l.drop i).flatMap encBk).length=(n-i)*3:=by rw [hfl];simp [hll]
   have hsrc:=hO.sl.drop i c (by omega) (by omega)
   rw [if_neg (by omega)] at hsrc
   rw [es] at h2
   have hov:∀ w',Ext w w'→(Extern.SlicesOverlaps.overlaps #[25,25] #[4] #[.slice (some ⟨b,0,none⟩) 1 1,.slice (if c=i+1 then (some ⟨g,0,none⟩) else (some (⟨g,0,none⟩ : Addr)).map (·.add ((i+1)*3))) (n+1-(i+1)) (c-(i+1))]).run Tryz.prog w' = .ok (.bool false) w':=fun w' hx=>by
    rw [if_neg (by omega),Option.map_some,addr_of]
    have b1:=hB.ext hx
    have b2:=h2.ext hx
    unfold Blk at b1 b2
    exact Lib.run_overlaps_apart w' 25 4 94 (SliceTy.und (t:=25)) 3 (fun w0=>run_sizeOf (SliceTy.size (t:=25)) w0) ⟨b,0,none⟩ ⟨g,(i+1)*3,none⟩ 1 1 _ _ (fun e=>hgb e.symm) 94 94 (encBk x).toArray.size ((l.take i).flatMap encBk++((l.drop i).flatMap encBk++rest)).toArray.size
     (by simp only [World.shape?,b1]) (by simp only [World.shape?,b2]) (by simp [e1,e2];omega) (by simp [World.frozen?,b1]) (by simp [World.frozen?,b1])
   repeat' (first|(first|refine CW.seq ?_|refine CW.region ?_|refine CW.condd_f rfl (by omega) ?_|refine CW.condt rfl ?_|refine CW.skip ?_)|(refine Post.seq ?_)|refine SW.nil ?_|refine SW.pure rfl rfl ?_|(show SW _ _ _ _ (⟨_,Op.binOp _ _ _ _ _,_,_,_,none⟩::_) _ _;refine SW.st (st_add rfl rfl (by omega) (by omega)) rfl ?_)|(show SW _ _ _ _ (⟨_,Op.call ⟨.builtin .len,_,_⟩,_,_,_,none⟩::_) _ _;refine SW.st (st_len rfl) rfl ?_)|(show SW _ _ _ _ (⟨_,Op.call ⟨.builtin .cap,_,_⟩,_,_,_,none⟩::_) _ _;refine SW.st (st_cap rfl) rfl ?_)|(refine SW.st (st_sliceLo (k:=i) rfl rfl (by omega) (by omega)) rfl ?_)|(refine SW.st (st_sliceHi (k:=n+1) rfl rfl (by omega)) rfl ?_)|(refine SW.st (st_sliceLo (k:=i+1) rfl rfl (by omega) (by omega)) rfl ?_)|(refine SW.entry Tryz.func133 (by kernel_rfl) (by kernel_rfl) (by kernel_rfl) (e:=Extern.SlicesOverlaps.overlaps #[25,25] #[4]) (by kernel_rfl) rfl rfl (hov _ hw) ?_))
   all_goals first|(exfalso;omega)|skip
   have hsz:((n-i)+1)*3≤((l.drop i).flatMap encBk++rest).length:=by rw [List.length_append,e2];omega
   have e4:(l.drop i).flatMap encBk++rest=((l.drop i).flatMap encBk++rest).take 3++(((l.drop i).flatMap encBk++rest).drop 3).take ((n-i)*3)++((l.drop i).flatMap encBk++rest).drop (3+(n-i)*3):=by
    rw [List.append_assoc,← List.drop_drop,List.take_append_drop,List.take_append_drop]
   generalize hDD:((l.drop i).flatMap encBk++rest).take 3=D1 at e4
   generalize hDE:(((l.drop i).flatMap encBk++rest).drop 3).take ((n-i)*3)=D2 at e4
   generalize hDF:((l.drop i).flatMap encBk++rest).drop (3+(n-i)*3)=D3 at e4
   have f1:D1.length=3:=by rw [← hDD];simp only [List.length_take];omega
   have f2:D2.length=(n-i)*3:=by rw [← hDE];simp only [List.length_take,List.length_drop];omega
   have f3:D3.length+3=rest.length:=by rw [← hDF];simp only [List.length_drop,List.length_append,e2];omega
   rw [e4] at h2
   refine CW.any 8 mixed (rb_tail (by kernel_rfl)) rfl fun w1 hw1 hRB => ?_
   replace hw:=Ext.trans hw hw1;replace hO:=hO.ext hw1;replace hB:=hB.ext hw1;replace h2:=h2.ext hw1;clear hw1
   refine SA.take 0 hRB rfl (by kernel_rfl) (by kernel_rfl) rfl ?_
   repeat (refine SW.pure rfl rfl ?_)
   refine SW.tknil ?_
   refine SA.take 1 hRB rfl (by kernel_rfl) (by kernel_rfl) rfl ?_
   repeat (refine SW.pure rfl rfl ?_)
   refine SW.tknil ?_
   refine SA.take 2 hRB rfl (by kernel_rfl) (by kernel_rfl) rfl ?_
   repeat (refine SW.pure rfl rfl ?_)
   refine SW.tknil ?_
   refine SA.take 3 hRB rfl (by kernel_rfl) (by kernel_rfl) rfl ?_
   repeat ((show SW _ _ _ _ (⟨_,Op.binOp _ _ _ _ _,_,_,_,none⟩::_) _ _;refine SW.st (st_add rfl rfl (by omega) (by omega)) rfl ?_))
   refine SW.tknil ?_
   refine SA.take 4 hRB rfl (by kernel_rfl) (by kernel_rfl) rfl ?_
   repeat ((refine SW.st (st_sliceLo (k:=i+1) rfl rfl (by omega) (by omega)) rfl ?_))
   refine SW.tknil ?_
   refine SA.take 5 hRB rfl (by kernel_rfl) (by kernel_rfl) rfl ?_
   repeat (refine SW.pure rfl rfl ?_)
   refine SW.tknil ?_
   refine SA.take 6 hRB rfl (by kernel_rfl) (by kernel_rfl) rfl ?_
   repeat (refine SW.pure rfl rfl ?_)
   refine SW.tknil ?_
   refine SA.take 7 hRB rfl (by kernel_rfl) (by kernel_rfl) rfl ?_
   repeat ((refine SW.st (st_sliceLo (k:=i) rfl rfl (by omega) (by omega)) rfl ?_))
   refine SW.tknil ?_
   refine SA.done (by kernel_rfl) ?_
   refine SW.copy (k:=n-i) ((i+1)*3) ((l.drop i).flatMap encBk) h2 rfl rfl rfl (by omega) e2 (by simp only [List.length_append,e1,e2,f1,f2];omega) (fun h0=>⟨by rw [if_neg (by omega)];simp [addr_of],(⟨g,0,none⟩ : Addr).add (i*3),by rw [if_neg (by omega)];rfl,fun j v hv=>cells_flatMap (by omega) (hsrc.ext hw) j v hv⟩) (hone _) fun w3 h2' hg3 => ?_
   have g1:=lay_mid ((l.take i).flatMap encBk++D1) D2 D3 ((l.drop i).flatMap encBk) (by rw [e2,f2]) (o:=(i+1)*3) (by rw [List.length_append,e1,f1];omega)
   have g0:(l.take i).flatMap encBk++(D1++D2++D3)=(l.take i).flatMap encBk++D1++D2++D3:=by simp only [List.append_assoc]
   rw [g0,g1] at h2'
   have hG1:=grown_trans (hw.gr (ownB (some ⟨g,0,none⟩) c)) hg3 (.inl h6.symm)
   have hB3:=hB.grown hg3 (by simpa using fun e=>hgb e.symm)
   repeat' (first|(first|refine CW.seq ?_|refine CW.region ?_)|(first|refine Post.seq ?_|refine Post.np ?_)|refine SW.nil ?_|refine SW.pure rfl rfl ?_|(refine SW.st (st_sliceLo (k:=i) rfl rfl (by omega) (by omega)) rfl ?_))
   refine SW.copy (k:=1) (i*3) (encBk x) h2' rfl rfl rfl (by omega) hxl (by simp only [List.length_append,e1,e2,f1,hxl];omega) (fun h0=>⟨by rw [if_neg (by omega)];simp [addr_of],⟨b,0,none⟩,rfl,fun j v hv=>hB3.cell hv⟩) (Enc.one (enc:=encBk) x) fun w4 h2'' hg4 => ?_
   have g2:=lay_mid ((l.take i).flatMap encBk) D1 ((l.drop i).flatMap encBk++D3) (encBk x) (by rw [hxl,f1]) (o:=i*3) e1.symm
   have g3:(l.take i).flatMap encBk++D1++(l.drop i).flatMap encBk++D3=(l.take i).flatMap encBk++D1++((l.drop i).flatMap encBk++D3):=by simp only [List.append_assoc]
   have g4:(l.take i).flatMap encBk++encBk x++((l.drop i).flatMap encBk++D3)=(insAt l i x).flatMap encBk++D3:=by unfold insAt;simp only [List.flatMap_append,List.flatMap_cons,List.flatMap_nil,List.append_nil,List.append_assoc]
   rw [g3,g2,g4] at h2''
   have hO':=Own.closed (n:=n+1) (c:=c) (l:=insAt l i x) (by unfold insAt;simp;omega) h2'' (by omega) hroom (by omega) h5 h1
   have hG2:=grown_trans hG1 hg4 (.inl h6.symm)
   repeat' (first|(first|refine CW.seq ?_|refine CW.region ?_|refine CW.ret ?_)|(first|refine Post.seq ?_|refine Post.seq_ret ?_)|refine SW.nil ?_|refine SW.pure rfl rfl ?_)
   exact Post.ret1 rfl rfl ⟨_,rfl,_,_,rfl,hO',hG2⟩
  ·have hcn:c=n:=by omega
   have hsrc:=hO.sl.drop i c (by omega) (by omega)
   have hpre:=hO.sl.pre (i:=i) (by omega)
   repeat' (first|(first|refine CW.seq ?_|refine CW.region ?_|refine CW.condd_t rfl (by omega) ?_|refine CW.condd_f rfl (by omega) ?_|refine CW.skip ?_)|(refine Post.seq ?_)|refine SW.nil ?_|refine SW.pure rfl rfl ?_|(show SW _ _ _ _ (⟨_,Op.binOp _ _ _ _ _,_,_,_,none⟩::_) _ _;first|refine SW.st (st_add rfl rfl (by omega) (by omega)) rfl ?_|refine SW.st (st_sub rfl rfl (by omega) (by omega)) rfl ?_)|(show SW _ _ _ _ (⟨_,Op.call ⟨.builtin .len,_,_⟩,_,_,_,none⟩::_) _ _;refine SW.st (st_len rfl) rfl ?_)|(show SW _ _ _ _ (⟨_,Op.call ⟨.builtin .cap,_,_⟩,_,_,_,none⟩::_) _ _;refine SW.st (st_cap rfl) rfl ?_)|(refine SW.st (st_sliceLo (k:=i) rfl rfl (by omega) (by omega)) rfl ?_)|(refine SW.st (st_sliceHi (k:=i) rfl rfl (by omega)) rfl ?_))
   all_goals first|(exfalso;omega)|skip
   refine SW.appendZ (k:=n+1-i) hpre Tryz.underlying3 rfl rfl (by omega) rfl (by omega) (by omega) (by omega) (by omega) fun g rest c2 w2 hw2 hg2 h2 h3 h4 h5 => ?_
   have e1:((l.take i).flatMap encBk).length=i*3:=by rw [hfl];simp;omega
   have e2:((l.drop i).flatMap encBk).length=(n-i)*3:=by rw [hfl];simp [hll]
   have hsz:((n-i)+1)*3≤rest.length:=by omega
   have e4:rest=rest.take 3++(rest.drop 3).take ((n-i)*3)++rest.drop (3+(n-i)*3):=by
    rw [List.append_assoc,← List.drop_drop,List.take_append_drop,List.take_append_drop]
   generalize hDD:rest.take 3=D1 at e4
   generalize hDE:(rest.drop 3).take ((n-i)*3)=D2 at e4
   generalize hDF:rest.drop (3+(n-i)*3)=D3 at e4
   have f1:D1.length=3:=by rw [← hDD];simp only [List.length_take];omega
   have f2:D2.length=(n-i)*3:=by rw [← hDE];simp only [List.length_take,List.length_drop];omega
   have f3:D3.length+((n-i)+1)*3=rest.length:=by rw [← hDF];simp only [List.length_drop];omega
   rw [e4] at h2
   have hrow:ownB A c≠some g:=fun e=>by have:=hO.lt_size _ e;omega
   have hgb:b≠g:=by have:=hB.lt;omega
   replace hsrc:=hsrc.ext hw2
   replace hB:=hB.ext hw2
   replace hw:=Ext.trans hw hw2
   repeat' (first|(first|refine CW.seq ?_|refine CW.region ?_)|(refine Post.seq ?_)|refine SW.nil ?_|refine SW.pure rfl rfl ?_|(refine SW.st (st_sliceLo (k:=i) rfl rfl (by omega) (by omega)) rfl ?_))
   refine SW.copy (k:=1) (i*3) (encBk x) h2 rfl rfl rfl (by omega) hxl (by simp only [List.length_append,e1,f1,f2,hxl];omega) (fun h0=>⟨by rw [if_neg (by omega)];simp [addr_of],⟨b,0,none⟩,rfl,fun j v hv=>hB.cell hv⟩) (Enc.one (enc:=encBk) x) fun w3 h2' hg3 => ?_
   have g2:=lay_mid ((l.take i).flatMap encBk) D1 (D2++D3) (encBk x) (by rw [hxl,f1]) (o:=i*3) e1.symm
   have g3:(l.take i).flatMap encBk++(D1++D2++D3)=(l.take i).flatMap encBk++D1++(D2++D3):=by simp only [List.append_assoc]
   rw [g3,g2] at h2'
   have hX3:Ext w w3:=hw.own hg2 hg3
   have hsrc3:Sl w3 3 encBk (if c=i then A else A.map (·.add (i*3))) (n-i) (l.drop i):=(hO.sl.drop i c (by omega) (by omega)).ext hX3
   replace hw:=hX3
   repeat' (first|(refine CW.seq ?_)|(refine Post.seq ?_)|refine SW.nil ?_)
   refine CW.any 8 mixed (rb_tail (by kernel_rfl)) rfl fun w1 hw1 hRB => ?_
   replace hw:=Ext.trans hw hw1;replace h2':=h2'.ext hw1;replace hsrc3:=hsrc3.ext hw1;clear hw1
   refine SA.take 0 hRB rfl (by kernel_rfl) (by kernel_rfl) rfl ?_
   repeat (refine SW.pure rfl rfl ?_)
   refine SW.tknil ?_
   refine SA.take 1 hRB rfl (by kernel_rfl) (by kernel_rfl) rfl ?_
   repeat (refine SW.pure rfl rfl ?_)
   refine SW.tknil ?_
   refine SA.take 2 hRB rfl (by kernel_rfl) (by kernel_rfl) rfl ?_
   repeat (refine SW.pure rfl rfl ?_)
   refine SW.tknil ?_
   refine SA.take 3 hRB rfl (by kernel_rfl) (by kernel_rfl) rfl ?_
   repeat ((show SW _ _ _ _ (⟨_,Op.binOp _ _ _ _ _,_,_,_,none⟩::_) _ _;refine SW.st (st_add rfl rfl (by omega) (by omega)) rfl ?_))
   refine SW.tknil ?_
   refine SA.take 4 hRB rfl (by kernel_rfl) (by kernel_rfl) rfl ?_
   repeat ((refine SW.st (st_sliceLo (k:=i+1) rfl rfl (by omega) (by omega)) rfl ?_))
   refine SW.tknil ?_
   refine SA.take 5 hRB rfl (by kernel_rfl) (by kernel_rfl) rfl ?_
   repeat (refine SW.pure rfl rfl ?_)
   refine SW.tknil ?_
   refine SA.take 6 hRB rfl (by kernel_rfl) (by kernel_rfl) rfl ?_
   repeat (refine SW.pure rfl rfl ?_)
   refine SW.tknil ?_
   refine SA.take 7 hRB rfl (by kernel_rfl) (by kernel_rfl) rfl ?_
   repeat ((refine SW.st (st_sliceLo (k:=i) rfl rfl (by omega) (by omega)) rfl ?_))
   refine SW.tknil ?_
   refine SA.done (by kernel_rfl) ?_
   refine SW.copy (k:=n-i) ((i+1)*3) ((l.drop i).flatMap encBk) h2' rfl rfl rfl (by omega) e2 (by simp only [List.length_append,e1,e2,f2,hxl];omega) (fun h0=>⟨by rw [if_neg (by omega)];simp [addr_of],(if c=i then A else A.map (·.add (i*3))).getD default,?_,fun j v hv=>cells_flatMap (by omega) hsrc3 j v hv⟩) (hone _) fun w4 h2'' hg4 => ?_
   ·obtain ⟨a,ha⟩:=Option.isSome_iff_exists.1 (hsrc3.base h0)
    rw [ha];rfl
   ·have g4:=lay_mid ((l.take i).flatMap encBk++encBk x) D2 D3 ((l.drop i).flatMap encBk) (by rw [e2,f2]) (o:=(i+1)*3) (by rw [List.length_append,e1,hxl];omega)
    have g5:(l.take i).flatMap encBk++encBk x++(D2++D3)=(l.take i).flatMap encBk++encBk x++D2++D3:=by simp only [List.append_assoc]
    have g6:(l.take i).flatMap encBk++encBk x++(l.drop i).flatMap encBk++D3=(insAt l i x).flatMap encBk++D3:=by unfold insAt;simp only [List.flatMap_append,List.flatMap_cons,List.flatMap_nil,List.append_nil,List.append_assoc]
    rw [g5,g4,g6] at h2''
    have hO':=Own.closed (n:=n+1) (c:=c2) (lo:=lo) (l:=insAt l i x) (by unfold insAt;simp;omega) h2'' (by omega) (by omega) (by omega) h5 (by omega)
    have hw4:Ext w w4:=hw.own hg2 hg4
    have e9:i+(n+1-i)=n+1:=by omega
    repeat' (first|(first|refine CW.seq ?_|refine CW.region ?_|refine CW.ret ?_)|(first|refine Post.seq ?_|refine Post.seq_ret ?_|refine Post.np ?_)|refine SW.nil ?_|refine SW.pure rfl rfl ?_)
    rw [e9]
    exact Post.ret1 rfl rfl ⟨_,rfl,_,_,rfl,hO',hw4.gr _⟩
end Go.Proofs.YtigikedbffjeiaaGreat
