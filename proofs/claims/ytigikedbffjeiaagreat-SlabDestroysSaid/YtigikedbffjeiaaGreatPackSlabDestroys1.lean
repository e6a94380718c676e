/-
  Texts of the claim SlabDestroys, part 1: what its theorem leans on.
-/
import Derived.Test.YtigikedbffjeiaaGreatPackSlabDestroys0
import Derived.Laws.AppendOwnNone
import Derived.Laws.CopyOwn
import Derived.StillTail
import Derived.Deep.RegionHeld3
import Derived.Laws.CopyRow
import Derived.Laws.StructEq
set_option linter.unusedVariables false
set_option linter.unusedSimpArgs false
namespace Go.Proofs.YtigikedbffjeiaaGreat
open Go.RowKit
class Enc {α : Type} (enc : α → List Value) (sz:outParam Nat) : Prop where
 len:∀ x,(enc x).length=sz
 one:∀ x,∀ u∈enc x,u.oneCell'=true
instance:Enc encI 1:=⟨fun _=>rfl,fun _ u hu=>by simp [encI] at hu;subst hu;rfl⟩
def ownB (A:Option Addr) (c:Nat) : Option Nat:=if c=0 then none else A.map (·.block)
structure Own {α : Type} (w:World) (lo:Nat) (e:TypeId) (sz:Nat) (enc : α → List Value) (A:Option Addr) (n c:Nat) (l:List α) : Prop where
 len:l.length=n
 row:(n=0∧c=0)∨(0<c ∧ ∃ g cur,A=some ⟨g,0,none⟩∧lo≤g∧w.heap[g]?=some (.cells cur e (0,0))∧n≤c∧c≤maxLen∧cur.size=c*sz∧cur.toList.take (n*sz)=l.flatMap enc)
theorem length_flatMap_enc {α : Type} {enc : α → List Value} {sz:Nat} [E:Enc enc sz] : ∀ (l:List α),(l.flatMap enc).length=l.length*sz
 | []=>by simp
 | x::r=>by simp [List.flatMap_cons,E.len,length_flatMap_enc r,Nat.add_mul];omega
theorem getElem_flatMap_enc {α : Type} {enc : α → List Value} {sz:Nat} [E:Enc enc sz] : ∀ (l:List α) (i:Nat) (h:i<l.length) (j:Nat) (u:Value),(enc l[i])[j]?=some u→(l.flatMap enc)[i*sz+j]?=some u
 | x::r,0,_,j,u,hu=>by
  have hj:j<(enc x).length:=by
   rcases Nat.lt_or_ge j (enc x).length with h|h
   ·exact h
   ·simp [List.getElem?_eq_none h] at hu
  simp only [List.flatMap_cons,Nat.zero_mul,Nat.zero_add]
  rw [List.getElem?_append_left hj]
  simpa using hu
 | x::r,i+1,h,j,u,hu=>by
  have ih:=getElem_flatMap_enc r i (by simpa using h) j u (by simpa using hu)
  simp only [List.flatMap_cons]
  rw [List.getElem?_append_right (by rw [E.len,Nat.add_mul];omega),E.len]
  rw [← ih]
  congr 1
  rw [Nat.add_mul]
  omega
theorem cells_flatMap {α : Type} {enc : α → List Value} {sz:Nat} [E:Enc enc sz] (hsz : 0<sz) {w:World} {A:Option Addr} {n:Nat} {l:List α} (h:Sl w sz enc A n l) :
  ∀ j u,(l.flatMap enc)[j]?=some u→w.cell? ((A.getD default).add j)=some u:=by
 intro j u hu
 have hj:j<l.length*sz:=by
  rw [← length_flatMap_enc (enc:=enc)]
  rcases Nat.lt_or_ge j (l.flatMap enc).length with h|h
  ·exact h
  ·simp [List.getElem?_eq_none h] at hu
 have hi:j / sz<l.length:=Nat.div_lt_of_lt_mul (by rw [Nat.mul_comm];exact hj)
 have hm:j % sz<(enc l[j / sz]).length:=by rw [E.len];exact Nat.mod_lt _ hsz
 have h1:=getElem_flatMap_enc (enc:=enc) l (j / sz) hi (j % sz) _ (List.getElem?_eq_getElem hm)
 have e:j / sz*sz+j % sz=j:=by rw [Nat.mul_comm];exact Nat.div_add_mod j sz
 rw [e,hu] at h1
 have h2:=h.cell (j / sz) hi (j % sz) _ (List.getElem?_eq_getElem hm)
 rw [add_add,e] at h2
 rw [h2,h1]
namespace Own
variable {α : Type} {w w':World} {lo:Nat} {e:TypeId} {sz:Nat} {enc : α → List Value} {A:Option Addr} {n c:Nat} {l:List α}
theorem nil_ (w:World) (lo:Nat) (e:TypeId) (sz:Nat) (enc : α → List Value) (A:Option Addr) : Own w lo e sz enc A 0 0 ([] : List α):=⟨rfl,.inl ⟨rfl,rfl⟩⟩
theorem le (h:Own w lo e sz enc A n c l) : n≤c∧c≤maxLen:=by
 rcases h.row with ⟨rfl,rfl⟩|⟨_,g,cur,_,_,_,h1,h2,_⟩
 ·simp
 ·exact ⟨h1,h2⟩
theorem grown (h:Own w lo e sz enc A n c l) {row:Option Nat} (hg:w.grownBy w' row) (hne:ownB A c=none∨ownB A c≠row) : Own w' lo e sz enc A n c l:=by
 refine ⟨h.len,?_⟩
 rcases h.row with h0|⟨hc,g,cur,rfl,h1,h2,h3,h4,h5,h6⟩
 ·exact .inl h0
 ·refine .inr ⟨hc,g,cur,rfl,h1,?_,h3,h4,h5,h6⟩
  rw [hg.block g (Array.getElem?_eq_some_iff.1 h2).1 (by simpa [ownB,Nat.pos_iff_ne_zero.1 hc] using hne),h2]
theorem ext (h:Own w lo e sz enc A n c l) (hx:Ext w w') : Own w' lo e sz enc A n c l:=by
 refine ⟨h.len,?_⟩
 rcases h.row with h0|⟨hc,g,cur,rfl,h1,h2,h3,h4,h5,h6⟩
 ·exact .inl h0
 ·refine .inr ⟨hc,g,cur,rfl,h1,?_,h3,h4,h5,h6⟩
  rw [hx.block g (Array.getElem?_eq_some_iff.1 h2).1,h2]
theorem owns (h:Own w lo e sz enc A n c l) (hc : 0<c) [Enc enc sz] : w.ownsRow lo e sz (.slice A n c) n (l.flatMap enc):=by
 rcases h.row with ⟨_,rfl⟩|⟨_,g,cur,rfl,h1,h2,h3,h4,h5,h6⟩
 ·omega
 ·exact ⟨by rw [length_flatMap_enc,h.len],.inr ⟨g,c,cur,rfl,h1,h2,h3,h4,h5,h6⟩⟩
theorem of_owns {m:Nat} {v:Value} (h:w.ownsRow lo e sz v m (l.flatMap enc)) (hl:l.length=m) : ∃ A c,v = .slice A m c∧Own w lo e sz enc A m c l:=by
 rcases h.2 with ⟨rfl,rfl⟩|⟨g,cap,cur,rfl,h1,h2,h3,h4,h5,h6⟩
 ·exact ⟨none,0,rfl,hl,.inl ⟨rfl,rfl⟩⟩
 ·refine ⟨_,_,rfl,hl,?_⟩
  by_cases hc:cap=0
  ·exact .inl ⟨by omega,hc⟩
  ·exact .inr ⟨by omega,g,cur,rfl,h1,h2,h3,h4,h5,h6⟩
theorem low (h:Own w lo e sz enc A n c l) {lo':Nat} (hl:lo'≤lo) : Own w lo' e sz enc A n c l:=by
 refine ⟨h.len,?_⟩
 rcases h.row with h0|⟨hc,g,cur,rfl,h1,r⟩
 ·exact .inl h0
 ·exact .inr ⟨hc,g,cur,rfl,Nat.le_trans hl h1,r⟩
theorem sl (h:Own w lo e sz enc A n c l) [E:Enc enc sz] : Sl w sz enc A n l:=by
 refine ⟨h.len,fun hn => ?_,fun i hi j u hu => ?_⟩
 ·rcases h.row with ⟨h0,_⟩|⟨_,g,cur,rfl,_⟩
  ·omega
  ·rfl
 ·rcases h.row with ⟨h0,_⟩|⟨_,g,cur,rfl,h1,h2,h3,h4,h5,h6⟩
  ·have:=h.len;omega
  ·have hf:=getElem_flatMap_enc (enc:=enc) l i hi j u hu
   rw [← h6,List.getElem?_take] at hf
   split at hf
   ·rw [add_add]
    have e:((some (⟨g,0,none⟩ : Addr)).getD default).add (i*sz+j)=⟨g,i*sz+j,none⟩:=by
     show (⟨g,0,none⟩ : Addr).add _=_
     unfold Addr.add;split<;>simp_all
    rw [e,cell_of_row w g _ cur _ (0,0) h2]
    simpa using hf
   ·cases hf
end Own
theorem ext_grown {base w w':World} {row:Option Nat} {lo:Nat} (h:Ext base w) (hg:w.grownBy w' row) (hlo:base.heap.size≤lo) (hr:∀ k,row=some k→lo≤k) : Ext base w' :=
 Below.grown h hg h.size (fun k e=>Nat.le_trans hlo (hr k e))
theorem Own.row_ge {α : Type} {w:World} {lo:Nat} {e:TypeId} {sz:Nat} {enc : α → List Value} {A:Option Addr} {n c:Nat} {l:List α} (h:Own w lo e sz enc A n c l) : ∀ k,ownB A c=some k→lo≤k:=by
 intro k hk
 rcases h.row with ⟨_,rfl⟩|⟨hc,g,cur,rfl,h1,_⟩
 ·simp [ownB] at hk
 ·simp [ownB,Nat.pos_iff_ne_zero.1 hc] at hk
  omega
section
variable {α : Type} {P:Program} {w:World} {lo:Nat} {t e:TypeId} {z:Value} {sz bytes:Nat} {enc : α → List Value} {A X:Option Addr} {n c m d:Nat} {l ys:List α}
theorem elem_parts (P:Program) (e:TypeId) {z:Value} {sz bytes:Nat} [E:ElemTy P e z sz bytes] : ∃ i,P.info? e=some i∧i.zero=some z∧i.size=sz∧i.bytes=bytes:=by
 have h:=E.info
 cases hi:P.info? e with
 | none=>simp [hi] at h
 | some i=>simp [hi] at h;exact ⟨i,rfl,h.1,h.2.1,h.2.2⟩
theorem run_append_gen [S:SliceTy P t e sz] [T:ElemTy P e z sz bytes] [E:Enc enc sz] (ty:TypeId) (hO:Own w lo e sz enc A n c l) (hS:Sl w sz enc X m ys) (hlo:lo≤w.heap.size)
  (hb:(n+m)*bytes≤140737488355328) (hm:n+m≤maxLen) :
  ∃ A' c' w',(Builtin.append_ #[t,t] ty #[.slice A n c,.slice X m d]).run P w = .ok (.slice A' (n+m) c') w'∧Own w' lo e sz enc A' (n+m) c' (l++ys)∧w.grownBy w' (ownB A c):=by
 obtain ⟨i,hi,hz,hs,hby⟩:=elem_parts P e (z:=z) (sz:=sz) (bytes:=bytes)
 have hyl:(ys.flatMap enc).length=m*sz:=by rw [length_flatMap_enc,hS.len]
 have hone:∀ u∈ys.flatMap enc,u.oneCell'=true:=fun u hu=>by
  obtain ⟨x,_,hx⟩:=List.mem_flatMap.1 hu
  exact E.one x u hx
 have hcat:(l++ys).flatMap enc=l.flatMap enc++ys.flatMap enc:=List.flatMap_append
 have hll:(l++ys).length=n+m:=by rw [List.length_append,hO.len,hS.len]
 by_cases hm0:m=0
 ·subst hm0
  have hy:ys=[]:=List.eq_nil_of_length_eq_zero hS.len
  subst hy
  have hnc:=hO.le.1
  refine ⟨A,c,w,?_,by simpa using hO,World.grownBy.refl _ _⟩
  cases A<;>cases X<;>simp [Builtin.append_,run_underlying S.und,sizeOf,typeInfo,hi,Builtin.lenOf,hnc,Builtin.firstCells,loadCells,loadCellsFrom,storeCells]
 ·obtain ⟨ad,rfl⟩:=Option.isSome_iff_exists.1 (hS.base (by omega))
  have hnews:=cells_flatMap T.pos hS
  by_cases hc:c=0
  ·have hn:n=0:=by have:=hO.le.1;omega
   subst hc hn
   have hl:l=[]:=List.eq_nil_of_length_eq_zero hO.len
   subst hl
   have hgoal:∀ v' w',w'.ownsRow lo e sz v' (0+m) (([] : List Value)++ys.flatMap enc) → ∃ A' c',v' = .slice A' (0+m) c'∧Own w' lo e sz enc A' (0+m) c' ([]++ys):=fun v' w' h' =>
    Own.of_owns (l:=[]++ys) (enc:=enc) (by simpa using h') (by simpa using hS.len)
   cases A with
   | none =>
    obtain ⟨v',w',hr,h2,h3,_⟩:=run_append_own (P:=P) w lo t ty e i z sz bytes S.und hi hz hs hby T.zc T.pos (.slice none 0 0) 0 [] (World.ownsRow_nil _ _ _ _) ad m d (ys.flatMap enc) hyl hnews hone hm hb hlo
    obtain ⟨A',c',rfl,ho⟩:=hgoal _ _ h2
    exact ⟨A',c',w',hr,ho,by simpa [ownB,Value.ownBlock] using h3⟩
   | some b =>
    obtain ⟨v',w',hr,h2,h3⟩:=run_append_arg_grows (P:=P) w t ty e i z sz bytes S.und hi hz hs hby T.zc T.pos b 0 0 [] (by simp) (by simp) ad m d (ys.flatMap enc) hyl hnews (by omega) hm hb
    have h2':w'.ownsRow lo e sz v' (0+m) (([] : List Value)++ys.flatMap enc):=⟨h2.1,by
     rcases h2.2 with h|⟨g,cap,cur,e1,e2,r⟩
     ·exact .inl h
     ·exact .inr ⟨g,cap,cur,e1,Nat.le_trans hlo e2,r⟩⟩
    obtain ⟨A',c',rfl,ho⟩:=hgoal _ _ h2'
    exact ⟨A',c',w',hr,ho,by simpa [ownB] using h3⟩
  ·obtain ⟨v',w',hr,h2,h3,_⟩:=run_append_own (P:=P) w lo t ty e i z sz bytes S.und hi hz hs hby T.zc T.pos (.slice A n c) n (l.flatMap enc) (hO.owns (by omega)) ad m d (ys.flatMap enc) hyl hnews hone hm hb hlo
   rw [← hcat] at h2
   obtain ⟨A',c',rfl,ho⟩:=Own.of_owns h2 hll
   refine ⟨A',c',w',hr,ho,?_⟩
   have:(Value.slice A n c).ownBlock=ownB A c:=by cases A<;>simp [Value.ownBlock,ownB,hc]
   rwa [this] at h3
end
section
variable {α : Type} {P:Program} {n:Nat} {ops:Array Oper} {Q:Exit→Act→World→Prop} {rest:List Oper} {L:Env} {w:World} {d:Nat} {T:TypeId} {pos:String} {af:Array Edge}
theorem SW.append {lo:Nat} {t e:TypeId} {z:Value} {sz bytes:Nat} {enc : α → List Value} {A X:Option Addr} {k c m c2:Nat} {l ys:List α} [SliceTy P t e sz] [ElemTy P e z sz bytes] [Enc enc sz] {x y:Operand}
  (hO:Own w lo e sz enc A k c l) (hS:Sl w sz enc X m ys) (hlo:lo≤w.heap.size) (hx:opv L x=some (.slice A k c)) (hy:opv L y=some (.slice X m c2)) (hn:Nat.blt d n=true)
  (hb:(k+m)*bytes≤140737488355328) (hm:k+m≤9223372036854775807)
  (h:∀ A' c' w',Own w' lo e sz enc A' (k+m) c' (l++ys)→w.grownBy w' (ownB A c)→SW P n ops (.eff Q) rest ((d,.slice A' (k+m) c')::L) w') :
  SW P n ops (.eff Q) (⟨some d,.call ⟨.builtin .append,#[x,y],#[t,t]⟩,T,pos,af,none⟩::rest) L w :=
 ⟨fun a ha=>by
  obtain ⟨A',c',w',hr,h1,h2⟩:=run_append_gen (P:=P) (t:=t) T hO hS (d:=c2) hlo hb (by simp only [maxLen];omega)
  simp only [swp,wpList,Region.wanted,if_true]
  refine .inl ?_
  unfold Oper.wp
  have:(execOp a.eval ⟨some d,.call ⟨.builtin .append,#[x,y],#[t,t]⟩,T,pos,af,none⟩).run P w = .ok (.value (.slice A' (k+m) c')) w':=by
   simp [execOp,resolve,invoke,builtin,ha.eval hx,ha.eval hy,hr]
  rw [this,Oper.upon_value]
  exact (h A' c' w' h1 h2).out _ (ha.put hn _)⟩
theorem SW.appendR {lo:Nat} {t e:TypeId} {z:Value} {sz bytes:Nat} {enc : α → List Value} {A X:Option Addr} {k c m c2:Nat} {l ys l':List α} {r:Nat} [SliceTy P t e sz] [ElemTy P e z sz bytes] [Enc enc sz] {x y:Operand}
  (hr:k+m=r) (hl':l++ys=l') (hO:Own w lo e sz enc A k c l) (hS:Sl w sz enc X m ys) (hlo:lo≤w.heap.size) (hx:opv L x=some (.slice A k c)) (hy:opv L y=some (.slice X m c2)) (hn:Nat.blt d n=true)
  (hb:(k+m)*bytes≤140737488355328) (hm:k+m≤9223372036854775807)
  (h:∀ A' c' w',Own w' lo e sz enc A' r c' l'→w.grownBy w' (ownB A c)→SW P n ops (.eff Q) rest ((d,.slice A' r c')::L) w') :
  SW P n ops (.eff Q) (⟨some d,.call ⟨.builtin .append,#[x,y],#[t,t]⟩,T,pos,af,none⟩::rest) L w:=by
 subst hr hl'
 exact SW.append hO hS hlo hx hy hn hb hm h
theorem SW.build0 {t e:TypeId} {z:Value} {sz bytes:Nat} [S:SliceTy P t e sz] [E:ElemTy P e z sz bytes] (hn:Nat.blt d n=true)
  (h:∀ b w',Ext w w'→w.heap.size≤b→SW P n ops (.eff Q) rest ((d,.slice (some ⟨b,0,none⟩) 0 0)::L) w') : SW P n ops (.eff Q) (⟨some d,.buildSlice t 0 #[],T,pos,af,none⟩::rest) L w :=
 ⟨fun a ha=>by
  obtain ⟨i,hi,hz,hs',hby⟩:=elem_parts P e (z:=z) (sz:=sz) (bytes:=bytes)
  simp only [swp,wpList,Region.wanted,if_true]
  refine .inl ?_
  unfold Oper.wp
  have:(execOp a.eval ⟨some d,.buildSlice t 0 #[],T,pos,af,none⟩).run P w = .ok (.value (.slice (some ⟨w.heap.size,0,none⟩) 0 0)) (w.alloc (.cells #[] e)):=by
   simp [execOp,Instr.buildSlice,run_underlying S.und,sizeOf,typeInfo,hi,Instr.fill,newRow,Array.range_zero']
  rw [this,Oper.upon_value]
  exact (h _ _ (Ext.alloc w _) (Nat.le_refl _)).out _ (ha.put hn _)⟩
theorem foldl_set_self:∀ (vs:List Value) (k:Nat) (cs:Array Value),k+vs.length≤cs.size →
  ((vs.zipIdx k).foldl (fun (cs:Array Value) (p:Value×Nat)=>cs.setIfInBounds p.2 p.1) cs).toList=cs.toList.take k++vs++cs.toList.drop (k+vs.length)
 | [],k,cs,_=>by simp
 | v::r,k,cs,h=>by
  simp only [List.zipIdx_cons,List.foldl_cons,List.length_cons] at h ⊢
  rw [foldl_set_self r (k+1) _ (by simp;omega)]
  have hk:k<cs.toList.length:=by simp;omega
  simp only [Array.toList_setIfInBounds]
  rw [List.take_set,List.drop_set_of_lt (by omega)]
  have:(cs.toList.take (k+1)).set k v=cs.toList.take k++[v]:=by
   have ht:(cs.toList.take k).length=k:=by simp only [List.length_take];omega
   rw [List.take_succ_eq_append_getElem hk,List.set_append_right _ _ (by omega),ht]
   simp
  rw [this]
  simp [Nat.add_assoc,Nat.add_comm 1]
theorem SW.build1 {t e:TypeId} {z v:Value} {vs:List Value} {sz bytes:Nat} [S:SliceTy P t e sz] [E:ElemTy P e z sz bytes] {x:Operand} (hx:opv L x=some v) (hv:v.cells=vs.toArray) (hl:Nat.beq vs.length sz=true) (hs:Nat.ble sz 1000=true)
  (hn:Nat.blt d n=true) (h:∀ b w',Ext w w'→w.heap.size≤b→Blk w' b e vs→SW P n ops (.eff Q) rest ((d,.slice (some ⟨b,0,none⟩) 1 1)::L) w') :
  SW P n ops (.eff Q) (⟨some d,.buildSlice t 1 #[(0,x)],T,pos,af,none⟩::rest) L w :=
 ⟨fun a ha=>by
  obtain ⟨i,hi,hz,hs',hby⟩:=elem_parts P e (z:=z) (sz:=sz) (bytes:=bytes)
  have hp:=E.pos
  have hle:sz≤1000:=by simpa using hs
  have hlen:vs.length=sz:=Nat.eq_of_beq_eq_true hl
  have hpos : ¬ (16777216<1*sz):=by omega
  have hne:sz≠0:=by omega
  simp only [swp,wpList,Region.wanted,if_true]
  refine .inl ?_
  unfold Oper.wp
  have:(execOp a.eval ⟨some d,.buildSlice t 1 #[(0,x)],T,pos,af,none⟩).run P w = .ok (.value (.slice (some ⟨w.heap.size,0,none⟩) 1 1)) (w.alloc (.cells vs.toArray e)):=by
   have hfill:∀ cs:Array Value,cs.size=sz→vs.zipIdx.foldl (fun (cs:Array Value) (p:Value×Nat)=>cs.setIfInBounds p.2 p.1) cs=vs.toArray:=fun cs hcs=>by
    have h1:=foldl_set_self vs 0 cs (by omega)
    have h2:vs.length=cs.toList.length:=by simp;omega
    apply Array.ext'
    rw [h1,Nat.zero_add,h2]
    simp
   have hsz1 : ¬ (16777216<i.size):=by omega
   have hne' : ¬ i.size=0:=by omega
   simp [execOp,ha.eval hx,Instr.buildSlice,run_underlying S.und,sizeOf,typeInfo,hi,zeroValue,hz,Instr.fill,hv,newRow,hsz1,hne']
   rw [if_neg (by omega),hfill _ (by simp [hs'])]
   rfl
  rw [this,Oper.upon_value]
  exact (h _ _ (Ext.alloc w _) (Nat.le_refl _) (Blk.new w e vs)).out _ (ha.put hn _)⟩
end
section
variable {P:Program} {L:Env} {w:World} {d:Option Nat} {T:TypeId} {pos:String} {af:Array Edge} {g:Option (Nat×Bool)}
theorem st_shl {t ty:TypeId} {x y:Operand} {i j r:Int} (hx:opv L x=some (.int .i64 i)) (hy:opv L y=some (.int .i64 j)) (h0 : 0≤j) (h1:j≤64) (hr:i*2 ^ j.toNat=r) (h2 : -9223372036854775808≤r) (h3:r≤9223372036854775807) :
  St P ⟨d,.binOp .shl t x y ty,T,pos,af,g⟩ L w (.int .i64 r) :=
 ⟨fun n a ha w' _=>by
  have e1:=ha.eval hx
  have e2:=ha.eval hy
  generalize a.eval = ρ at *
  simp [go_sem,e1,e2]
  rw [hr,wrap_in h2 h3]⟩
end
theorem Post.ret3 {P:Program} {fn:Func} {R:Ending→World→Prop} {n:Nat} {L:Env} {w:World} {t u q:Nat} {v x y:Value} (hr:fn.results = #[.tmp t,.tmp u,.tmp q]) (hv:get L t=some v) (hx:get L u=some x) (hy:get L q=some y) (h:R (.returned (.tuple #[v,x,y])) w) : Post n (bodyPost P fn R) .ret L w :=
 ⟨fun a ha=>⟨ha.defers,_,by rw [results_tmp3 hr,ha.has _ _ hv,ha.has _ _ hx,ha.has _ _ hy],h⟩⟩
theorem Blk.sl1 {α : Type} {w:World} {b:Nat} {e:TypeId} {sz:Nat} {enc : α → List Value} [E:Enc enc sz] {x : α} (h:Blk w b e (enc x)) : Sl w sz enc (some ⟨b,0,none⟩) 1 [x]:=by
 refine ⟨rfl,fun _=>rfl,fun i hi j u hu => ?_⟩
 have:i=0:=by simp at hi;omega
 subst this
 simp only [Nat.zero_mul,add_zero]
 exact h.cell (by simpa using hu)
theorem addr_of (g k:Nat) : (⟨g,0,none⟩ : Addr).add k=⟨g,k,none⟩:=by unfold Addr.add;split<;>simp_all
theorem flatMap_set {α : Type} {enc : α → List Value} {sz:Nat} [E:Enc enc sz] : ∀ (l:List α) (k:Nat) (hk:k<l.length) (j:Nat) (v:Value) (x' : α),j<sz→enc x'=(enc l[k]).set j v →
  (l.set k x').flatMap enc=(l.flatMap enc).set (k*sz+j) v
 | x::r,0,_,j,v,x',hj,h=>by
  simp only [List.set_cons_zero,List.flatMap_cons,Nat.zero_mul,Nat.zero_add]
  rw [h,List.set_append_left _ _ (by rw [E.len];exact hj)]
  rfl
 | x::r,k+1,hk,j,v,x',hj,h=>by
  simp only [List.set_cons_succ,List.flatMap_cons]
  rw [flatMap_set r k (by simpa using hk) j v x' hj (by simpa using h),List.set_append_right _ _ (by rw [E.len,Nat.add_mul];omega)]
  congr 2
  rw [E.len,Nat.add_mul]
  omega
section
variable {α : Type} {P:Program} {n:Nat} {ops:Array Oper} {Q:Exit→Act→World→Prop} {rest:List Oper} {L:Env} {w:World} {T:TypeId} {pos:String} {af:Array Edge}
theorem run_store1 {t:TypeId} [c:OneTy P t] {ad:Addr} {v u:Value} (h1:v.oneCell'=true) (hc:w.cell? ad=some u) (hf:w.frozen? ad=false) : (Instr.storeAt t (.pointer (some ad)) v).run P w = .ok () (w.setCell ad v):=by
 have hcs:v.cells = #[v]:=by cases v<;>first|rfl|simp [Value.oneCell'] at h1
 simp [Instr.storeAt,Instr.sureAddr,storeVar,hcs,run_sizeOf c.size,storeCells,run_store P w ad v .plain h1,hc,hf,add_zero]
theorem SW.store {t:TypeId} [OneTy P t] {x y:Operand} {ad:Addr} {v u:Value} (hx:opv L x=some (.pointer (some ad))) (hy:opv L y=some v) (h1:v.oneCell'=true) (hc:w.cell? ad=some u) (hf:w.frozen? ad=false)
  (h:SW P n ops (.eff Q) rest L (w.setCell ad v)) : SW P n ops (.eff Q) (⟨none,.store t x y,T,pos,af,none⟩::rest) L w :=
 ⟨fun a ha=>by
  simp only [swp,wpList,Region.wanted,if_true]
  refine .inl ?_
  unfold Oper.wp
  have:(execOp a.eval ⟨none,.store t x y,T,pos,af,none⟩).run P w = .ok .skip (w.setCell ad v):=by
   simp [execOp,ha.eval hx,ha.eval hy,run_store1 h1 hc hf]
  rw [this,Oper.upon_skip]
  exact h.out _ ha⟩
theorem Own.setAt {lo:Nat} {e:TypeId} {sz:Nat} {enc : α → List Value} [E:Enc enc sz] {A:Option Addr} {m c:Nat} {l:List α} (hO:Own w lo e sz enc A m c l) {k:Nat} (hk:k<m) {j:Nat} (hj:j<sz) {v:Value} {x' : α}
  (hx':enc x'=(enc (l[k]'(by rw [hO.len];exact hk))).set j v) {ad:Addr} (ha:ad=((A.getD default).add (k*sz)).add j) :
  (∃ u,w.cell? ad=some u)∧w.frozen? ad=false∧Own (w.setCell ad v) lo e sz enc A m c (l.set k x')∧w.grownBy (w.setCell ad v) (ownB A c):=by
 subst ha
 have hc : 0<c:=by have:=hO.le;omega
 have hrow:=hO.owns hc
 rcases hO.row with ⟨h0,_⟩|⟨_,g,cur,rfl,hg1,hg2,hg3,hg4,hg5,hg6⟩
 ·omega
 ·have hlt:k*sz+j<m*sz:=by
   have:(k+1)*sz≤m*sz:=Nat.mul_le_mul_right _ hk
   rw [Nat.add_mul] at this
   omega
  have e0:((((some (⟨g,0,none⟩ : Addr)).getD default).add (k*sz)).add j)=⟨g,k*sz+j,none⟩:=by rw [add_add];exact addr_of g _
  rw [e0]
  have h1:=hrow.cellAt (k*sz+j) hlt
  have hst:=hrow.stored (k*sz+j) v
  have hl:k<l.length:=by rw [hO.len];exact hk
  refine ⟨?_,hrow.frozenAt _,?_,?_⟩
  ·have hjl:k*sz+j<(l.flatMap enc).length:=by rw [length_flatMap_enc,hO.len];exact hlt
   exact ⟨_,by rw [h1,List.getElem?_eq_getElem hjl]⟩
  ·have h2:=hst.1
   rw [← flatMap_set l k hl j v x' hj hx'] at h2
   obtain ⟨A',c',he,ho⟩:=Own.of_owns h2 (by simpa using hO.len)
   injection he with e1 _ e2
   subst e1 e2
   exact ho
  ·have:ownB (some ⟨g,0,none⟩) c=some g:=by simp [ownB,Nat.pos_iff_ne_zero.1 hc]
   rw [this]
   exact hst.2
theorem SW.storeO {lo:Nat} {e:TypeId} {sz:Nat} {enc : α → List Value} [E:Enc enc sz] {A:Option Addr} {m c:Nat} {l:List α} {t:TypeId} [OneTy P t] {x y:Operand} {ad:Addr} {v:Value} (k j:Nat) (x' : α) (hO:Own w lo e sz enc A m c l)
  (hx:opv L x=some (.pointer (some ad))) (hy:opv L y=some v) (h1:v.oneCell'=true) (hk:k<m) (hj:j<sz) (ha:ad=((A.getD default).add (k*sz)).add j) (hx':enc x'=(enc (l[k]'(by rw [hO.len];exact hk))).set j v)
  (h:∀ w',Own w' lo e sz enc A m c (l.set k x')→w.grownBy w' (ownB A c)→SW P n ops (.eff Q) rest L w') : SW P n ops (.eff Q) (⟨none,.store t x y,T,pos,af,none⟩::rest) L w:=by
 obtain ⟨⟨u,hc⟩,hf,ho,hg⟩:=hO.setAt hk hj hx' ha
 exact SW.store hx hy h1 hc hf (h _ ho hg)
theorem SW.storeI {lo:Nat} {e:TypeId} {A:Option Addr} {m c:Nat} {l:List Int} {t:TypeId} [OneTy P t] {x y:Operand} {i:Int} (k:Nat) (hO:Own w lo e 1 encI A m c l)
  (hx:opv L x=some (.pointer (some ((A.getD default).add (k*1))))) (hy:opv L y=some (.int .i64 i)) (hk:k<m)
  (h:∀ w',Own w' lo e 1 encI A m c (l.set k i)→w.grownBy w' (ownB A c)→SW P n ops (.eff Q) rest L w') : SW P n ops (.eff Q) (⟨none,.store t x y,T,pos,af,none⟩::rest) L w :=
 SW.storeO k 0 i hO hx hy rfl hk (by omega) (by rw [add_zero]) rfl h
theorem Blk.store {b:Nat} {t:TypeId} {cs:List Value} (h:Blk w b t cs) {i:Nat} (hi:i<cs.length) (v:Value) :
  (∃ u,w.cell? ((⟨b,0,none⟩ : Addr).add i)=some u)∧w.frozen? ((⟨b,0,none⟩ : Addr).add i)=false∧Blk (w.setCell ((⟨b,0,none⟩ : Addr).add i) v) b t (cs.set i v)∧w.grownBy (w.setCell ((⟨b,0,none⟩ : Addr).add i) v) (some b):=by
 refine ⟨⟨cs[i],h.cell (List.getElem?_eq_getElem hi)⟩,?_,?_,?_⟩
 ·rw [addr_of];exact frozen_of_row w b i _ t h
 ·rw [addr_of]
  unfold Blk at h ⊢
  rw [heap_setCell_same w b i _ t v h]
  simp
 ·rw [addr_of]
  exact ⟨rfl,rfl,rfl,by simp,fun k _ hk=>heap_setCell_other w ⟨b,i,none⟩ k v (fun e=>hk (by simp [e]))⟩
theorem SW.storeB {b i:Nat} {t t':TypeId} {cs:List Value} [OneTy P t'] {x y:Operand} {v:Value} (hB:Blk w b t cs) (hx:opv L x=some (.pointer (some ((⟨b,0,none⟩ : Addr).add i)))) (hy:opv L y=some v) (h1:v.oneCell'=true) (hi:Nat.blt i cs.length=true)
  (h:∀ w',Blk w' b t (cs.set i v)→w.grownBy w' (some b)→SW P n ops (.eff Q) rest L w') : SW P n ops (.eff Q) (⟨none,.store t' x y,T,pos,af,none⟩::rest) L w:=by
 obtain ⟨⟨u,hc⟩,hf,hb,hg⟩:=hB.store (i:=i) (by simpa using hi) v
 exact SW.store hx hy h1 hc hf (h _ hb hg)
theorem Blk.grown {w':World} {b:Nat} {t:TypeId} {cs:List Value} {row:Option Nat} (h:Blk w b t cs) (hg:w.grownBy w' row) (hne:some b≠row) : Blk w' b t cs:=(hg.block b h.lt hne).trans h
theorem Own.ne_blk {lo:Nat} {e:TypeId} {sz:Nat} {enc : α → List Value} {A:Option Addr} {m c:Nat} {l:List α} (hO:Own w lo e sz enc A m c l) {b:Nat} {t:TypeId} {cs:List Value} (hB:Blk w b t cs) (hne:Nat.beq t e=false) : ownB A c≠some b:=by
 rcases hO.row with ⟨_,rfl⟩|⟨hc,g,cur,rfl,_,h2,_⟩
 ·simp [ownB]
 ·simp only [ownB,Nat.pos_iff_ne_zero.1 hc,if_false,Option.map_some,ne_eq,Option.some.injEq]
  rintro rfl
  unfold Blk at hB
  rw [h2] at hB
  injection hB with hB
  injection hB with _ h _
  subst h
  simp at hne
theorem run_storeAgg {t:TypeId} {k:Nat} [c:AggTy P t k] {b:Nat} {tb:TypeId} {cs vs:List Value} (hB:Blk w b tb cs) (hl:vs.length=k) (hc:cs.length=k) (h1:∀ v∈vs,v.oneCell'=true) :
  (Instr.storeAt t (.pointer (some ⟨b,0,none⟩)) (.agg vs.toArray)).run P w = .ok () (w.setRow b vs.toArray):=by
 have hst:=run_storeCells_at P b 0 tb vs 0 cs.toArray w hB (by simp;omega) h1
 simp only [Nat.zero_add,List.take_zero,List.nil_append] at hst
 have hd:(cs.toArray.toList.drop vs.length)=[]:=by simp;omega
 rw [hd,List.append_nil] at hst
 simp [Instr.storeAt,Instr.sureAddr,storeVar,Value.cells,run_sizeOf c.size,hl,hst]
theorem SW.storeAgg {t:TypeId} {k:Nat} [AggTy P t k] {b:Nat} {tb:TypeId} {cs vs:List Value} {x y:Operand} (hB:Blk w b tb cs) (hx:opv L x=some (.pointer (some ⟨b,0,none⟩))) (hy:opv L y=some (.agg vs.toArray)) (hl:vs.length=k) (hc:cs.length=k) (h1:∀ v∈vs,v.oneCell'=true)
  (h:∀ w',Blk w' b tb vs→w.grownBy w' (some b)→SW P n ops (.eff Q) rest L w') : SW P n ops (.eff Q) (⟨none,.store t x y,T,pos,af,none⟩::rest) L w :=
 ⟨fun a ha=>by
  simp only [swp,wpList,Region.wanted,if_true]
  refine .inl ?_
  unfold Oper.wp
  have:(execOp a.eval ⟨none,.store t x y,T,pos,af,none⟩).run P w = .ok .skip (w.setRow b vs.toArray):=by
   simp [execOp,ha.eval hx,ha.eval hy,run_storeAgg hB hl hc h1]
  rw [this,Oper.upon_skip]
  refine (h _ (setRow_heap w b _ _ tb (0,0) hB) ⟨rfl,rfl,rfl,by simp,fun j _ hj => ?_⟩).out _ ha
  show (w.setRow b _).heap[j]?=_
  simp only [World.setRow,Array.getElem?_modify]
  rw [if_neg (fun e=>hj (by simp [e]))]⟩
theorem SW.alloc {d:Nat} {t:TypeId} {z:Value} {sz bytes:Nat} [E:ElemTy P t z sz bytes] (hn:Nat.blt d n=true)
  (h:∀ b w',Ext w w'→w.heap.size≤b→Blk w' b t z.cells.toList→SW P n ops (.eff Q) rest ((d,.pointer (some ⟨b,0,none⟩))::L) w') : SW P n ops (.eff Q) (⟨some d,.alloc t,T,pos,af,none⟩::rest) L w :=
 ⟨fun a ha=>by
  obtain ⟨i,hi,hz,_,_⟩:=elem_parts P t (z:=z) (sz:=sz) (bytes:=bytes)
  simp only [swp,wpList,Region.wanted,if_true]
  refine .inl ?_
  unfold Oper.wp
  have:(execOp a.eval ⟨some d,.alloc t,T,pos,af,none⟩).run P w = .ok (.value (.pointer (some ⟨w.heap.size,0,none⟩))) (w.alloc (.cells z.cells t)):=by
   simp [execOp,Instr.alloc,zeroValue,typeInfo,hi,hz,newVar,newRow]
  rw [this,Oper.upon_value]
  exact (h _ _ (Ext.alloc w _) (Nat.le_refl _) (by have:=Blk.new w t z.cells.toList;simpa using this)).out _ (ha.put hn _)⟩
theorem madeCells_flat {enc : α → List Value} {sz:Nat} [Enc enc sz] {z:Value} (x0 : α) (he:enc x0=z.cells.toList) (hz:z.cells.size=sz) (hp : 0<sz) (k:Nat) : (madeCells z.cells (k*sz)).toList=(List.replicate k x0).flatMap enc:=by
 apply List.ext_getElem?
 intro j
 by_cases hj:j<k*sz
 ·have hi:j / sz<(List.replicate k x0).length:=by rw [List.length_replicate];exact Nat.div_lt_of_lt_mul (by rw [Nat.mul_comm];exact hj)
  have hm:j % sz<z.cells.size:=by rw [hz];exact Nat.mod_lt _ hp
  have h1:=getElem_flatMap_enc (enc:=enc) (List.replicate k x0) (j / sz) hi (j % sz) z.cells[j % sz] (by rw [List.getElem_replicate,he];simp [hm])
  have e:j / sz*sz+j % sz=j:=by rw [Nat.mul_comm];exact Nat.div_add_mod j sz
  rw [e] at h1
  rw [h1]
  have hr:j<(Array.range (k*sz)).size:=by simpa using hj
  simp only [madeCells,Array.getElem?_toList,Array.getElem?_map]
  rw [Array.getElem?_eq_getElem hr]
  simp [hz,getElem!_pos z.cells (j % sz) hm]
 ·rw [List.getElem?_eq_none (by simp [size_madeCells];omega),List.getElem?_eq_none (by rw [length_flatMap_enc,List.length_replicate];omega)]
theorem SW.make {d:Nat} {t e:TypeId} {z:Value} {sz bytes:Nat} [S:SliceTy P t e sz] [E:ElemTy P e z sz bytes] {x:Operand} {k:Nat} {i:Int} {enc : α → List Value} [Enc enc sz] (x0 : α) (he:enc x0=z.cells.toList)
  (hx:opv L x=some (.int .i64 i)) (hk:i=(k:Int)) (hb:bytes*k≤281474976710656) (hm:k≤9223372036854775807) (hn:Nat.blt d n=true)
  (h:∀ A c w',Ext w w'→Own w' w.heap.size e sz enc A k c (List.replicate k x0)→SW P n ops (.eff Q) rest ((d,.slice A k c)::L) w') : SW P n ops (.eff Q) (⟨some d,.makeSlice t x x,T,pos,af,none⟩::rest) L w :=
 ⟨fun a ha=>by
  obtain ⟨inf,hi,hz,hs,hby⟩:=elem_parts P e (z:=z) (sz:=sz) (bytes:=bytes)
  obtain ⟨w',hr,ho,hg⟩:=run_make_full (P:=P) w w.heap.size t e inf z sz S.und hi hz hs .i64 .i64 k (by rw [hby];exact hb) (by simp only [maxLen];omega) (Nat.le_refl _)
  simp only [swp,wpList,Region.wanted,if_true]
  refine .inl ?_
  unfold Oper.wp
  have e1:=ha.eval hx
  rw [hk] at e1
  have:(execOp a.eval ⟨some d,.makeSlice t x x,T,pos,af,none⟩).run P w = .ok (.value (.slice (some ⟨w.heap.size,0,none⟩) k k)) w':=by
   simp [execOp,e1,hr]
  rw [this,Oper.upon_value]
  have hfl:(madeCells z.cells (k*sz)).toList=(List.replicate k x0).flatMap enc:=madeCells_flat x0 he E.zc E.pos k
  rw [hfl] at ho
  obtain ⟨A,c,he',ho'⟩:=Own.of_owns ho (by simp)
  injection he' with e2 _ e3
  subst e2 e3
  exact (h _ _ _ ⟨hg.os,hg.tape,hg.output,hg.size,fun j hj=>hg.block j hj (by simp)⟩ ho').out _ (ha.put hn _)⟩
end
open Go.RowKit
def wpHd (P:Program) (md:Region.Mode) (ops:Array Oper) (Q:Exit→Act→World→Prop) (nh:Nat) (K:Array Bool→Act→World→Prop) : (World→Prop)→Nat→Array Bool→Act→World→Prop
 | _,0,listed,a,w=>K listed a w
 | S,f+1,listed,a,w=>Region.ready md ops listed≠[] ∧ ∀ i∈Region.ready md ops listed,i<nh∧wpOp P ops Q i (fun a' w'=>S w'∧wpHd P md ops Q nh K S f (listed.setIfInBounds i true) a' w') a w
section
variable {P:Program} {md:Region.Mode} {ops:Array Oper} {Q:Exit→Act→World→Prop} {nh:Nat} {K:Array Bool→Act→World→Prop}
theorem wpHd_mono {S S':World→Prop} (hS:∀ w,S' w→S w) : ∀ (f:Nat) (listed:Array Bool) (a:Act) (w:World),wpHd P md ops Q nh K S' f listed a w→wpHd P md ops Q nh K S f listed a w
 | 0,_,_,_,h=>h
 | f+1,_,_,_,h=>⟨h.1,fun i hi=>⟨(h.2 i hi).1,wpOp_mono (fun a' w' h'=>⟨hS _ h'.1,wpHd_mono hS f _ a' w' h'.2⟩) (h.2 i hi).2⟩⟩
theorem wpAny_of_hd {S:World→Prop} {g:Nat} (hK:∀ listed a w,K listed a w→wpAny P md ops Q g listed a w) : ∀ (f:Nat) (listed:Array Bool) (a:Act) (w:World),wpHd P md ops Q nh K S f listed a w→wpAny P md ops Q (f+g) listed a w
 | 0,listed,a,w,h=>by rw [Nat.zero_add];exact hK _ _ _ h
 | f+1,listed,a,w,h=>by
  rw [show f+1+g=(f+g)+1 by omega]
  exact ⟨fun h0=>absurd h0 h.1,fun i hi=>wpOp_mono (fun a' w' h'=>wpAny_of_hd hK f _ a' w' h'.2) (h.2 i hi).2⟩
def Waits (md:Region.Mode) (ops:Array Oper) (nh:Nat) : Prop := ∀ listed,HeadInv md ops nh listed → ∀ i,i<nh→listed.getD i true=false → ∀ t,nh≤t→t∉Region.ready md ops listed
theorem wpHd_first {S:World→Prop} {i:Nat} {oi:Oper} {v:Value} (hi:ops[i]?=some oi) (hsel:∀ (j:Nat) (o:Oper) cs b,ops[j]?=some o→o.op ≠ .select cs b)
  (hwt:Waits md ops nh) (hin:i<nh) (hQ:∀ c a w,Q (.panic c) (a.put oi.dst v) w→Q (.panic c) a w) (hdone:∀ listed a w,K listed a w → ∀ j∈Region.ready md ops listed,nh≤j) :
  ∀ (f:Nat) (listed:Array Bool) (a:Act) (w:World),HeadInv md ops nh listed →
   (∀ j oj,ops[j]?=some oj→j≠i→listed.getD j true=false→(∀ e∈oj.after,Region.binds md e=true→e.on≠i)→oi.apart ops oj=true) →
   i∈Region.ready md ops listed→YieldsIf P ops S oi v a→S w →
   wpHd P md ops Q nh K S f (listed.setIfInBounds i true) (a.put oi.dst v) w→wpHd P md ops Q nh K S (f+1) listed a w:=by
 intro f
 induction f with
 | zero =>
  intro listed a w inv _ hr hy hS H
  have hun:=(mem_ready.1 hr).1
  refine ⟨fun h=>(by rw [h] at hr;cases hr),fun j hj => ?_⟩
  have hjn:j<nh:=by
   rcases Nat.lt_or_ge j nh with h|h
   ·exact h
   ·exact absurd hj (hwt _ inv i hin hun j h)
  refine ⟨hjn,?_⟩
  by_cases hji:j=i
  ·subst hji;exact hy.wpOp hi hS ⟨hS,H⟩
  ·have:=hdone _ _ _ H j (ready_mono hj hji)
   omega
 | succ f ih =>
  intro listed a w inv hfree hr hy hS H
  have hun:=(mem_ready.1 hr).1
  refine ⟨fun h=>(by rw [h] at hr;cases hr),fun j hj => ?_⟩
  have hjn:j<nh:=by
   rcases Nat.lt_or_ge j nh with h|h
   ·exact h
   ·exact absurd hj (hwt _ inv i hin hun j h)
  refine ⟨hjn,?_⟩
  by_cases hji:j=i
  ·subst hji;exact hy.wpOp hi hS ⟨hS,H⟩
  ·have h1:=(H.2 j (ready_mono hj hji)).2
   obtain ⟨hjun,oj,hoj,hall⟩:=mem_ready.1 hj
   have hnot:∀ e∈oj.after,Region.binds md e=true→e.on≠i:=fun e he hb heq=>by
    have h1:=hall e he hb
    rw [heq,getD_both hun] at h1
    cases h1
   have h2:=wpOp_putIf hoj (hfree j oj hoj hji hjun hnot) (fun cs b=>hsel i oi cs b hi) (fun cs b=>hsel j oj cs b hoj) hQ hy h1
   have hfree':∀ k ok,ops[k]?=some ok→k≠i→(listed.setIfInBounds j true).getD k true=false →
     (∀ e∈ok.after,Region.binds md e=true→e.on≠i)→oi.apart ops ok=true:=fun k ok hk hki hun hno=>by
    refine hfree k ok hk hki ?_ hno
    by_cases hjk:j=k
    ·subst hjk;exact hjun
    ·rw [getD_set_ne true hjk] at hun;exact hun
   refine wpOp_mono (fun a' w' h3=>⟨h3.2.1,ih (listed.setIfInBounds j true) a' w' (inv.set hj hjn) hfree' (ready_mono hr (Ne.symm hji)) h3.1 h3.2.1 ?_⟩) h2
   rw [Array.setIfInBounds_comm _ _ hji]
   exact h3.2.2
end
structure RB (ops:Array Oper) (nh:Nat) : Prop where
 sel:Region.noSelect ops=true
 waits:Waits .any ops nh
theorem rb_tail {ops:Array Oper} {nh:Nat} (h:(Region.noSelect ops && (Nat.blt nh ops.size && (Region.sinkB .any ops nh && Region.chainB .any ops nh)))=true) : RB ops nh:=by
 simp only [Bool.and_eq_true] at h
 exact ⟨h.1,fun listed inv i hi hun t ht hr=>tail_waits h.2.2.1 h.2.2.2 (by simpa using h.2.1) inv _ i rfl hi hun t ht hr⟩
def TailK (P:Program) (ops:Array Oper) (Q:Exit→Act→World→Prop) (nh:Nat) (l:List Oper) : Array Bool→Act→World→Prop:=fun listed a w=>Region.seqB .any ops l.length nh listed=true∧wpList P ops Q l a w
structure SA (P:Program) (n:Nat) (ops:Array Oper) (Q:Exit→Act→World→Prop) (nh:Nat) (tl:List Oper) (f:Nat) (listed:Array Bool) (L:Env) (w:World) : Prop where
 out:∀ a,Fit n a L→HeadInv .any ops nh listed→wpHd P .any ops (NoPanic Q) nh (TailK P ops (NoPanic Q) nh tl) (Ext w) f listed a w
def SAQ (P:Program) (n:Nat) (ops:Array Oper) (Q:Exit→Act→World→Prop) (nh:Nat) (tl:List Oper) (f:Nat) (listed:Array Bool) (w:World) : Exit→Act→World→Prop
 | .normal,a,w'=>Ext w w'∧(HeadInv .any ops nh listed→wpHd P .any ops (NoPanic Q) nh (TailK P ops (NoPanic Q) nh tl) (Ext w') f listed a w')
 | e,a,w'=>NoPanic Q e a w'
section
variable {P:Program} {n:Nat} {ops:Array Oper} {Q:Exit→Act→World→Prop} {nh f:Nat} {tl:List Oper} {listed:Array Bool} {L:Env} {w:World}
theorem SA.take (i:Nat) {o:Oper} (hB:RB ops nh) (hi:ops[i]?=some o) (hf:Region.free .any ops listed i=true) (hr:(Region.ready .any ops listed).contains i=true) (hlt:Nat.blt i nh=true)
  (h:SW P n ops (.tk fun L'=>SA P n ops Q nh tl f (listed.setIfInBounds i true) L' w) [o] L w) : SA P n ops Q nh tl (f+1) listed L w :=
 ⟨fun a ha inv=>by
  have hs:=h.out a ha
  have hlt':i<nh:=by simpa using hlt
  have hr':i∈Region.ready .any ops listed:=by simpa using hr
  have hdone:∀ listed a w,TailK P ops (NoPanic Q) nh tl listed a w → ∀ j∈Region.ready .any ops listed,nh≤j:=fun _ _ _ hk=>seqB_ready hk.1
  simp only [swp,wpTk] at hs
  by_cases hw:Region.wanted o (yielded ops a.tmps)=true
  ·rw [if_pos hw] at hs
   obtain ⟨v,hv,L',hf',hK⟩:=hs
   exact wpHd_first hi (Region.noSelect_spec hB.sel) hB.waits hlt' (fun _ _ _ h=>(h:False).elim) hdone f listed a w inv (Region.free_spec hi hf) hr' (.inl ⟨hw,hv⟩) (Ext.refl w) (hK.out _ hf' (inv.set hr' hlt'))
  ·rw [if_neg hw] at hs
   obtain ⟨L',hf',hK⟩:=hs
   exact wpHd_first hi (Region.noSelect_spec hB.sel) hB.waits hlt' (fun _ _ _ h=>(h:False).elim) hdone f listed a w inv (Region.free_spec hi hf) hr' (.inr ⟨by simpa using hw,rfl⟩) (Ext.refl w) (hK.out _ hf' (inv.set hr' hlt'))⟩
theorem LetsOut_saq {l:Array Bool} (h:LetsOut (SAQ P n ops Q nh tl f l w)) : LetsOut (NoPanic Q):=h
theorem Oper.wp_saq {o:Oper} {a:Act} {l:Array Bool} {N:Act→World→Prop} (h:o.wp P a w N (SAQ P n ops Q nh tl f l w)) : o.wp P a w N (NoPanic Q):=by
 unfold Oper.wp at *
 generalize (execOp a.eval o).run P w=r at *
 cases r with
 | ok x w' =>
  cases x<;>simp only [Oper.upon] at h ⊢
  case value=>exact h
  case skip=>exact h
  case defer=>exact h
  case row=>exact h
  case enter =>
   refine Calls.mono h fun e w'' he => ?_
   cases e<;>exact he
 | halt x w' =>
  cases x<;>simp only [Oper.upon] at h ⊢
  exact h
theorem SA.stepOf {i:Nat} {o:Oper} (hi:ops[i]?=some o) (hr:i∈Region.ready .any ops listed) (hlt:i<nh) {a:Act} (ha:Fit n a L) (inv:HeadInv .any ops nh listed) (h:SW P n ops (.eff (SAQ P n ops Q nh tl f (listed.setIfInBounds i true) w)) [o] L w) :
  wpOp P ops (NoPanic Q) i (fun a' w'=>Ext w w'∧wpHd P .any ops (NoPanic Q) nh (TailK P ops (NoPanic Q) nh tl) (Ext w) f (listed.setIfInBounds i true) a' w') a w:=by
 have hs:=h.out a ha
 have inv':=inv.set hr hlt
 have conv:∀ a' w',SAQ P n ops Q nh tl f (listed.setIfInBounds i true) w .normal a' w'→Ext w w'∧wpHd P .any ops (NoPanic Q) nh (TailK P ops (NoPanic Q) nh tl) (Ext w) f (listed.setIfInBounds i true) a' w':=fun a' w' hh =>
  ⟨hh.1,wpHd_mono (fun w'' h''=>Ext.trans hh.1 h'') _ _ _ _ (hh.2 inv')⟩
 simp only [swp,wpList] at hs
 unfold wpOp
 simp only [hi]
 by_cases hw:Region.wanted o (yielded ops a.tmps)=true
 ·rw [if_pos hw] at hs ⊢
  rcases hs with hs|⟨h1,h2⟩
  ·exact .inl (Oper.wp_mono conv (Oper.wp_saq hs))
  ·exact .inr ⟨h1,LetsOut_saq h2⟩
 ·rw [if_neg hw] at hs ⊢
  exact conv _ _ hs
theorem SA.one (i:Nat) {o:Oper} (hi:ops[i]?=some o) (hr:Region.ready .any ops listed=[i]) (hlt:Nat.blt i nh=true) (h:SW P n ops (.eff (SAQ P n ops Q nh tl f (listed.setIfInBounds i true) w)) [o] L w) : SA P n ops Q nh tl (f+1) listed L w :=
 ⟨fun a ha inv=>⟨by rw [hr];simp,fun j hj=>by
  have hlt':i<nh:=by simpa using hlt
  have hji:j=i:=by rw [hr] at hj;simpa using hj
  subst hji
  exact ⟨hlt',SA.stepOf hi hj hlt' ha inv h⟩⟩⟩
theorem SA.two (i k:Nat) {o o':Oper} (hi:ops[i]?=some o) (hk:ops[k]?=some o') (hr:Region.ready .any ops listed=[i,k]) (hlt:Nat.blt i nh=true) (hlt':Nat.blt k nh=true)
  (h:SW P n ops (.eff (SAQ P n ops Q nh tl f (listed.setIfInBounds i true) w)) [o] L w) (h':SW P n ops (.eff (SAQ P n ops Q nh tl f (listed.setIfInBounds k true) w)) [o'] L w) : SA P n ops Q nh tl (f+1) listed L w :=
 ⟨fun a ha inv=>⟨by rw [hr];simp,fun j hj=>by
  have hlt1:i<nh:=by simpa using hlt
  have hlt2:k<nh:=by simpa using hlt'
  have hj':=hj
  rw [hr] at hj'
  simp only [List.mem_cons,List.not_mem_nil,or_false] at hj'
  rcases hj' with rfl|rfl
  ·exact ⟨hlt1,SA.stepOf hi hj hlt1 ha inv h⟩
  ·exact ⟨hlt2,SA.stepOf hk hj hlt2 ha inv h'⟩⟩⟩
theorem Post.sa {l:Array Bool} {w0:World} (hx:Ext w0 w) (h:SA P n ops Q nh tl f l L w) : Post n (SAQ P n ops Q nh tl f l w0) .normal L w:=⟨fun a ha=>⟨hx,h.out a ha⟩⟩
theorem SA.done (hq:Region.seqB .any ops tl.length nh listed=true) (h:SW P n ops (.eff (NoPanic Q)) tl L w) : SA P n ops Q nh tl 0 listed L w:=⟨fun a ha _=>⟨hq,h.out a ha⟩⟩
theorem Post.np (h:Post n Q .normal L w) : Post n (NoPanic Q) .normal L w:=⟨fun a ha=>h.out a ha⟩
theorem CW.any {id:Nat} {l:List Oper} (nh:Nat) (hm:P.follows .mixedOrders=true) (hB:RB l.toArray nh) (hle:Nat.ble nh l.length=true) (h:∀ w',Ext w w'→RB l.toArray nh→SA P n l.toArray Q nh (l.drop nh) nh (Array.replicate l.length false) L w') : CW P n (.region id l.toArray true) Q L w :=
 ⟨fun a ha=>by
  have hle':nh≤l.length:=by simpa using hle
  refine wp_region_noPanic (wp_region_any hm ?_)
  have h0:=(h _ (Ext.drew w) hB).out a ha ⟨by simp,fun j oj _ hl=>(by rw [getD_replicate_false] at hl;cases hl),fun t _ ht=>getD_in (by simpa using ht) (getD_replicate_false _ _)⟩
  have:=wpAny_of_hd (g:=(l.drop nh).length) (fun listed a w hk=>wpAny_of_seq (md := .any) (l.drop nh) nh listed a w (fun j=>by simp [List.getElem?_drop]) hk.1 hk.2) _ _ _ _ h0
  rw [show nh+(l.drop nh).length=l.toArray.size by simp;omega] at this
  simpa using this⟩
end
open Go.RowKit
section
variable {P:Program} {L:Env} {w:World} {d:Option Nat} {T:TypeId} {pos:String} {af:Array Edge} {g:Option (Nat×Bool)}
theorem st_nilCheck {x:Operand} {ad:Addr} (hx:opv L x=some (.pointer (some ad))) : St P ⟨d,.nilCheck x,T,pos,af,g⟩ L w (.pointer (some ad)) :=
 ⟨fun _ a ha w' _=>by have e1:=ha.eval hx;generalize a.eval = ρ at *;simp [execOp,e1]⟩
theorem st_cap {t:TypeId} {e:TypeId} {sz:Nat} [c:SliceTy P t e sz] {x:Operand} {A:Option Addr} {n cap:Nat} (hx:opv L x=some (.slice A n cap)) :
  St P ⟨d,.call ⟨.builtin .cap,#[x],#[t]⟩,T,pos,af,g⟩ L w (.int .i64 cap) :=
 ⟨fun _ a ha w' _=>by simp [execOp,resolve,invoke,builtin,ha.eval hx,Builtin.cap_,run_underlying c.und,goInt]⟩
theorem st_min {t u:TypeId} {x y:Operand} {i j:Int} (hx:opv L x=some (.int .i64 i)) (hy:opv L y=some (.int .i64 j)) :
  St P ⟨d,.call ⟨.builtin .min,#[x,y],#[t,u]⟩,T,pos,af,g⟩ L w (.int .i64 (min i j)) :=
 ⟨fun _ a ha w' _=>by
  have e:(if j<i then j else i)=min i j:=by split<;>omega
  simp [execOp,resolve,invoke,builtin,ha.eval hx,ha.eval hy,Builtin.min_,Builtin.min2,e]⟩
theorem st_func {f:FuncId} {cap:List Operand} {vs:List Value} (hx:opvs L cap=some vs) : St P ⟨d,.makeFunc (.func f) #[] cap.toArray,T,pos,af,g⟩ L w (.func (.func f) #[] vs.toArray) :=
 ⟨fun _ a ha w' _=>by simp [execOp,Instr.makeFunc,← ha.evals hx]⟩
end
def setAt (cs:List Value) (off:Nat) : List Value→List Value
 | []=>cs
 | v::r=>setAt (cs.set off v) (off+1) r
def fillL (places:List (Nat×Nat)) (cells:List Value) : List (Nat×Value)→Option (List Value)
 | []=>some cells
 | (i,v)::rest=>match places[i]? with
  | none=>none
  | some (off,size)=>bif Nat.beq v.cells.size size && Nat.ble (off+v.cells.size) cells.length then fillL places (setAt cells off v.cells.toList) rest else none
theorem fold_setAt:∀ (vs:List Value) (k off:Nat) (cs:List Value),(vs.zipIdx k).foldl (fun (cs:Array Value) (p:Value×Nat)=>cs.setIfInBounds (off+p.2) p.1) cs.toArray=(setAt cs (off+k) vs).toArray
 | [],_,_,_=>rfl
 | v::r,k,off,cs=>by
  simp only [List.zipIdx_cons,List.foldl_cons,setAt]
  rw [List.setIfInBounds_toArray,fold_setAt r (k+1) off]
  rfl
theorem fill_of {places:List (Nat×Nat)}:∀ (ps:List (Nat×Value)) (cells cs:List Value),fillL places cells ps=some cs→Instr.fill (places.toArray[·]?) cells.toArray ps=some cs.toArray
 | [],_,_,h=>by simp [fillL] at h;subst h;rfl
 | (i,v)::rest,cells,cs,h=>by
  simp only [fillL] at h
  simp only [Instr.fill,List.getElem?_toArray]
  split at h
  ·cases h
  ·rename_i off size hp
   simp only [cond_eq_ite] at h
   split at h
   ·rename_i hb
    simp only [Bool.and_eq_true] at hb
    have h1:=Nat.eq_of_beq_eq_true hb.1
    have h2:off+v.cells.size≤cells.length:=by simpa using hb.2
    simp only [hp]
    have:=fold_setAt v.cells.toList 0 off cells
    simp only [Nat.add_zero] at this
    have e2:Array.foldl (fun (cs:Array Value) (x:Value×Nat)=>cs.setIfInBounds (off+x.2) x.1) cells.toArray v.cells.zipIdx=(setAt cells off v.cells.toList).toArray:=by
     rw [← this,← Array.foldl_toList]
     simp [Array.toList_zipIdx]
    rw [if_neg (by simp;omega)]
    have e3:=fill_of (places:=places) rest _ _ h
    rw [← e2] at e3
    simpa using e3
   ·cases h
class BuildTy (P:Program) (t:TypeId) (places:outParam (List (Nat×Nat))) (zc:outParam (List Value)) : Prop where
 und:((P.underlying t).bind fun | .struct fs=>some ((fs.toList.map fun f=>(f.offset,(P.info? f.type).map (·.size))))|_=>none)=some (places.map fun p=>(p.1,some p.2))
 zero:((P.info? t).bind (·.zero)).map (·.cells)=some zc.toArray
def partsV (L:Env) : List (Nat×Operand)→Option (List (Nat×Value))
 | []=>some []
 | (i,x)::r=>match opv L x,partsV L r with
  | some v,some vs=>some ((i,v)::vs)
  | _,_=>none
theorem Fit.parts {n:Nat} {a:Act} {L:Env} (h:Fit n a L) : ∀ {xs:List (Nat×Operand)} {vs:List (Nat×Value)},partsV L xs=some vs→xs.map (fun p=>(p.1,a.eval p.2))=vs
 | [],vs,e=>by simp [partsV] at e;subst e;rfl
 | (i,x)::r,vs,e=>by
  simp only [partsV] at e
  cases hx:opv L x with
  | none=>simp [hx] at e
  | some v =>
   cases hr:partsV L r with
   | none=>simp [hx,hr] at e
   | some us =>
    simp [hx,hr] at e
    subst e
    simp [h.eval hx,h.parts hr]
theorem run_mapM_places {P:Program} (w:World) : ∀ (fs:List Field) (places:List (Nat×Nat)),(fs.map fun f=>(f.offset,(P.info? f.type).map (·.size)))=(places.map fun p=>(p.1,some p.2)) →
  (fs.mapM (m:=Sem) fun f=>do return (f.offset,← sizeOf f.type)).run P w = .ok places w
 | [],[],_=>by simp
 | f::fs,p::ps,h=>by
  simp only [List.map_cons,List.cons.injEq,Prod.mk.injEq] at h
  have ih:=run_mapM_places w fs ps h.2
  have hs:=run_sizeOf h.1.2 w
  rw [List.mapM_cons]
  simp only [Sem.run_bind,hs,Result.andThen,pure,Sem.run]
  rw [h.1.1]
  have ih':(fs.mapM (m:=Sem) fun f=>do return (f.offset,← sizeOf f.type)).run P w = .ok ps w:=ih
  simp only [pure] at ih'
  rw [ih']
 | [],_::_,h=>by simp at h
 | _::_,[],h=>by simp at h
section
variable {P:Program} {L:Env} {w:World} {d:Option Nat} {T:TypeId} {pos:String} {af:Array Edge} {g:Option (Nat×Bool)}
theorem st_build {t:TypeId} {places:List (Nat×Nat)} {zc cs:List Value} [c:BuildTy P t places zc] {ps:List (Nat×Operand)} {pv:List (Nat×Value)} (hp:partsV L ps=some pv) (hf:fillL places zc pv=some cs) :
  St P ⟨d,.build t ps.toArray,T,pos,af,g⟩ L w (.agg cs.toArray) :=
 ⟨fun n a ha w' _=>by
  have hz:=c.zero
  cases hi:P.info? t with
  | none=>simp [hi] at hz
  | some inf =>
   cases hz':inf.zero with
   | none=>simp [hi,hz'] at hz
   | some z =>
    simp [hi,hz'] at hz
    have hu:=c.und
    cases hd:P.underlying t with
    | none=>simp [hd] at hu
    | some D =>
     cases D<;>simp only [hd,Option.bind_some,reduceCtorEq,Option.some.injEq] at hu
     rename_i fs
     have hm:=run_mapM_places (P:=P) w' fs.toList places hu
     have hfill:=fill_of pv zc cs hf
     have hpv:=ha.parts hp
     have hmm:(fs.mapM (m:=Sem) fun f=>do return (f.offset,← sizeOf f.type)).run P w' = .ok places.toArray w':=by
      rw [Array.mapM_eq_mapM_toList]
      have e:∀ (x:Sem (List (Nat×Nat))),x.run P w' = .ok places w'→(Functor.map List.toArray x).run P w' = .ok places.toArray w':=fun x hx=>by simp [hx,Result.andThen]
      exact e _ hm
     have hzv:(zeroValue t).run P w' = .ok z w':=by simp [zeroValue,typeInfo,hi,hz']
     have hb:(Instr.build t (ps.map fun p=>(p.1,a.eval p.2)).toArray).run P w' = .ok (.agg cs.toArray) w':=by
      unfold Instr.build
      simp only [Sem.run_bind,hzv,Result.andThen,run_underlying hd]
      have e:=hmm
      simp only [pure] at e ⊢
      rw [e]
      simp only [hz,hpv,hfill,Sem.run]
     have hx:(execOp a.eval ⟨d,.build t ps.toArray,T,pos,af,g⟩).run P w'=(do pure (Next.value (← Instr.build t (ps.map fun p=>(p.1,a.eval p.2)).toArray)) : Sem Next).run P w':=by simp [execOp]
     rw [hx,Sem.run_bind,hb]
     rfl⟩
end
inductive ResIs (P:Program) (L:Env) (w:World) : List ResultVar→List Value→Prop
 | nil:ResIs P L w [] []
 | tmp {t:Nat} {v:Value} {rs:List ResultVar} {vs:List Value}:get L t=some v→ResIs P L w rs vs→ResIs P L w (.tmp t::rs) (v::vs)
 | cell {t ty b tb m:Nat} {cs:List Value} {rs:List ResultVar} {vs:List Value}:AggTy P ty m→get L t=some (.pointer (some ⟨b,0,none⟩))→Blk w b tb cs→cs.length=m→ResIs P L w rs vs→ResIs P L w (.cell t ty::rs) (.agg cs.toArray::vs)
theorem ResIs.run {P:Program} {L:Env} {w:World} {n:Nat} {a:Act} (ha:Fit n a L) {rs:List ResultVar} {vs:List Value} (h:ResIs P L w rs vs) :
  (rs.mapM (m:=Sem) fun | .tmp t=>pure (a.tmps.getD t undef) | .cell b t=>do loadVar t (← asAddr (a.tmps.getD b undef))).run P w = .ok vs w:=by
 induction h with
 | nil=>rfl
 | @tmp t v rs vs hg hr ih =>
  rw [List.mapM_cons]
  simp only [Sem.run_bind,ha.has _ _ hg,pure,Sem.run,Result.andThen]
  simp only [pure] at ih
  rw [ih]
 | @cell t ty b tb m cs rs vs c hg hB hl hr ih =>
  rw [List.mapM_cons]
  have hload:(loadVar ty ⟨b,0,none⟩).run P w = .ok (.agg cs.toArray) w:=by
   subst hl
   simp [loadVar,run_isAgg_agg,run_sizeOf c.size,run_loadCells_list (P:=P) w ⟨b,0,none⟩ cs (fun j v hv=>hB.cell hv)]
  have hasA:(asAddr (a.tmps.getD t undef)).run P w = .ok ⟨b,0,none⟩ w:=by rw [ha.has _ _ hg];rfl
  simp only [Sem.run_bind,hasA,Result.andThen,hload]
  rw [ih]
  rfl
section
variable {P:Program} {fn:Func} {R:Ending→World→Prop} {n:Nat} {L:Env} {w:World}
theorem ResIs.results {rs:List ResultVar} {vs:List Value} (hr:fn.results=rs.toArray) (h:ResIs P L w rs vs) {a:Act} (ha:Fit n a L) :
  (results fn a.tmps).run P w = .ok (if h:vs.toArray.size=1 then vs.toArray[0] else .tuple vs.toArray) w:=by
 have h1:=h.run ha
 unfold Go.results
 rw [hr,Array.mapM_eq_mapM_toList]
 have e:∀ (x:Sem (List Value)),x.run P w = .ok vs w→(do let vs ← (Functor.map List.toArray x:Sem (Array Value));pure (if h:vs.size=1 then vs[0] else .tuple vs) : Sem Value).run P w = .ok (if h:vs.toArray.size=1 then vs.toArray[0] else .tuple vs.toArray) w:=fun x hx=>by
  simp [hx,Result.andThen]
 exact e _ h1
theorem Post.ret1c {t ty b tb m:Nat} {cs:List Value} [c:AggTy P ty m] (hr:fn.results = #[.cell t ty]) (hv:get L t=some (.pointer (some ⟨b,0,none⟩))) (hB:Blk w b tb cs) (hl:Nat.beq cs.length m=true) (h:R (.returned (.agg cs.toArray)) w) : Post n (bodyPost P fn R) .ret L w :=
 ⟨fun a ha=>⟨ha.defers,_,by simpa using ResIs.results (rs:=[.cell t ty]) hr (.cell c hv hB (Nat.eq_of_beq_eq_true hl) .nil) ha,h⟩⟩
theorem Post.ret2c {t u ty b tb m:Nat} {cs:List Value} {x:Value} [c:AggTy P ty m] (hr:fn.results = #[.cell t ty,.tmp u]) (hv:get L t=some (.pointer (some ⟨b,0,none⟩))) (hx:get L u=some x) (hB:Blk w b tb cs) (hl:Nat.beq cs.length m=true) (h:R (.returned (.tuple #[.agg cs.toArray,x])) w) : Post n (bodyPost P fn R) .ret L w :=
 ⟨fun a ha=>⟨ha.defers,_,by simpa using ResIs.results (rs:=[.cell t ty,.tmp u]) hr (.cell c hv hB (Nat.eq_of_beq_eq_true hl) (.tmp hx .nil)) ha,h⟩⟩
theorem Post.ret3c {t u q ty b tb m:Nat} {cs:List Value} {x y:Value} [c:AggTy P ty m] (hr:fn.results = #[.cell t ty,.tmp u,.tmp q]) (hv:get L t=some (.pointer (some ⟨b,0,none⟩))) (hx:get L u=some x) (hy:get L q=some y) (hB:Blk w b tb cs) (hl:Nat.beq cs.length m=true) (h:R (.returned (.tuple #[.agg cs.toArray,x,y])) w) : Post n (bodyPost P fn R) .ret L w :=
 ⟨fun a ha=>⟨ha.defers,_,by simpa using ResIs.results (rs:=[.cell t ty,.tmp u,.tmp q]) hr (.cell c hv hB (Nat.eq_of_beq_eq_true hl) (.tmp hx (.tmp hy .nil))) ha,h⟩⟩
end
section
variable {P:Program} {n:Nat} {ops:Array Oper} {Q:Exit→Act→World→Prop} {rest:List Oper} {L:Env} {w:World}
theorem run_callv {a:Act} {d:Option Nat} {fo:Operand} {f:FuncId} {cap:List Value} {xs:List Operand} {ts:Array TypeId} {T:TypeId} {pos:String} {af:Array Edge} {g:Option (Nat×Bool)} {w':World}
  [hb:Body P f] (hf:a.eval fo = .func (.func f) #[] cap.toArray) : (execOp a.eval ⟨d,.call ⟨.value fo,xs.toArray,ts⟩,T,pos,af,g⟩).run P w' = .ok (.enter f (xs.map a.eval++cap).toArray) w':=by
 simp only [execOp,resolve,hf,Deferred.ofValue,Sem.run_bind,pure,Sem.run,Result.andThen,invoke,List.map_toArray]
 have:=hb.out (xs.map a.eval++cap).toArray w'
 simpa using this
theorem SW.callv {d:Nat} {fo:Operand} {f:FuncId} {cap:List Value} {xs:List Operand} {vs:List Value} {ts:Array TypeId} {T:TypeId} {pos:String} {af:Array Edge} {R:Value→World→Prop}
  [Body P f] (hf:opv L fo=some (.func (.func f) #[] cap.toArray)) (hx:opvs L xs=some vs) (hn:Nat.blt d n=true) (hc:Ans P f (vs++cap) w R) (h:∀ v w',Ext w w'→R v w'→SW P n ops (.eff Q) rest ((d,v)::L) w') :
  SW P n ops (.eff Q) (⟨some d,.call ⟨.value fo,xs.toArray,ts⟩,T,pos,af,none⟩::rest) L w :=
 ⟨fun a ha=>by
  simp only [swp,wpList,Region.wanted,if_true]
  refine .inl ?_
  unfold Oper.wp
  rw [run_callv (ha.eval hf),Oper.upon_enter,ha.evals hx]
  refine Calls.mono hc.out ?_
  rintro e w' ⟨v,rfl,hx',hv⟩
  exact (h v w' hx' hv).out _ (ha.put hn v)⟩
theorem SW.qcallv {K:Env→Prop} {d:Nat} {fo:Operand} {f:FuncId} {cap:List Value} {xs:List Operand} {vs:List Value} {ts:Array TypeId} {T:TypeId} {pos:String} {af:Array Edge} {v:Value}
  [Body P f] (hf:opv L fo=some (.func (.func f) #[] cap.toArray)) (hx:opvs L xs=some vs) (hn:Nat.blt d n=true) (hc:∀ w',Ext w w'→Ans P f (vs++cap) w' fun u _=>u=v) (h:SW P n ops (.qui K) rest ((d,v)::L) w) :
  SW P n ops (.qui K) (⟨some d,.call ⟨.value fo,xs.toArray,ts⟩,T,pos,af,none⟩::rest) L w :=
 ⟨fun a ha=>by
  simp only [swp,wpQuiet,Region.wanted,if_true]
  refine ⟨v,fun w' hw' => ?_,h.out _ (ha.put hn v)⟩
  unfold Oper.quietAt
  rw [run_callv (ha.eval hf),ha.evals hx]
  refine ⟨rfl,Calls.mono (hc w' hw').out ?_⟩
  rintro e w'' ⟨u,rfl,hx',rfl⟩
  exact ⟨rfl,hw'.trans hx'⟩⟩
end
section
variable {P:Program} {L:Env} {w:World} {d:Option Nat} {T:TypeId} {pos:String} {af:Array Edge} {g:Option (Nat×Bool)}
theorem st_sliceLo {t e:TypeId} {sz:Nat} [c:SliceTy P t e sz] {x y:Operand} {A:Option Addr} {n cap k:Nat} (hx:opv L x=some (.slice A n cap)) (hy:opv L y=some (.int .i64 (k:Int))) (hk:k≤n) (hc:n≤cap) :
  St P ⟨d,.slice t x (some y) none none,T,pos,af,g⟩ L w (.slice (if cap=k then A else A.map (·.add (k*sz))) (n-k) (cap-k)) :=
 ⟨fun _ a ha w' _=>by
  have e1:=ha.eval hx;have e2:=ha.eval hy;generalize a.eval = ρ at *
  simp [execOp,e1,e2,Instr.sliceAt,Instr.slice,Instr.sliceBounds,Instr.sliceBound,asIntOf,run_underlying c.und,run_sizeOf c.size,hk]⟩
theorem st_sliceHi {t e:TypeId} {sz:Nat} [c:SliceTy P t e sz] {x y:Operand} {A:Option Addr} {n cap k:Nat} (hx:opv L x=some (.slice A n cap)) (hy:opv L y=some (.int .i64 (k:Int))) (hk:k≤cap) :
  St P ⟨d,.slice t x none (some y) none,T,pos,af,g⟩ L w (.slice A k cap) :=
 ⟨fun _ a ha w' _=>by
  have e1:=ha.eval hx;have e2:=ha.eval hy;generalize a.eval = ρ at *
  have h0:A.map (·.add 0)=A:=by cases A<;>simp [add_zero]
  simp [execOp,e1,e2,Instr.sliceAt,Instr.slice,Instr.sliceBounds,Instr.sliceBound,asIntOf,run_underlying c.und,run_sizeOf c.size,hk,h0]⟩
end
def isI64:Option TypeDesc→Bool
 | some (.int .i64)=>true
 | _=>false
theorem isI64_eq {o:Option TypeDesc} (h:isI64 o=true) : o=some (.int .i64):=by
 unfold isI64 at h
 split at h
 ·rfl
 ·cases h
class IntsTy (P:Program) (t:TypeId) (k:outParam Nat) : Prop where
 und:P.underlying t=some (.struct (P.fieldsOf t))
 stood:P.stoodInHeld t=false
 guard:P.eqGuardType P.depth t=false
 flds : ((P.fieldsOf t).toList.map fun f => (f.name == "_", f.offset, isI64 (P.underlying f.type), (P.info? f.type).map (·.size))) = (List.range k).map fun i => (false, i, true, some 1)
theorem run_part_int {P:Program} {w:World} {t off:Nat} {xs:Array Value} {v:Value} (hu:P.underlying t=some (.int .i64)) (hs:(P.info? t).map (·.size)=some 1) (hv:xs[off]?=some v) : (part t xs off).run P w = .ok v w:=by
 have hlt:off<xs.size:=(Array.getElem?_eq_some_iff.1 hv).1
 have hg:xs[off]=v:=(Array.getElem?_eq_some_iff.1 hv).2
 simp only [part,isAgg,Sem.run_bind,run_underlying hu,Result.andThen,pure,Sem.run]
 simp [hv]
theorem run_eqFields_ints {P:Program} {w:World} (d:Nat) (xs ys:List Int) : ∀ (fs:List Field) (j:Nat),
  (fs.map fun f => (f.name == "_", f.offset, isI64 (P.underlying f.type), (P.info? f.type).map (·.size))) = (List.range' j fs.length).map (fun i => (false, i, true, some 1)) → xs.length = j + fs.length → ys.length = j + fs.length →
  (Op.eqFields (d+1) (xs.map (Value.int .i64)).toArray (ys.map (Value.int .i64)).toArray fs).run P w = .ok (decide (xs.drop j=ys.drop j)) w
 | [],j,_,hx,hy=>by
  simp only [List.length_nil] at hx hy
  have e1:xs.drop j=[]:=by simp;omega
  have e2:ys.drop j=[]:=by simp;omega
  simp [Op.eqFields,e1,e2]
 | f::fs,j,h,hx,hy=>by
  simp only [List.map_cons,List.length_cons,List.range'_succ,List.cons.injEq,Prod.mk.injEq] at h hx hy
  obtain ⟨⟨h1,h2,h3,h4⟩,h5⟩:=h
  have ih:=run_eqFields_ints (w:=w) d xs ys fs (j+1) h5 (by omega) (by omega)
  have hjx:j<xs.length:=by omega
  have hjy:j<ys.length:=by omega
  have hne : f.name ≠ "_" := by simpa using h1
  have p1:=run_part_int (P:=P) (w:=w) (off:=j) (xs:=(xs.map (Value.int .i64)).toArray) (isI64_eq h3) h4 (v := .int .i64 xs[j]) (by simp [hjx])
  have p2:=run_part_int (P:=P) (w:=w) (off:=j) (xs:=(ys.map (Value.int .i64)).toArray) (isI64_eq h3) h4 (v := .int .i64 ys[j]) (by simp [hjy])
  have dx:=List.drop_eq_getElem_cons hjx
  have dy:=List.drop_eq_getElem_cons hjy
  generalize xs.drop (j+1)=dx' at *
  generalize ys.drop (j+1)=dy' at *
  rw [dx,dy]
  simp only [Op.eqFields,if_pos hne,Sem.run_bind,h2,p1,p2,Result.andThen,run_equalIn_int w d f.type .i64 .i64 xs[j] ys[j] (isI64_eq h3)]
  by_cases e:xs[j]=ys[j]
  ·rw [show (xs[j] == ys[j])=true by simpa using e]
   simp only [Bool.not_true,Bool.false_eq_true,if_false,ih,e]
   congr 1
   simp
  ·rw [show (xs[j] == ys[j])=false by simpa using e]
   simp only [Bool.not_false,if_true,List.cons.injEq,e,false_and,decide_false]
   rfl
section
variable {P:Program} {L:Env} {w:World} {d:Option Nat} {T:TypeId} {pos:String} {af:Array Edge} {g:Option (Nat×Bool)}
theorem run_eqS {t k:TypeId} [c:IntsTy P t k] (xs ys:List Int) (hx:xs.length=k) (hy:ys.length=k) (w':World) : (Op.equalIn 10000 t (.agg (xs.map (Value.int .i64)).toArray) (.agg (ys.map (Value.int .i64)).toArray)).run P w' = .ok (decide (xs=ys)) w':=by
 have hl:(P.fieldsOf t).toList.length=k:=by have:=congrArg List.length c.flds;simpa using this
 have h:=run_eqFields_ints (P:=P) (w:=w') 9998 xs ys (P.fieldsOf t).toList 0 (by rw [c.flds,hl,List.range_eq_range']) (by omega) (by omega)
 rw [run_equalIn_struct w' 9999 t _ _ c.und c.stood]
 simpa using h
theorem st_neS {t k ty:TypeId} [c:IntsTy P t k] {x y:Operand} (xs ys:List Int) (hx:opv L x=some (.agg (xs.map (Value.int .i64)).toArray)) (hy:opv L y=some (.agg (ys.map (Value.int .i64)).toArray)) (h1:Nat.beq xs.length k=true) (h2:Nat.beq ys.length k=true) :
  St P ⟨d,.binOp .neq t x y ty,T,pos,af,g⟩ L w (.bool (!decide (xs=ys))) :=
 ⟨fun _ a ha w' _=>by
  have e:=run_eqS (P:=P) (t:=t) xs ys (Nat.eq_of_beq_eq_true h1) (Nat.eq_of_beq_eq_true h2) w'
  have hb:(binOp .neq t (.agg (xs.map (Value.int .i64)).toArray) (.agg (ys.map (Value.int .i64)).toArray)).run P w' = .ok (.bool (!decide (xs=ys))) w':=by rw [run_neq_struct,e];rfl
  have hg:=run_eqGuard_agg (P:=P) w' .neq t x y (xs.map (Value.int .i64)).toArray (ys.map (Value.int .i64)).toArray c.guard
  have e1:=ha.eval hx
  have e2:=ha.eval hy
  generalize (xs.map (Value.int .i64)).toArray=X at *
  generalize (ys.map (Value.int .i64)).toArray=Y at *
  simp [execOp,e1,e2,hg,hb]⟩
end
section
variable {P:Program} {n:Nat} {ops:Array Oper} {Q:Exit→Act→World→Prop} {rest:List Oper} {L:Env} {w:World} {pos:String} {af:Array Edge} {T:TypeId}
theorem SW.box1 {d:Nat} {t:TypeId} {x:Operand} {v:Value} (hx:opv L x=some v) (h1:v.oneCell'=true) (hn:Nat.blt d n=true)
  (h:∀ b w',Ext w w'→w.heap.size≤b→Blk w' b t [v]→SW P n ops (.eff Q) rest ((d,.pointer (some ⟨b,0,none⟩))::L) w') : SW P n ops (.eff Q) (⟨some d,.box t x,T,pos,af,none⟩::rest) L w :=
 ⟨fun a ha=>by
  have hcs:v.cells = #[v]:=by cases v<;>first|rfl|simp [Value.oneCell'] at h1
  simp only [swp,wpList,Region.wanted,if_true]
  refine .inl ?_
  unfold Oper.wp
  have hr:(execOp a.eval ⟨some d,.box t x,T,pos,af,none⟩).run P w = .ok (.value (.pointer (some ⟨w.heap.size,0,none⟩))) (w.alloc (.cells #[v] t)):=by
   simp [execOp,ha.eval hx,Instr.box,newVar,newRow,newObj,Sem.run,hcs]
  rw [hr,Oper.upon_value]
  exact (h _ _ (Ext.alloc w _) (Nat.le_refl _) (Blk.new w t [v])).out _ (ha.put hn _)⟩
end
theorem Ext.own {base w w':World} {b:Nat} (h:Ext base w) (hb:base.heap.size≤b) (hg:w.grownBy w' (some b)) : Ext base w':=ext_grown h hg (Nat.le_refl _) (fun k e=>by cases e;exact hb)
end Go.Proofs.YtigikedbffjeiaaGreat
