/-
  Texts of the claim TopProcessors, part 11: what its theorem leans on.
-/
import Derived.Test.YtbidkghlpijecaaGreatDoorPackTopProcessors1
import Derived.Great.BuildSlice
import Derived.ArgAppend
import Derived.Test.YtbidkghlpijecaaGreatDoorPackTopProcessors5
import Derived.Test.YtbidkghlpijecaaGreatDoorPackTopProcessors2
import Derived.Test.YtbidkghlpijecaaGreatDoorPackTopProcessors6
import Derived.Test.YtbidkghlpijecaaGreatDoorPackTopProcessors8
import Derived.Test.YtbidkghlpijecaaGreatDoorPackTopProcessors9
set_option linter.unusedVariables false
set_option linter.unusedSimpArgs false
namespace Go.Proofs.YtbidkghlpijecaaGreatDoor
open Go.RowKit
section
variable {P:Program} {n:Nat} {ops:Array Oper} {Q:Exit→Act→World→Prop} {rest:List Oper} {L:Env} {w:World} {d:Nat} {T:TypeId} {pos:String} {af:Array Edge}
end
section
variable {α:Type} {P:Program} {w:World} {lo:Nat} {t e:TypeId} {z:Value} {sz bytes:Nat} {enc : α → List Value} {A X:Option Addr} {n c m d:Nat} {l ys:List α}
theorem A7 [S:bj P t e sz] [T:dj P e z sz bytes] [E:fP enc sz] (ty:TypeId) (hO:Own w lo e sz enc A n c l) (hS:Sl w sz enc X m ys) (gB:lo≤w.heap.size) (DP : 0<m)
 (hb:(n+m)*bytes≤140737488355328) (hm:n+m≤maxLen) :
 ∃ A' c' w',(Builtin.append_ #[t,t] ty #[.slice A n c,.slice X m d]).run P w = .ok (.slice A' (n+m) c') w' ∧
  ((A'=A∧c'=c∧Own w' lo e sz enc A (n+m) c (l++ys)∧w.grownBy w' (aM A c))∨(Own w' w.heap.size e sz enc A' (n+m) c' (l++ys)∧w.grownBy w' none)):=by
 obtain ⟨i,hi,hz,hs,xb⟩:=dQ P e (z:=z) (sz:=sz) (bytes:=bytes);have Gd:(ys.flatMap enc).length=m*sz:=by rw [aQ,hS.len]
 have ml:∀ u∈ys.flatMap enc,u.oneCell'=true:=fun u hu=>by
  obtain ⟨x,_,hx⟩:=List.mem_flatMap.1 hu;exact E.one x u hx
 have Lk:(l++ys).flatMap enc=l.flatMap enc++ys.flatMap enc:=List.flatMap_append
 have pp:(l++ys).length=n+m:=by rw [List.length_append,hO.len,hS.len]
 obtain ⟨ad,rfl⟩:=Option.isSome_iff_exists.1 (hS.base DP);have qS:=de T.pos hS;have Qs:(l.flatMap enc).length=n*sz:=by rw [aQ,hO.len]
 have uJ:∀ b,A=some b→c<n+m→(∀ j u,(l.flatMap enc)[j]?=some u→w.cell? (b.add j)=some u) →
  ∃ A' c' w',(Builtin.append_ #[t,t] ty #[.slice A n c,.slice (some ad) m d]).run P w = .ok (.slice A' (n+m) c') w'∧(Own w' w.heap.size e sz enc A' (n+m) c' (l++ys)∧w.grownBy w' none):=by
  rintro b rfl dL hold;obtain ⟨v',w',hr,h2,h3⟩:=run_append_arg_grows (P:=P) w t ty e i z sz bytes S.mB hi hz hs xb T.zc T.pos b n c (l.flatMap enc) Qs hold ad m d (ys.flatMap enc) Gd qS dL hm hb;rw [← Lk] at h2;obtain ⟨A',c',rfl,ho⟩:=Own.po h2 pp;exact ⟨A',c',w',hr,ho,h3⟩
 rcases hO.row with ⟨rfl,rfl⟩|⟨hc,g,ij,rfl,S3,r5,nY,vh,Ci,qT⟩
 ·have hl:l=[]:=List.eq_nil_of_length_eq_zero hO.len
  subst hl;cases A with
  | none =>
    obtain ⟨v',w',hr,h2,h3,_⟩:=run_append_own (P:=P) w w.heap.size t ty e i z sz bytes S.mB hi hz hs xb T.zc T.pos (.slice none 0 0) 0 [] (World.ownsRow_nil _ _ _ _) ad m d (ys.flatMap enc) Gd qS ml hm hb (Nat.le_refl _);obtain ⟨A',c',rfl,ho⟩:=Own.po (m:=0+m) (l:=[]++ys) (enc:=enc) (by simpa using h2) (by simpa using hS.len);exact ⟨A',c',w',hr,.inr ⟨ho,by simpa [Value.ownBlock] using h3⟩⟩
  | some b =>
    obtain ⟨A',c',w',hr,h⟩:=uJ b rfl (by omega) (by simp);exact ⟨A',c',w',hr,.inr h⟩
 ·by_cases jI:n+m≤c
  ·obtain ⟨A',c',w',hr,h1,h2⟩:=oz (P:=P) (t:=t) ty hO hS (d:=d) gB hb hm;have n0:=run_append_room (P:=P) w t ty e i S.mB hi g n c ij r5 ad m d (ys.flatMap enc) (by rw [hs];exact Gd) qS ml jI (by rw [hs,Gd,Ci,← Nat.add_mul];exact Nat.mul_le_mul_right _ jI);have he:=hr.symm.trans n0;injection he with he _
   injection he with e1 _ e3
   subst e1 e3;exact ⟨_,_,w',hr,.inl ⟨rfl,rfl,h1,h2⟩⟩
  ·obtain ⟨A',c',w',hr,h⟩:=uJ ⟨g,0,none⟩ rfl (by omega) ((hO.owns hc).cells (g:=g) (by simp [Value.ownBlock]));exact ⟨A',c',w',hr,.inr h⟩
end
theorem SW.uK {α:Type} {P:Program} {n:Nat} {ops:Array Oper} {Q:Exit→Act→World→Prop} {rest:List Oper} {L:Env} {w:World} {dd:Nat} {T:TypeId} {pos:String} {af:Array Edge}
 {lo:Nat} {t e:TypeId} {z:Value} {sz bytes:Nat} {enc : α → List Value} {A X:Option Addr} {k c m c2:Nat} {l ys:List α} [bj P t e sz] [dj P e z sz bytes] [fP enc sz] {x y:Operand}
 (hO:Own w lo e sz enc A k c l) (hS:Sl w sz enc X m ys) (gB:lo≤w.heap.size) (DP : 0<m) (hx:cg L x=some (.slice A k c)) (hy:cg L y=some (.slice X m c2)) (hn:Nat.blt dd n=true)
 (hb:(k+m)*bytes≤140737488355328) (hm:k+m≤9223372036854775807)
 (h:∀ A' c' w',((A'=A∧c'=c∧Own w' lo e sz enc A (k+m) c (l++ys)∧w.grownBy w' (aM A c))∨(Own w' w.heap.size e sz enc A' (k+m) c' (l++ys)∧w.grownBy w' none))→SW P n ops (.gw Q) rest ((dd,.slice A' (k+m) c')::L) w') :
 SW P n ops (.gw Q) (⟨some dd,.call ⟨.builtin .append,#[x,y],#[t,t]⟩,T,pos,af,none⟩::rest) L w :=
 ⟨fun a ha=>by
  obtain ⟨A',c',w',hr,h1⟩:=A7 (P:=P) (t:=t) T hO hS (d:=c2) gB DP hb (by simp only [maxLen];omega);simp only [swp,wpList,Region.wanted,if_true];refine .inl ?_;unfold Oper.wp
  have:(execOp a.eval ⟨some dd,.call ⟨.builtin .append,#[x,y],#[t,t]⟩,T,pos,af,none⟩).run P w = .ok (.value (.slice A' (k+m) c')) w':=by
   simp [execOp,resolve,invoke,builtin,ha.eval hx,ha.eval hy,hr]
  rw [this,Oper.upon_value];exact (h A' c' w' h1).out _ (ha.put hn _)⟩
open Go.RowKit
set_option maxHeartbeats 4000000 in
theorem v8 (A:Option Addr) (n c lo:Nat) (l:List cy) (w:World) (hO:Own w lo 142 4 bI A n c l) (i:Nat) (hi:i≤n) (x:cy) (b:Nat) (hB:aW w b 142 (bI x)) (bW:aM A c≠some b) (hn:(n+1)*48≤140737488355328) (gB:lo≤w.heap.size) :
 jw Tryz.prog 193 [.slice A n c,.int .i64 (i:Int),.slice (some ⟨b,0,none⟩) 1 1] w fun v w' => ∃ A' c',v = .slice A' (n+1) c'∧Own w' lo 142 4 bI A' (n+1) c' (aN l i x)∧w.grownBy w' (aM A c) ∧ ∀ k,aM A' c'=some k→aM A c=some k∨w.heap.size≤k:=by
 refine dM Tryz.func193 rfl Tryz.ntmps193 rfl ?_;have hle:=hO.le;have pp:=hO.len;have hA:=hO.sl.base;have hw:=Ext.refl w;have jn:Sl w 4 bI (some ⟨b,0,none⟩) 1 [x]:=aW.z7 hB
 have lW:(bI x).length=4:=rfl
 have m8:∀ q:List cy,(q.flatMap bI).length=q.length*4:=fun q=>aQ q
 have ml:∀ (q:List cy) (v:Value),v∈q.flatMap bI→v.oneCell'=true:=fun q v hv=>by
  obtain ⟨u,_,hu⟩:=List.mem_flatMap.1 hv;exact fP.one (enc:=bI) u v hu
 by_cases df:i=n
 ·subst df;repeat' (first|refine Wz ?_|(refine SW.st (aV (k:=i) rfl rfl (by omega) (by omega)) rfl ?_))
  all_goals try omega
  refine SW.uK hO jn gB (by omega) rfl rfl rfl (by omega) (by omega) fun A2 c2 w2 tC => ?_
  have CL:Own w2 lo 142 4 bI A2 (i+1) c2 (l++[x])∧w.grownBy w2 (aM A c) ∧ ∀ k,aM A2 c2=some k→aM A c=some k∨w.heap.size≤k:=by
   rcases tC with ⟨rfl,rfl,h1,h2⟩|⟨h1,h2⟩
   ·exact ⟨h1,h2,fun k e => .inl e⟩
   ·exact ⟨h1.low gB,(aO (Ext.refl w) h2 (Nat.le_refl _) (fun k e=>by cases e)).gr _,fun k e => .inr (h1.bc k e)⟩
  obtain ⟨cJ,hg,ju⟩:=CL;refine Wz ?_;refine ah.aY rfl rfl ⟨_,rfl,A2,c2,rfl,?_,hg,ju⟩;have e:aN l i x=l++[x]:=by unfold aN;rw [List.take_of_length_le (by omega),List.drop_eq_nil_of_le (by omega)];simp
  rw [e];exact cJ
 ·by_cases jI:n+1≤c
  ·obtain ⟨g,rest,rfl,h1,h2,h3,h4,h5,h6⟩:=hO.opened (by omega);have Aa:g≠b:=fun e=>bW (by rw [h6,e])
   have es:l.flatMap bI++rest=(l.take i).flatMap bI++((l.drop i).flatMap bI++rest):=by rw [← List.append_assoc,← List.flatMap_append,List.take_append_drop]
   have e1:((l.take i).flatMap bI).length=i*4:=by rw [m8];simp;omega
   have e2:((l.drop i).flatMap bI).length=(n-i)*4:=by rw [m8];simp [pp]
   have kK:=hO.sl.drop i c (by omega) (by omega);rw [if_neg (by omega)] at kK;rw [es] at h2
   have EP:∀ w',Ext w w'→(Extern.SlicesOverlaps.overlaps #[38,38] #[4] #[.slice (some ⟨b,0,none⟩) 1 1,.slice (if c=i+1 then (some ⟨g,0,none⟩) else (some (⟨g,0,none⟩ : Addr)).map (·.add ((i+1)*4))) (n+1-(i+1)) (c-(i+1))]).run Tryz.prog w' = .ok (.bool false) w':=fun w' hx=>by
    rw [if_neg (by omega),Option.map_some,ck];have b1:=hB.ext hx;have b2:=h2.ext hx;unfold aW at b1 b2
    exact Lib.run_overlaps_apart w' 38 4 142 (bj.mB (t:=38)) 4 (fun w0=>run_sizeOf (bj.size (t:=38)) w0) ⟨b,0,none⟩ ⟨g,(i+1)*4,none⟩ 1 1 _ _ (fun e=>Aa e.symm) 142 142 (bI x).toArray.size ((l.take i).flatMap bI++((l.drop i).flatMap bI++rest)).toArray.size
     (by simp only [World.shape?,b1]) (by simp only [World.shape?,b2]) (by simp [e1,e2];omega) (by simp [World.frozen?,b1]) (by simp [World.frozen?,b1])
   repeat' (first|refine Wz ?_|(refine CW.dh rfl ?_)|(refine SW.st (aV (k:=i) rfl rfl (by omega) (by omega)) rfl ?_)|(refine SW.st (cS (k:=n+1) rfl rfl (by omega)) rfl ?_)|(refine SW.st (aV (k:=i+1) rfl rfl (by omega) (by omega)) rfl ?_)|(refine SW.entry Tryz.func235 (by kernel_rfl) (by kernel_rfl) (by kernel_rfl) (e:=Extern.SlicesOverlaps.overlaps #[38,38] #[4]) (by kernel_rfl) rfl rfl (EP _ hw) ?_))
   all_goals try omega
   have qO:((n-i)+1)*4≤((l.drop i).flatMap bI++rest).length:=by rw [List.length_append,e2];omega
   have e4:(l.drop i).flatMap bI++rest=((l.drop i).flatMap bI++rest).take 4++(((l.drop i).flatMap bI++rest).drop 4).take ((n-i)*4)++((l.drop i).flatMap bI++rest).drop (4+(n-i)*4):=by
    rw [List.append_assoc,← List.drop_drop,List.take_append_drop,List.take_append_drop]
   generalize Cr:((l.drop i).flatMap bI++rest).take 4=D1 at e4
   generalize Cs:(((l.drop i).flatMap bI++rest).drop 4).take ((n-i)*4)=D2 at e4
   generalize Ct:((l.drop i).flatMap bI++rest).drop (4+(n-i)*4)=D3 at e4
   have f1:D1.length=4:=by rw [← Cr];simp only [List.length_take];omega
   have f2:D2.length=(n-i)*4:=by rw [← Cs];simp only [List.length_take,List.length_drop];omega
   have f3:D3.length+4=rest.length:=by rw [← Ct];simp only [List.length_drop,List.length_append,e2];omega
   rw [e4] at h2;refine CW.any 8 mixed (da (by kernel_rfl)) rfl fun w1 ae aJ => ?_
   replace hw:=Ext.trans hw ae;replace hO:=hO.ext ae;replace hB:=hB.ext ae;replace h2:=h2.ext ae;clear ae;refine Wa ?_;refine SA.take 4 aJ rfl (by kernel_rfl) (by kernel_rfl) rfl ?_;repeat ((refine SW.st (aV (k:=i+1) rfl rfl (by omega) (by omega)) rfl ?_))
   refine SW.ai ?_;refine Wa ?_;refine SA.take 7 aJ rfl (by kernel_rfl) (by kernel_rfl) rfl ?_;repeat ((refine SW.st (aV (k:=i) rfl rfl (by omega) (by omega)) rfl ?_))
   refine SW.ai ?_;refine SA.done (by kernel_rfl) ?_;refine SW.copy (k:=n-i) ((i+1)*4) ((l.drop i).flatMap bI) h2 rfl rfl rfl (by omega) e2 (by simp only [List.length_append,e1,e2,f1,f2];omega) (fun h0=>⟨by rw [if_neg (by omega)];simp [ck],(⟨g,0,none⟩ : Addr).add (i*4),by rw [if_neg (by omega)];rfl,fun j v hv=>de (by omega) (kK.ext hw) j v hv⟩) (ml _) fun w3 lN nY => ?_
   have g1:=dS ((l.take i).flatMap bI++D1) D2 D3 ((l.drop i).flatMap bI) (by rw [e2,f2]) (o:=(i+1)*4) (by rw [List.length_append,e1,f1];omega);have g0:(l.take i).flatMap bI++(D1++D2++D3)=(l.take i).flatMap bI++D1++D2++D3:=by simp only [List.append_assoc]
   rw [g0,g1] at lN;have EO:=bH (hw.gr (aM (some ⟨g,0,none⟩) c)) nY (.inl h6.symm);have Ly:=hB.grown nY (by simpa using fun e=>Aa e.symm);repeat' (first|refine Wz ?_|(refine SW.st (aV (k:=i) rfl rfl (by omega) (by omega)) rfl ?_))
   refine SW.copy (k:=1) (i*4) (bI x) lN rfl rfl rfl (by omega) lW (by simp only [List.length_append,e1,e2,f1,lW];omega) (fun h0=>⟨by rw [if_neg (by omega)];simp [ck],⟨b,0,none⟩,rfl,fun j v hv=>Ly.cell hv⟩) (fP.one (enc:=bI) x) fun w4 lA vh => ?_
   have g2:=dS ((l.take i).flatMap bI) D1 ((l.drop i).flatMap bI++D3) (bI x) (by rw [lW,f1]) (o:=i*4) e1.symm;have g3:(l.take i).flatMap bI++D1++(l.drop i).flatMap bI++D3=(l.take i).flatMap bI++D1++((l.drop i).flatMap bI++D3):=by simp only [List.append_assoc]
   have g4:(l.take i).flatMap bI++bI x++((l.drop i).flatMap bI++D3)=(aN l i x).flatMap bI++D3:=by unfold aN;simp only [List.flatMap_append,List.flatMap_cons,List.flatMap_nil,List.append_nil,List.append_assoc]
   rw [g3,g2,g4] at lA;have Ax:=Own.closed (n:=n+1) (c:=c) (l:=aN l i x) (by unfold aN;simp;omega) lA (by omega) jI (by omega) h5 h1;have EQ:=bH EO vh (.inl h6.symm);refine Wz ?_;exact ah.aY rfl rfl ⟨_,rfl,_,_,rfl,Ax,EQ,fun k e => .inl e⟩
  ·have Lz:c=n:=by omega
   have kK:=hO.sl.drop i c (by omega) (by omega);have xn:=hO.sl.pre (i:=i) (by omega);repeat' (first|refine Wz ?_|(refine SW.st (aV (k:=i) rfl rfl (by omega) (by omega)) rfl ?_)|(refine SW.st (cS (k:=i) rfl rfl (by omega)) rfl ?_))
   all_goals try omega
   refine SW.uA (k:=n+1-i) xn Tryz.underlying3 rfl rfl (by omega) rfl (by omega) (by omega) (by omega) (by omega) fun g rest c2 w2 bF r5 h2 h3 h4 h5 => ?_
   have e1:((l.take i).flatMap bI).length=i*4:=by rw [m8];simp;omega
   have e2:((l.drop i).flatMap bI).length=(n-i)*4:=by rw [m8];simp [pp]
   have qO:((n-i)+1)*4≤rest.length:=by omega
   have e4:rest=rest.take 4++(rest.drop 4).take ((n-i)*4)++rest.drop (4+(n-i)*4):=by
    rw [List.append_assoc,← List.drop_drop,List.take_append_drop,List.take_append_drop]
   generalize Cr:rest.take 4=D1 at e4
   generalize Cs:(rest.drop 4).take ((n-i)*4)=D2 at e4
   generalize Ct:rest.drop (4+(n-i)*4)=D3 at e4
   have f1:D1.length=4:=by rw [← Cr];simp only [List.length_take];omega
   have f2:D2.length=(n-i)*4:=by rw [← Cs];simp only [List.length_take,List.length_drop];omega
   have f3:D3.length+((n-i)+1)*4=rest.length:=by rw [← Ct];simp only [List.length_drop];omega
   rw [e4] at h2;have dN:aM A c≠some g:=fun e=>by have:=hO.lt_size _ e;omega
   have Aa:b≠g:=by have:=hB.lt;omega
   replace kK:=kK.ext bF;replace hB:=hB.ext bF;replace hw:=Ext.trans hw bF;repeat' (first|refine Wz ?_|(refine SW.st (aV (k:=i) rfl rfl (by omega) (by omega)) rfl ?_))
   refine SW.copy (k:=1) (i*4) (bI x) h2 rfl rfl rfl (by omega) lW (by simp only [List.length_append,e1,f1,f2,lW];omega) (fun h0=>⟨by rw [if_neg (by omega)];simp [ck],⟨b,0,none⟩,rfl,fun j v hv=>hB.cell hv⟩) (fP.one (enc:=bI) x) fun w3 lN nY => ?_
   have g2:=dS ((l.take i).flatMap bI) D1 (D2++D3) (bI x) (by rw [lW,f1]) (o:=i*4) e1.symm;have g3:(l.take i).flatMap bI++(D1++D2++D3)=(l.take i).flatMap bI++D1++(D2++D3):=by simp only [List.append_assoc]
   rw [g3,g2] at lN;have GF:Ext w w3:=hw.own r5 nY
   have jJ:Sl w3 4 bI (if c=i then A else A.map (·.add (i*4))) (n-i) (l.drop i):=(hO.sl.drop i c (by omega) (by omega)).ext GF
   replace hw:=GF;refine Wz ?_;refine CW.any 8 mixed (da (by kernel_rfl)) rfl fun w1 ae aJ => ?_
   replace hw:=Ext.trans hw ae;replace lN:=lN.ext ae;replace jJ:=jJ.ext ae;clear ae;refine Wa ?_;refine SA.take 4 aJ rfl (by kernel_rfl) (by kernel_rfl) rfl ?_;repeat ((refine SW.st (aV (k:=i+1) rfl rfl (by omega) (by omega)) rfl ?_))
   refine SW.ai ?_;refine Wa ?_;refine SA.take 7 aJ rfl (by kernel_rfl) (by kernel_rfl) rfl ?_;repeat ((refine SW.st (aV (k:=i) rfl rfl (by omega) (by omega)) rfl ?_))
   refine SW.ai ?_;refine SA.done (by kernel_rfl) ?_;refine SW.copy (k:=n-i) ((i+1)*4) ((l.drop i).flatMap bI) lN rfl rfl rfl (by omega) e2 (by simp only [List.length_append,e1,e2,f2,lW];omega) (fun h0=>⟨by rw [if_neg (by omega)];simp [ck],(if c=i then A else A.map (·.add (i*4))).getD default,?_,fun j v hv=>de (by omega) jJ j v hv⟩) (ml _) fun w4 lA vh => ?_
   ·obtain ⟨a,ha⟩:=Option.isSome_iff_exists.1 (jJ.base h0);rw [ha];rfl
   ·have g4:=dS ((l.take i).flatMap bI++bI x) D2 D3 ((l.drop i).flatMap bI) (by rw [e2,f2]) (o:=(i+1)*4) (by rw [List.length_append,e1,lW];omega);have g5:(l.take i).flatMap bI++bI x++(D2++D3)=(l.take i).flatMap bI++bI x++D2++D3:=by simp only [List.append_assoc]
    have g6:(l.take i).flatMap bI++bI x++(l.drop i).flatMap bI++D3=(aN l i x).flatMap bI++D3:=by unfold aN;simp only [List.flatMap_append,List.flatMap_cons,List.flatMap_nil,List.append_nil,List.append_assoc]
    rw [g5,g4,g6] at lA;have Ax:=Own.closed (n:=n+1) (c:=c2) (lo:=lo) (l:=aN l i x) (by unfold aN;simp;omega) lA (by omega) (by omega) (by omega) h5 (by omega);have eM:Ext w w4:=hw.own r5 vh
    have e9:i+(n+1-i)=n+1:=by omega
    refine Wz ?_;rw [e9]
    exact ah.aY rfl rfl ⟨_,rfl,_,_,rfl,Ax,eM.gr _,fun k e => .inr (by
     have:k=g:=by
      unfold aM at e;split at e
      ·cases e
      ·simpa using e.symm
     omega)⟩
open Go.RowKit
theorem SW.mO {α:Type} {P:Program} {n:Nat} {ops:Array Oper} {Q:Exit→Act→World→Prop} {rest:List Oper} {L:Env} {w:World} {T:TypeId} {pos:String} {af:Array Edge} {lo:Nat} {e:TypeId} {sz:Nat} {enc : α → List Value} [E:fP enc sz] {A:Option Addr} {m c:Nat} {l:List α} {t:TypeId} [G:fj P t sz] {x y:Operand} (k:Nat) (x' : α)
 (hO:Own w lo e sz enc A m c l) (hx:cg L x=some (.pointer (some ((A.getD default).add (k*sz))))) (hy:cg L y=some (.agg (enc x').toArray)) (hk:k<m)
 (h:∀ w',Own w' lo e sz enc A m c (l.set k x')→w.grownBy w' (aM A c)→SW P n ops (.gw Q) rest L w') : SW P n ops (.gw Q) (⟨none,.store t x y,T,pos,af,none⟩::rest) L w :=
 ⟨fun a ha=>by
  have hc : 0<c:=by have:=hO.le;omega
  obtain ⟨g,r,rfl,gB,hB,hr,TG,TH,how⟩:=hO.opened hc;have fe:k<l.length:=by rw [hO.len];exact hk
  have oS:(k+1)*sz≤m*sz:=Nat.mul_le_mul_right _ hk
  rw [Nat.add_mul,Nat.one_mul] at oS;have m8:(l.flatMap enc).length=m*sz:=by rw [aQ,hO.len]
  have e0:(((some (⟨g,0,none⟩ : Addr)).getD default).add (k*sz))=⟨g,k*sz,none⟩:=ck g _
  rw [e0] at hx;have el:l=l.take k++[l[k]]++l.drop (k+1):=by simp
  have hX:((l.take k).flatMap enc).length=k*sz:=by rw [aQ,List.length_take,Nat.min_eq_left (by omega)]
  have e1:l.flatMap enc++r=(l.take k).flatMap enc++enc l[k]++((l.drop (k+1)).flatMap enc++r):=by
   have e3:l.flatMap enc=(l.take k++[l[k]]++l.drop (k+1)).flatMap enc:=by rw [← el]
   rw [e3,List.flatMap_append,List.flatMap_append];simp only [List.flatMap_cons,List.flatMap_nil,List.append_nil,List.append_assoc]
  have xc:=run_storeCells_at P g (k*sz) e (enc x') 0 (l.flatMap enc++r).toArray w hB (by simp only [List.size_toArray,List.length_append,m8,E.len];omega) (E.one x')
  have e2:((l.flatMap enc++r).toArray.toList.take (k*sz+0)++enc x'++(l.flatMap enc++r).toArray.toList.drop (k*sz+0+(enc x').length))=(l.set k x').flatMap enc++r:=by
   have:=dS ((l.take k).flatMap enc) (enc l[k]) ((l.drop (k+1)).flatMap enc++r) (enc x') (by rw [E.len,E.len]) hX.symm
   rw [← e1] at this;unfold lay at this;simp only [Nat.add_zero];rw [this,List.set_eq_take_append_cons_drop,if_pos fe];simp
  rw [e2] at xc;simp only [swp,wpList,Region.wanted,if_true];refine .inl ?_;unfold Oper.wp
  have CQ:(execOp a.eval ⟨none,.store t x y,T,pos,af,none⟩).run P w = .ok .skip (w.setRow g ((l.set k x').flatMap enc++r).toArray):=by
   simp [execOp,ha.eval hx,ha.eval hy,Instr.storeAt,Instr.sureAddr,storeVar,Value.cells,run_sizeOf G.size,E.len,xc]
  rw [CQ,Oper.upon_skip];obtain ⟨tV,Gf⟩:=fq (cs:=(l.set k x').flatMap enc++r) hB;refine (h _ (Own.closed (by rw [List.length_set];exact hO.len) tV hr TG hc TH gB) ?_).out _ ha;rw [how];exact Gf⟩
open Go.RowKit
structure eV (w:World) (lo g c:Nat) (u0 u1:cU) (s:ao×ao) : Prop where
 row:Own w lo 139 4 bX (some ⟨g,0,none⟩) 2 c [u0,u1]
 z0:fc w lo u0 s.1
 z1:fc w lo u1 s.2
 Ei:lo≤g
 pos : 0<c
section
variable {w w':World} {lo lj g c t:Nat} {u0 u1:cU} {s:ao×ao}
theorem eV.ext (h:eV w lo g c u0 u1 s) (hx:Ext w w') : eV w' lo g c u0 u1 s:=⟨h.row.ext hx,h.z0.ext hx,h.z1.ext hx,h.Ei,h.pos⟩
theorem eV.aw (h:eV w lo g c u0 u1 s) (hG:r7 w w' t) (bW:(Nat.beq t 139 || (Nat.beq t 3 || Nat.beq t 165))=false) : eV w' lo g c u0 u1 s:=by
 rw [Bool.or_eq_false_iff] at bW;exact ⟨h.row.aw hG bW.1,h.z0.aw hG bW.2,h.z1.aw hG bW.2,h.Ei,h.pos⟩
theorem eV.own (h:eV w lo g c u0 u1 s) : aM (some (⟨g,0,none⟩ : Addr)) c=some g:=by simp [aM,Nat.pos_iff_ne_zero.1 h.pos]
theorem eV.gr (h:eV w lo g c u0 u1 s) (hg:w.grownBy w' (some g)) : r7 w w' 139:=h.row.gr (by rw [h.own];exact hg)
theorem pE {u:cU} {z:ao} (h:fc w lo u z) (hz:bD z) : (u.aj.n+1)*24≤140737488355328∧u.Types.n*8≤140737488355328∧(0≤u.aK∧u.aK≤256)∧(0≤u.To∧u.To≤256):=by
 have e1:=h.free.sl.len;have e2:=h.types.sl.len;have e3:=h.from_;have e4:=h.lV;have hl:=iO hz;obtain ⟨o1,o2,o3,o4,o5⟩:=hz.ok;refine ⟨Nat.le_trans (Nat.mul_le_mul_right 24 (show u.aj.n+1≤258 by omega)) (by decide),by omega,by omega,by omega⟩
end
theorem sM (r:gC) (u0 u1:cU) (p:Int) (w:World) (hz:Sl w 4 bX r.bf.A r.bf.n [u0,u1]) :
 bq Tryz.prog 110 [.agg (cV r).toArray,.int .i64 p] w fun v _=>v = .int .i64 (if p<u0.To then 0 else 1):=by
 refine aG Tryz.func110 rfl Tryz.ntmps110 rfl ?_;refine CW.seq (CW.region (SW.box rfl rfl fun b1 w1 hw jh aI => ?_));have hA:=hz.base;have hn : 2=r.bf.n:=hz.len
 have h0 : 0<r.bf.n:=by omega
 have f0:=hz.fw h0 (j:=1) (u := .int .i64 u0.To) rfl;repeat' (first|refine Wz ?_|(refine CW.gG rfl (fun h => ?_) (fun h => ?_))|refine SW.st (aT hw rfl f0) rfl ?_)
 all_goals
  refine ah.aY rfl rfl ⟨_,rfl,hw,?_⟩
  first|(rw [if_pos (by omega)])|(rw [if_neg (by omega)])
def Ju (w:World) (lo g c:Nat) (s:ao×ao) (b:Block) (w':World) : Prop:=w.grownBy w' (some g) ∧ ∃ u0 u1,eV w' lo g c u0 u1 (eR s b)
theorem sN (m:gg) (cp:Int) (li lv:gg) (u0 u1:cU) (s:ao×ao) (bs:List Block) (b:Block) (lo g c b1:Nat) (w:World) (aI:aW w b1 41 (cV ⟨⟨some ⟨g,0,none⟩,2,c⟩,m,cp,li,lv⟩)) (hZ:eV w lo g c u0 u1 s) (gB:lo≤w.heap.size) (hD:nv s bs) (hN:mL bs b) :
 jw Tryz.prog 109 [.pointer (some ⟨b1,0,none⟩),.int .i64 b.At,.int .i64 b.Order] w fun v w'=>Ju w lo g c s b w':=by
 refine dM Tryz.func109 rfl Tryz.ntmps109 rfl ?_;have hw:=Ext.refl w;have eT:=hZ.z0.lV;obtain ⟨q1,q2,q3,q4⟩:=pE hZ.z0 hD.kf;obtain ⟨p1,p2,p3,p4⟩:=pE hZ.z1 hD.j3;have hA:=hZ.row.sl.base;have cz:∀ w',Sl w' 4 bX (some ⟨g,0,none⟩) 2 [u0,u1]→bq Tryz.prog 110 [.agg (cV ⟨⟨some ⟨g,0,none⟩,2,c⟩,m,cp,li,lv⟩).toArray,.int .i64 b.At] w' fun v _=>v = .int .i64 (if b.At<u0.To then 0 else 1):=fun w' h=>sM ⟨⟨some ⟨g,0,none⟩,2,c⟩,m,cp,li,lv⟩ u0 u1 b.At w' h
 by_cases hx:b.At<u0.To
 ·have eP:eR s b=((ee s.1 b.At b.Order).2,s.2):=by unfold eR;rw [if_pos (by omega)]
  simp only [if_pos hx] at cz;have G4:=hZ.row.sl;have k0 : 0<2:=by omega
  repeat' (first|refine Wz ?_|(refine SW.call rfl rfl (cz _ hZ.row.sl) ?_;intro v w1 ae hv;subst hv;replace hw:=Ext.trans hw ae;replace aI:=aI.ext ae;replace hZ:=hZ.ext ae;clear ae))
  refine CW.iL 19 19 (fun _=>True) mixed (by kernel_rfl) fun w1 ae aJ => ?_
  replace hw:=Ext.trans hw ae;replace aI:=aI.ext ae;replace hZ:=hZ.ext ae;clear ae;refine SF.take 0 [] [] aJ rfl (by kernel_rfl) (by kernel_rfl) (by kernel_rfl) ?_;repeat (refine SW.pure rfl rfl ?_)
  refine SW.ai ?_;refine SF.take 1 [] [] aJ rfl (by kernel_rfl) (by kernel_rfl) (by kernel_rfl) ?_;repeat ((show SW _ _ _ _ (⟨_,Op.nilCheck _,_,_,_,none⟩::_) _ _;refine SW.st (aC rfl) rfl ?_))
  refine SW.ai ?_;refine SF.take 2 [] [] aJ rfl (by kernel_rfl) (by kernel_rfl) (by kernel_rfl) ?_;repeat ((show SW _ _ _ _ (⟨_,Op.fieldAddr _ _ _,_,_,_,none⟩::_) _ _;refine SW.st (aP rfl) rfl ?_))
  refine SW.ai ?_;refine SF.take 3 [] [] aJ rfl (by kernel_rfl) (by kernel_rfl) (by kernel_rfl) ?_;repeat ((show SW _ _ _ _ (⟨_,Op.load _ _,_,_,_,none⟩::_) _ _;refine SW.st (aq rfl (aI.cell rfl)) rfl ?_))
  refine SW.ai ?_;refine SF.take 4 [] [] aJ rfl (by kernel_rfl) (by kernel_rfl) (by kernel_rfl) ?_;repeat (refine SW.pure rfl rfl ?_)
  refine SW.ai ?_;refine SF.take 5 [] [] aJ rfl (by kernel_rfl) (by kernel_rfl) (by kernel_rfl) ?_;repeat (refine SW.pure rfl rfl ?_)
  refine SW.ai ?_;refine SF.take 6 [] [] aJ rfl (by kernel_rfl) (by kernel_rfl) (by kernel_rfl) ?_;repeat ((show SW _ _ _ _ (⟨_,Op.nilCheck _,_,_,_,none⟩::_) _ _;refine SW.st (aC rfl) rfl ?_))
  refine SW.ai ?_;refine SF.take 7 [] [] aJ rfl (by kernel_rfl) (by kernel_rfl) (by kernel_rfl) ?_;repeat ((show SW _ _ _ _ (⟨_,Op.fieldAddr _ _ _,_,_,_,none⟩::_) _ _;refine SW.st (aP rfl) rfl ?_))
  refine SW.ai ?_;refine SF.take 8 [] [] aJ rfl (by kernel_rfl) (by kernel_rfl) (by kernel_rfl) ?_;repeat ((show SW _ _ _ _ (⟨_,Op.load _ _,_,_,_,none⟩::_) _ _;refine SW.st (aq rfl (aI.cell rfl)) rfl ?_))
  refine SW.ai ?_;refine SF.take 9 [] [] aJ rfl (by kernel_rfl) (by kernel_rfl) (by kernel_rfl) ?_;repeat (refine SW.pure rfl rfl ?_)
  refine SW.ai ?_;refine SF.take 10 [] [] aJ rfl (by kernel_rfl) (by kernel_rfl) (by kernel_rfl) ?_;repeat ((show SW _ _ _ _ (⟨_,Op.indexAddr _ _ _,_,_,_,none⟩::_) _ _;refine SW.st (bJ rfl rfl (by assumption) (by omega)) rfl ?_))
  refine SW.ai ?_;refine SF.take 11 [] [] aJ rfl (by kernel_rfl) (by kernel_rfl) (by kernel_rfl) ?_;repeat ((show SW _ _ _ _ (⟨_,Op.load _ _,_,_,_,none⟩::_) _ _;refine SW.st (aB rfl rfl ((hZ.row.sl.all k0))) rfl ?_))
  refine SW.ai ?_;refine SF.take 12 [] [] aJ rfl (by kernel_rfl) (by kernel_rfl) (by kernel_rfl) ?_;repeat (refine SW.pure rfl rfl ?_)
  refine SW.ai ?_;refine SF.take 13 [] [] aJ rfl (by kernel_rfl) (by kernel_rfl) (by kernel_rfl) ?_;repeat (refine SW.pure rfl rfl ?_)
  refine SW.ai ?_;refine SF.one 14 rfl (by kernel_rfl) rfl ?_;refine SW.call rfl rfl (mG u0 s.1 b.At b.Order _ hZ.z0.rd q1 q2 ⟨by omega,by omega⟩ ⟨by omega,by omega⟩) fun v w4 ap hv => ?_
  obtain ⟨u',rfl,k8⟩:=hv;replace k8:=k8.low (Nat.le_trans gB hw.size);(replace hw:=Ext.trans hw ap;replace aI:=aI.ext ap;replace hZ:=hZ.ext ap);refine SW.nil (ah.sf ap ?_);refine SF.take 15 [] [] aJ rfl (by kernel_rfl) (by kernel_rfl) (by kernel_rfl) ?_;repeat (refine SW.pure rfl rfl ?_)
  refine SW.ai ?_;refine SF.take 16 [] [] aJ rfl (by kernel_rfl) (by kernel_rfl) (by kernel_rfl) ?_;repeat (refine SW.pure rfl rfl ?_)
  refine SW.ai ?_;refine SF.xI 17 aJ rfl (by kernel_rfl) (by kernel_rfl) rfl (fun _=>bo rfl) rfl ?_;refine SF.take 18 [] [] aJ rfl (by kernel_rfl) (by kernel_rfl) (by kernel_rfl) ?_;repeat ((show SW _ _ _ _ (⟨_,Op.indexAddr _ _ _,_,_,_,none⟩::_) _ _;refine SW.st (bJ rfl rfl (by assumption) (by omega)) rfl ?_))
  refine SW.ai ?_;refine SF.last rfl (by kernel_rfl) (by kernel_rfl) ?_;refine SW.mO (enc:=bX) 0 u' hZ.row rfl rfl k0 fun w5 hO hg => ?_
  rw [hZ.own] at hg;have hG:=hZ.gr hg;have xJ:=bH (hw.gr (some g)) hg (.inl rfl);refine Wz ?_;exact ah.vB rfl ⟨_,rfl,xJ,u',u1,by rw [eP];exact ⟨hO,k8.aw hG rfl,hZ.z1.aw hG rfl,hZ.Ei,hZ.pos⟩⟩
 ·have eP:eR s b=(s.1,(ee s.2 b.At b.Order).2):=by unfold eR;rw [if_neg (by omega)]
  simp only [if_neg hx] at cz;have k0 : 1<2:=by omega
  repeat' (first|refine Wz ?_|(refine SW.call rfl rfl (cz _ hZ.row.sl) ?_;intro v w1 ae hv;subst hv;replace hw:=Ext.trans hw ae;replace aI:=aI.ext ae;replace hZ:=hZ.ext ae;clear ae))
  refine CW.iL 19 19 (fun _=>True) mixed (by kernel_rfl) fun w1 ae aJ => ?_
  replace hw:=Ext.trans hw ae;replace aI:=aI.ext ae;replace hZ:=hZ.ext ae;clear ae;refine SF.take 0 [] [] aJ rfl (by kernel_rfl) (by kernel_rfl) (by kernel_rfl) ?_;repeat (refine SW.pure rfl rfl ?_)
  refine SW.ai ?_;refine SF.take 1 [] [] aJ rfl (by kernel_rfl) (by kernel_rfl) (by kernel_rfl) ?_;repeat ((show SW _ _ _ _ (⟨_,Op.nilCheck _,_,_,_,none⟩::_) _ _;refine SW.st (aC rfl) rfl ?_))
  refine SW.ai ?_;refine SF.take 2 [] [] aJ rfl (by kernel_rfl) (by kernel_rfl) (by kernel_rfl) ?_;repeat ((show SW _ _ _ _ (⟨_,Op.fieldAddr _ _ _,_,_,_,none⟩::_) _ _;refine SW.st (aP rfl) rfl ?_))
  refine SW.ai ?_;refine SF.take 3 [] [] aJ rfl (by kernel_rfl) (by kernel_rfl) (by kernel_rfl) ?_;repeat ((show SW _ _ _ _ (⟨_,Op.load _ _,_,_,_,none⟩::_) _ _;refine SW.st (aq rfl (aI.cell rfl)) rfl ?_))
  refine SW.ai ?_;refine SF.take 4 [] [] aJ rfl (by kernel_rfl) (by kernel_rfl) (by kernel_rfl) ?_;repeat (refine SW.pure rfl rfl ?_)
  refine SW.ai ?_;refine SF.take 5 [] [] aJ rfl (by kernel_rfl) (by kernel_rfl) (by kernel_rfl) ?_;repeat (refine SW.pure rfl rfl ?_)
  refine SW.ai ?_;refine SF.take 6 [] [] aJ rfl (by kernel_rfl) (by kernel_rfl) (by kernel_rfl) ?_;repeat ((show SW _ _ _ _ (⟨_,Op.nilCheck _,_,_,_,none⟩::_) _ _;refine SW.st (aC rfl) rfl ?_))
  refine SW.ai ?_;refine SF.take 7 [] [] aJ rfl (by kernel_rfl) (by kernel_rfl) (by kernel_rfl) ?_;repeat ((show SW _ _ _ _ (⟨_,Op.fieldAddr _ _ _,_,_,_,none⟩::_) _ _;refine SW.st (aP rfl) rfl ?_))
  refine SW.ai ?_;refine SF.take 8 [] [] aJ rfl (by kernel_rfl) (by kernel_rfl) (by kernel_rfl) ?_;repeat ((show SW _ _ _ _ (⟨_,Op.load _ _,_,_,_,none⟩::_) _ _;refine SW.st (aq rfl (aI.cell rfl)) rfl ?_))
  refine SW.ai ?_;refine SF.take 9 [] [] aJ rfl (by kernel_rfl) (by kernel_rfl) (by kernel_rfl) ?_;repeat (refine SW.pure rfl rfl ?_)
  refine SW.ai ?_;refine SF.take 10 [] [] aJ rfl (by kernel_rfl) (by kernel_rfl) (by kernel_rfl) ?_;repeat ((show SW _ _ _ _ (⟨_,Op.indexAddr _ _ _,_,_,_,none⟩::_) _ _;refine SW.st (bJ rfl rfl (by assumption) (by omega)) rfl ?_))
  refine SW.ai ?_;refine SF.take 11 [] [] aJ rfl (by kernel_rfl) (by kernel_rfl) (by kernel_rfl) ?_;repeat ((show SW _ _ _ _ (⟨_,Op.load _ _,_,_,_,none⟩::_) _ _;refine SW.st (aB rfl rfl ((hZ.row.sl.all k0))) rfl ?_))
  refine SW.ai ?_;refine SF.take 12 [] [] aJ rfl (by kernel_rfl) (by kernel_rfl) (by kernel_rfl) ?_;repeat (refine SW.pure rfl rfl ?_)
  refine SW.ai ?_;refine SF.take 13 [] [] aJ rfl (by kernel_rfl) (by kernel_rfl) (by kernel_rfl) ?_;repeat (refine SW.pure rfl rfl ?_)
  refine SW.ai ?_;refine SF.one 14 rfl (by kernel_rfl) rfl ?_;refine SW.call rfl rfl (mG u1 s.2 b.At b.Order _ hZ.z1.rd p1 p2 ⟨by omega,by omega⟩ ⟨by omega,by omega⟩) fun v w4 ap hv => ?_
  obtain ⟨u',rfl,k8⟩:=hv;replace k8:=k8.low (Nat.le_trans gB hw.size);(replace hw:=Ext.trans hw ap;replace aI:=aI.ext ap;replace hZ:=hZ.ext ap);refine SW.nil (ah.sf ap ?_);refine SF.take 15 [] [] aJ rfl (by kernel_rfl) (by kernel_rfl) (by kernel_rfl) ?_;repeat (refine SW.pure rfl rfl ?_)
  refine SW.ai ?_;refine SF.take 16 [] [] aJ rfl (by kernel_rfl) (by kernel_rfl) (by kernel_rfl) ?_;repeat (refine SW.pure rfl rfl ?_)
  refine SW.ai ?_;refine SF.xI 17 aJ rfl (by kernel_rfl) (by kernel_rfl) rfl (fun _=>bo rfl) rfl ?_;refine SF.take 18 [] [] aJ rfl (by kernel_rfl) (by kernel_rfl) (by kernel_rfl) ?_;repeat ((show SW _ _ _ _ (⟨_,Op.indexAddr _ _ _,_,_,_,none⟩::_) _ _;refine SW.st (bJ rfl rfl (by assumption) (by omega)) rfl ?_))
  refine SW.ai ?_;refine SF.last rfl (by kernel_rfl) (by kernel_rfl) ?_;refine SW.mO (enc:=bX) 1 u' hZ.row rfl rfl k0 fun w5 hO hg => ?_
  rw [hZ.own] at hg;have hG:=hZ.gr hg;have xJ:=bH (hw.gr (some g)) hg (.inl rfl);refine Wz ?_;exact ah.vB rfl ⟨_,rfl,xJ,u0,u',by rw [eP];exact ⟨hO,hZ.z0.aw hG rfl,k8.aw hG rfl,hZ.Ei,hZ.pos⟩⟩
open Go.RowKit
theorem GY.split {w:World} {lo:Nat} {r:gC} {h:Heap} (a:GY w lo r h) {z0 z1:ao} (hz:h.bf=[z0,z1]) : ∃ g c u0 u1 ls,r.bf=⟨some ⟨g,0,none⟩,2,c⟩∧eV w lo g c u0 u1 (z0,z1)∧eH w lo r.au ls h.au∧rl r.dk [u0,u1] ls∧tX r.Live [u0,u1]:=by
 obtain ⟨zs,ls,zy,M5,hm,hf⟩:=a.all;have l0:=zy.each.len;rw [hz] at l0;obtain ⟨u0,u1,rfl⟩:=vM (show zs.length=2 from l0);have l1:=zy.row.len;have h0:=zy.each.get 0 (by simp) (by simp [hz]);have h1:=zy.each.get 1 (by simp) (by simp [hz]);simp only [hz] at h0 h1;have hc : 0<r.bf.c:=by have:=zy.row.le;simp at l1;omega
 obtain ⟨g,rest,hA,gB,_⟩:=zy.row.opened hc;refine ⟨g,r.bf.c,u0,u1,ls,?_,⟨?_,h0,h1,gB,hc⟩,M5,hm,hf⟩
 ·rw [← hA];have:(2:Nat)=r.bf.n:=l1
  rw [this]
 ·have:=zy.row
  rw [hA,← l1] at this;exact this
theorem Own.apart {α:Type} {w w':World} {lo:Nat} {e:TypeId} {sz:Nat} {enc : α → List Value} {A:Option Addr} {n c:Nat} {l:List α} (h:Own w lo e sz enc A n c l) {row:Option Nat} (hg:w.grownBy w' row) (hs:∀ g,aM A c=some g→row≠some g) : Own w' lo e sz enc A n c l:=by
 refine h.grown hg ?_;cases e:aM A c with
 | none=>exact .inl rfl
 | some g=>exact .inr (fun e2=>hs g e e2.symm)
theorem eV.CS {w w':World} {lo g c:Nat} {u0 u1:cU} {s:ao×ao} (h:eV w lo g c u0 u1 s) {lv:gg} (hs:tX lv [u0,u1]) (hg:w.grownBy w' (aM lv.A lv.c)) (hG:r7 w w' 165) : eV w' lo g c u0 u1 s :=
 ⟨h.row.aw hG rfl,⟨h.z0.from_,h.z0.lV,h.z0.free.apart hg (hs u0 (by simp)),h.z0.types.aw hG rfl⟩,⟨h.z1.from_,h.z1.lV,h.z1.free.apart hg (hs u1 (by simp)),h.z1.types.aw hG rfl⟩,h.Ei,h.pos⟩
structure LV (w0:World) (li:gg) (b1:Nat) (o:Option Nat) : Prop where
 out:∀ k,o=some k→k≠b1∧aM li.A li.c≠some k∧k<w0.heap.size
theorem LV.ne {w0:World} {li:gg} {b1:Nat} {o row:Option Nat} (h:LV w0 li b1 o) (hr:∀ k,row=some k→k=b1∨aM li.A li.c=some k∨w0.heap.size≤k) : ∀ g,o=some g→row≠some g:=fun g e e2=>by
 obtain ⟨h1,h2,h3⟩:=h.out g e;rcases hr g e2 with h|h|h
 ·exact h1 h
 ·exact h2 h
 ·omega
theorem Own.pQ {α:Type} {w0:World} {lo:Nat} {e:TypeId} {sz:Nat} {enc : α → List Value} {A:Option Addr} {n c:Nat} {l:List α} (h:Own w0 lo e sz enc A n c l) {li:gg} {ls:List cy} {L:List ay} {b1:Nat} {cs:List Value} (hl:eH w0 lo li ls L) (hb:aW w0 b1 41 cs) (h1:Nat.beq 41 e=false) (h2:Nat.beq e 142=false) : LV w0 li b1 (aM A c) :=
 ⟨fun k hk=>⟨fun e=>h.dq hb h1 (by rw [hk,e]),by
  rcases h.row with ⟨_,rfl⟩|⟨hc,g,ij,rfl,_,hg,_⟩
  ·simp [aM] at hk
  ·simp only [aM,Nat.pos_iff_ne_zero.1 hc,if_false,Option.map_some,Option.some.injEq] at hk;subst hk;exact hl.row.dq (cs:=ij.toList) (by unfold aW;simpa using hg) h2,h.lt_size k hk⟩⟩
theorem Own.mh {α β:Type} {w0:World} {lo lj:Nat} {e e':TypeId} {sz Qt:Nat} {enc : α → List Value} {LW : β → List Value} {A A':Option Addr} {n n' c c':Nat} {l:List α} {l':List β} (h:Own w0 lo e sz enc A n c l) (h':Own w0 lj e' Qt LW A' n' c' l') (bW:Nat.beq e e'=false) : ∀ k,aM A c=some k→aM A' c'≠some k:=fun k hk=>by
 rcases h.row with ⟨_,rfl⟩|⟨hc,g,ij,rfl,_,hg,_⟩
 ·simp [aM] at hk
 ·simp only [aM,Nat.pos_iff_ne_zero.1 hc,if_false,Option.map_some,Option.some.injEq] at hk;subst hk;exact h'.dq (cs:=ij.toList) (by unfold aW;simpa using hg) bW
theorem eV.parts {w w':World} {lo g c:Nat} {u0 u1:cU} {s:ao×ao} {row:Option Nat} (h:eV w lo g c u0 u1 s) (hg:w.grownBy w' row) (h0:∀ k,aM (some (⟨g,0,none⟩ : Addr)) c=some k→row≠some k) (h1:∀ k,aM u0.aj.A u0.aj.c=some k→row≠some k) (h2:∀ k,aM u0.Types.A u0.Types.c=some k→row≠some k)
 (h3:∀ k,aM u1.aj.A u1.aj.c=some k→row≠some k) (h4:∀ k,aM u1.Types.A u1.Types.c=some k→row≠some k) : eV w' lo g c u0 u1 s :=
 ⟨h.row.apart hg h0,⟨h.z0.from_,h.z0.lV,h.z0.free.apart hg h1,h.z0.types.apart hg h2⟩,⟨h.z1.from_,h.z1.lV,h.z1.free.apart hg h3,h.z1.types.apart hg h4⟩,h.Ei,h.pos⟩
def ob (s:gg) : Option Nat:=aM s.A s.c
def LX (a b:cy) : Prop := ∀ g,ob a.av=some g→ob b.av≠some g
theorem Fk {a b:cy} (h:LX a b) : LX b a:=fun g e e2=>h g e2 e
theorem ry {ls:List cy}:CE ls↔ls.Pairwise LX:=by
 rw [List.pairwise_iff_getElem];refine ⟨fun h i j hi hj lz g e=>h i j hi hj (by omega) g e,fun h i j hi hj lz g e => ?_⟩;rcases Nat.lt_or_gt_of_ne lz with h1|h1
 ·exact h i j hi hj h1 g e
 ·exact Fk (h j i hj hi h1) g e
structure xw (n:Nat) (li:gg) (ls:List cy) (IW:gg) (Ej:List cy) : Prop where
 sep:CE Ej
 of:∀ y∈Ej,∀ g,ob y.av=some g→(∃ x∈ls,ob x.av=some g)∨n≤g
 row:∀ k,ob IW=some k→ob li=some k∨n≤k
theorem xw.pR {n:Nat} {li:gg} {ls:List cy} {i:Nat} {y:cy} (hs:CE ls) (dL:∀ x∈ls,∀ g,ob x.av=some g→g<n) (hi:i<ls.length) (hy:∀ g,ob y.av=some g→ob ls[i].av=some g∨n≤g) : xw n li ls li (ls.set i y):=by
 refine ⟨fun a b ha hb MY g e e2 => ?_,fun z hz g e => ?_,fun k e => .inl e⟩
 ·simp only [List.length_set] at ha hb
  change ob ((ls.set i y)[a]).av=some g at e
  change ob ((ls.set i y)[b]).av=some g at e2
  simp only [List.getElem_set] at e e2;by_cases h1:i=a
  ·rw [if_pos h1] at e;rw [if_neg (by omega)] at e2;rcases hy g e with h|h
   ·subst h1;exact hs _ _ hi hb MY g h e2
   ·have:=dL _ (List.getElem_mem hb) g e2;omega
  ·rw [if_neg h1] at e;by_cases h2:i=b
   ·rw [if_pos h2] at e2;rcases hy g e2 with h|h
    ·subst h2;exact hs _ _ ha hi MY g e h
    ·have:=dL _ (List.getElem_mem ha) g e;omega
   ·rw [if_neg h2] at e2;exact hs _ _ ha hb MY g e e2
 ·rcases List.mem_or_eq_of_mem_set hz with h|rfl
  ·exact .inl ⟨z,h,e⟩
  ·rcases hy g e with h|h
   ·exact .inl ⟨_,List.getElem_mem hi,h⟩
   ·exact .inr h
theorem xw.ins {n:Nat} {li IW:gg} {ls:List cy} {i:Nat} {y:cy} (hs:CE ls) (dL:∀ x∈ls,∀ g,ob x.av=some g→g<n) (hy:∀ g,ob y.av=some g→n≤g) (hr:∀ k,ob IW=some k→ob li=some k∨n≤k) : xw n li ls IW (aN ls i y):=by
 have hm:∀ z,z∈aN ls i y→z∈ls∨z=y:=fun z hz=>by
  unfold aN at hz;rw [List.mem_append,List.mem_append,List.mem_singleton] at hz;rcases hz with (hz|hz)|hz
  ·exact .inl (List.mem_of_mem_take hz)
  ·exact .inr hz
  ·exact .inl (List.mem_of_mem_drop hz)
 refine ⟨?_,fun z hz g e => ?_,hr⟩
 ·have hs:=ry.1 hs;rw [← List.take_append_drop i ls,List.pairwise_append] at hs;obtain ⟨h1,h2,h3⟩:=hs;rw [ry];unfold aN;rw [List.append_assoc,List.pairwise_append];refine ⟨h1,?_,fun a ha b hb => ?_⟩
  ·rw [List.singleton_append,List.pairwise_cons];exact ⟨fun b hb g e e2=>by have:=hy g e;have:=dL b (List.mem_of_mem_drop hb) g e2;omega,h2⟩
  ·rw [List.singleton_append,List.mem_cons] at hb;rcases hb with rfl|hb
   ·exact fun g e e2=>by have:=hy g e2;have:=dL a (List.mem_of_mem_take ha) g e;omega
   ·exact h3 a ha b hb
 ·rcases hm z hz with h|rfl
  ·exact .inl ⟨z,h,e⟩
  ·exact .inr (hy g e)
theorem SW.Ek {α:Type} {P:Program} {n:Nat} {ops:Array Oper} {Q:Exit→Act→World→Prop} {rest:List Oper} {L:Env} {w:World} {dd:Nat} {T:TypeId} {pos:String} {af:Array Edge}
 {lo:Nat} {t e:TypeId} {z:Value} {sz bytes:Nat} {enc : α → List Value} {A X:Option Addr} {k c m c2:Nat} {l ys:List α} [bj P t e sz] [dj P e z sz bytes] [fP enc sz] {x y:Operand}
 (hO:Own w lo e sz enc A k c l) (hS:Sl w sz enc X m ys) (gB:lo≤w.heap.size) (DP : 0<m) (hx:cg L x=some (.slice A k c)) (hy:cg L y=some (.slice X m c2)) (hn:Nat.blt dd n=true)
 (hb:(k+m)*bytes≤140737488355328) (hm:k+m≤9223372036854775807)
 (h:∀ A' c' w',Own w' lo e sz enc A' (k+m) c' (l++ys)→w.grownBy w' (aM A c)→(∀ g,aM A' c'=some g→aM A c=some g∨w.heap.size≤g)→SW P n ops (.gw Q) rest ((dd,.slice A' (k+m) c')::L) w') :
 SW P n ops (.gw Q) (⟨some dd,.call ⟨.builtin .append,#[x,y],#[t,t]⟩,T,pos,af,none⟩::rest) L w:=by
 refine SW.uK hO hS gB DP hx hy hn hb hm fun A' c' w' hh => ?_
 rcases hh with ⟨rfl,rfl,h1,h2⟩|⟨h1,h2⟩
 ·exact h _ _ _ h1 h2 (fun g e => .inl e)
 ·exact h _ _ _ (h1.low gB) ⟨h2.os,h2.tape,h2.output,h2.size,fun k hk _=>h2.block k hk (fun e=>by cases e)⟩ (fun g e => .inr (h1.bc g e))
end Go.Proofs.YtbidkghlpijecaaGreatDoor
