/-
  Texts of the claim TopRoom, part 11: what its theorem leans on.
-/
import Derived.Test.YtbidkghlpijecaaGreatDoorPackTopRoom1
import Derived.Great.BuildSlice
import Derived.ArgAppend
import Derived.Test.YtbidkghlpijecaaGreatDoorPackTopRoom5
import Derived.Test.YtbidkghlpijecaaGreatDoorPackTopRoom2
import Derived.Test.YtbidkghlpijecaaGreatDoorPackTopRoom6
import Derived.Test.YtbidkghlpijecaaGreatDoorPackTopRoom8
import Derived.Test.YtbidkghlpijecaaGreatDoorPackTopRoom9
set_option linter.unusedVariables false
set_option linter.unusedSimpArgs false
namespace Go.Proofs.YtbidkghlpijecaaGreatDoor
open Go.RowKit
section
variable {P:Program} {n:Nat} {ops:Array Oper} {Q:Exit→Act→World→Prop} {rest:List Oper} {L:Env} {w:World} {d:Nat} {T:TypeId} {pos:String} {af:Array Edge}
end
section
variable {α:Type} {P:Program} {w:World} {lo:Nat} {t e:TypeId} {z:Value} {sz bytes:Nat} {enc : α → List Value} {A X:Option Addr} {n c m d:Nat} {l ys:List α}
theorem xR [S:aX P t e sz] [T:cj P e z sz bytes] [E:fu enc sz] (ty:TypeId) (hO:Own w lo e sz enc A n c l) (hS:Sl w sz enc X m ys) (gQ:lo≤w.heap.size) (tW : 0<m)
 (hb:(n+m)*bytes≤140737488355328) (hm:n+m≤maxLen) :
 ∃ A' c' w',(Builtin.append_ #[t,t] ty #[.slice A n c,.slice X m d]).run P w = .ok (.slice A' (n+m) c') w' ∧
  ((A'=A∧c'=c∧Own w' lo e sz enc A (n+m) c (l++ys)∧w.grownBy w' (aG A c))∨(Own w' w.heap.size e sz enc A' (n+m) c' (l++ys)∧w.grownBy w' none)):=by
 obtain ⟨i,hi,hz,hs,rB⟩:=cW P e (z:=z) (sz:=sz) (bytes:=bytes);have CT:(ys.flatMap enc).length=m*sz:=by rw [aE,hS.len]
 have lZ:∀ u∈ys.flatMap enc,u.oneCell'=true:=fun u hu=>by
  obtain ⟨x,_,hx⟩:=List.mem_flatMap.1 hu;exact E.one x u hx
 have Db:(l++ys).flatMap enc=l.flatMap enc++ys.flatMap enc:=List.flatMap_append
 have nP:(l++ys).length=n+m:=by rw [List.length_append,hO.len,hS.len]
 obtain ⟨ad,rfl⟩:=Option.isSome_iff_exists.1 (hS.base tW);have oF:=cg T.pos hS;have MI:(l.flatMap enc).length=n*sz:=by rw [aE,hO.len]
 have sZ:∀ b,A=some b→c<n+m→(∀ j u,(l.flatMap enc)[j]?=some u→w.cell? (b.add j)=some u) →
  ∃ A' c' w',(Builtin.append_ #[t,t] ty #[.slice A n c,.slice (some ad) m d]).run P w = .ok (.slice A' (n+m) c') w'∧(Own w' w.heap.size e sz enc A' (n+m) c' (l++ys)∧w.grownBy w' none):=by
  rintro b rfl dg hold;obtain ⟨v',w',hr,h2,h3⟩:=run_append_arg_grows (P:=P) w t ty e i z sz bytes S.kz hi hz hs rB T.zc T.pos b n c (l.flatMap enc) MI hold ad m d (ys.flatMap enc) CT oF dg hm hb;rw [← Db] at h2;obtain ⟨A',c',rfl,ho⟩:=Own.lh h2 nP;exact ⟨A',c',w',hr,ho,h3⟩
 rcases hO.row with ⟨rfl,rfl⟩|⟨hc,g,fW,rfl,Pj,qX,oz,vD,y3,qY⟩
 ·have hl:l=[]:=List.eq_nil_of_length_eq_zero hO.len
  subst hl;cases A with
  | none =>
    obtain ⟨v',w',hr,h2,h3,_⟩:=run_append_own (P:=P) w w.heap.size t ty e i z sz bytes S.kz hi hz hs rB T.zc T.pos (.slice none 0 0) 0 [] (World.ownsRow_nil _ _ _ _) ad m d (ys.flatMap enc) CT oF lZ hm hb (Nat.le_refl _);obtain ⟨A',c',rfl,ho⟩:=Own.lh (m:=0+m) (l:=[]++ys) (enc:=enc) (by simpa using h2) (by simpa using hS.len);exact ⟨A',c',w',hr,.inr ⟨ho,by simpa [Value.ownBlock] using h3⟩⟩
  | some b =>
    obtain ⟨A',c',w',hr,h⟩:=sZ b rfl (by omega) (by simp);exact ⟨A',c',w',hr,.inr h⟩
 ·by_cases iQ:n+m≤c
  ·obtain ⟨A',c',w',hr,h1,h2⟩:=mw (P:=P) (t:=t) ty hO hS (d:=d) gQ hb hm;have lS:=run_append_room (P:=P) w t ty e i S.kz hi g n c fW qX ad m d (ys.flatMap enc) (by rw [hs];exact CT) oF lZ iQ (by rw [hs,CT,y3,← Nat.add_mul];exact Nat.mul_le_mul_right _ iQ);have he:=hr.symm.trans lS;injection he with he _
   injection he with e1 _ e3
   subst e1 e3;exact ⟨_,_,w',hr,.inl ⟨rfl,rfl,h1,h2⟩⟩
  ·obtain ⟨A',c',w',hr,h⟩:=sZ ⟨g,0,none⟩ rfl (by omega) ((hO.owns hc).cells (g:=g) (by simp [Value.ownBlock]));exact ⟨A',c',w',hr,.inr h⟩
end
theorem SW.wq {α:Type} {P:Program} {n:Nat} {ops:Array Oper} {Q:Exit→Act→World→Prop} {rest:List Oper} {L:Env} {w:World} {dd:Nat} {T:TypeId} {pos:String} {af:Array Edge}
 {lo:Nat} {t e:TypeId} {z:Value} {sz bytes:Nat} {enc : α → List Value} {A X:Option Addr} {k c m c2:Nat} {l ys:List α} [aX P t e sz] [cj P e z sz bytes] [fu enc sz] {x y:Operand}
 (hO:Own w lo e sz enc A k c l) (hS:Sl w sz enc X m ys) (gQ:lo≤w.heap.size) (tW : 0<m) (hx:bF L x=some (.slice A k c)) (hy:bF L y=some (.slice X m c2)) (hn:Nat.blt dd n=true)
 (hb:(k+m)*bytes≤140737488355328) (hm:k+m≤9223372036854775807)
 (h:∀ A' c' w',((A'=A∧c'=c∧Own w' lo e sz enc A (k+m) c (l++ys)∧w.grownBy w' (aG A c))∨(Own w' w.heap.size e sz enc A' (k+m) c' (l++ys)∧w.grownBy w' none))→SW P n ops (.fB Q) rest ((dd,.slice A' (k+m) c')::L) w') :
 SW P n ops (.fB Q) (⟨some dd,.call ⟨.builtin .append,#[x,y],#[t,t]⟩,T,pos,af,none⟩::rest) L w :=
 ⟨fun a ha=>by
  obtain ⟨A',c',w',hr,h1⟩:=xR (P:=P) (t:=t) T hO hS (d:=c2) gQ tW hb (by simp only [maxLen];omega);simp only [swp,wpList,Region.wanted,if_true];refine .inl ?_;unfold Oper.wp
  have:(execOp a.eval ⟨some dd,.call ⟨.builtin .append,#[x,y],#[t,t]⟩,T,pos,af,none⟩).run P w = .ok (.value (.slice A' (k+m) c')) w':=by
   simp [execOp,resolve,invoke,builtin,ha.eval hx,ha.eval hy,hr]
  rw [this,Oper.upon_value];exact (h A' c' w' h1).out _ (ha.put hn _)⟩
open Go.RowKit
set_option maxHeartbeats 4000000 in
theorem s5 (A:Option Addr) (n c lo:Nat) (l:List bO) (w:World) (hO:Own w lo 142 4 bi A n c l) (i:Nat) (hi:i≤n) (x:bO) (b:Nat) (hB:aT w b 142 (bi x)) (cr:aG A c≠some b) (hn:(n+1)*48≤140737488355328) (gQ:lo≤w.heap.size) :
 jr Tryz.prog 193 [.slice A n c,.int .i64 (i:Int),.slice (some ⟨b,0,none⟩) 1 1] w fun v w' => ∃ A' c',v = .slice A' (n+1) c'∧Own w' lo 142 4 bi A' (n+1) c' (aH l i x)∧w.grownBy w' (aG A c) ∧ ∀ k,aG A' c'=some k→aG A c=some k∨w.heap.size≤k:=by
 refine eG Tryz.func193 rfl Tryz.ntmps193 rfl ?_;have hle:=hO.le;have nP:=hO.len;have hA:=hO.sl.base;have hw:=Ext.refl w;have j0:Sl w 4 bi (some ⟨b,0,none⟩) 1 [x]:=aT.wU hB
 have mF:(bi x).length=4:=rfl
 have nR:∀ q:List bO,(q.flatMap bi).length=q.length*4:=fun q=>aE q
 have lZ:∀ (q:List bO) (v:Value),v∈q.flatMap bi→v.oneCell'=true:=fun q v hv=>by
  obtain ⟨u,_,hu⟩:=List.mem_flatMap.1 hv;exact fu.one (enc:=bi) u v hu
 by_cases gR:i=n
 ·subst gR;repeat' (first|refine Wz ?_|(refine SW.st (aP (k:=i) rfl rfl (by omega) (by omega)) rfl ?_))
  all_goals try omega
  refine SW.wq hO j0 gQ (by omega) rfl rfl rfl (by omega) (by omega) fun A2 c2 w2 uQ => ?_
  have DT:Own w2 lo 142 4 bi A2 (i+1) c2 (l++[x])∧w.grownBy w2 (aG A c) ∧ ∀ k,aG A2 c2=some k→aG A c=some k∨w.heap.size≤k:=by
   rcases uQ with ⟨rfl,rfl,h1,h2⟩|⟨h1,h2⟩
   ·exact ⟨h1,h2,fun k e => .inl e⟩
   ·exact ⟨h1.low gQ,(aJ (Ext.refl w) h2 (Nat.le_refl _) (fun k e=>by cases e)).gr _,fun k e => .inr (h1.ba k e)⟩
  obtain ⟨cm,hg,l8⟩:=DT;refine Wz ?_;refine ae.aI rfl rfl ⟨_,rfl,A2,c2,rfl,?_,hg,l8⟩;have e:aH l i x=l++[x]:=by unfold aH;rw [List.take_of_length_le (by omega),List.drop_eq_nil_of_le (by omega)];simp
  rw [e];exact cm
 ·by_cases iQ:n+1≤c
  ·obtain ⟨g,rest,rfl,h1,h2,h3,h4,h5,h6⟩:=hO.opened (by omega);have AN:g≠b:=fun e=>cr (by rw [h6,e])
   have es:l.flatMap bi++rest=(l.take i).flatMap bi++((l.drop i).flatMap bi++rest):=by rw [← List.append_assoc,← List.flatMap_append,List.take_append_drop]
   have e1:((l.take i).flatMap bi).length=i*4:=by rw [nR];simp;omega
   have e2:((l.drop i).flatMap bi).length=(n-i)*4:=by rw [nR];simp [nP]
   have lp:=hO.sl.drop i c (by omega) (by omega);rw [if_neg (by omega)] at lp;rw [es] at h2
   have Dn:∀ w',Ext w w'→(Extern.SlicesOverlaps.overlaps #[38,38] #[4] #[.slice (some ⟨b,0,none⟩) 1 1,.slice (if c=i+1 then (some ⟨g,0,none⟩) else (some (⟨g,0,none⟩ : Addr)).map (·.add ((i+1)*4))) (n+1-(i+1)) (c-(i+1))]).run Tryz.prog w' = .ok (.bool false) w':=fun w' hx=>by
    rw [if_neg (by omega),Option.map_some,cn];have b1:=hB.ext hx;have b2:=h2.ext hx;unfold aT at b1 b2
    exact Lib.run_overlaps_apart w' 38 4 142 (aX.kz (t:=38)) 4 (fun w0=>run_sizeOf (aX.size (t:=38)) w0) ⟨b,0,none⟩ ⟨g,(i+1)*4,none⟩ 1 1 _ _ (fun e=>AN e.symm) 142 142 (bi x).toArray.size ((l.take i).flatMap bi++((l.drop i).flatMap bi++rest)).toArray.size
     (by simp only [World.shape?,b1]) (by simp only [World.shape?,b2]) (by simp [e1,e2];omega) (by simp [World.frozen?,b1]) (by simp [World.frozen?,b1])
   repeat' (first|refine Wz ?_|(refine CW.eX rfl ?_)|(refine SW.st (aP (k:=i) rfl rfl (by omega) (by omega)) rfl ?_)|(refine SW.st (cG (k:=n+1) rfl rfl (by omega)) rfl ?_)|(refine SW.st (aP (k:=i+1) rfl rfl (by omega) (by omega)) rfl ?_)|(refine SW.entry Tryz.func235 (by kernel_rfl) (by kernel_rfl) (by kernel_rfl) (e:=Extern.SlicesOverlaps.overlaps #[38,38] #[4]) (by kernel_rfl) rfl rfl (Dn _ hw) ?_))
   all_goals try omega
   have qW:((n-i)+1)*4≤((l.drop i).flatMap bi++rest).length:=by rw [List.length_append,e2];omega
   have e4:(l.drop i).flatMap bi++rest=((l.drop i).flatMap bi++rest).take 4++(((l.drop i).flatMap bi++rest).drop 4).take ((n-i)*4)++((l.drop i).flatMap bi++rest).drop (4+(n-i)*4):=by
    rw [List.append_assoc,← List.drop_drop,List.take_append_drop,List.take_append_drop]
   generalize Dp:((l.drop i).flatMap bi++rest).take 4=D1 at e4
   generalize Dq:(((l.drop i).flatMap bi++rest).drop 4).take ((n-i)*4)=D2 at e4
   generalize Dr:((l.drop i).flatMap bi++rest).drop (4+(n-i)*4)=D3 at e4
   have f1:D1.length=4:=by rw [← Dp];simp only [List.length_take];omega
   have f2:D2.length=(n-i)*4:=by rw [← Dq];simp only [List.length_take,List.length_drop];omega
   have f3:D3.length+4=rest.length:=by rw [← Dr];simp only [List.length_drop,List.length_append,e2];omega
   rw [e4] at h2;refine CW.any 8 mixed (dq (by kernel_rfl)) rfl fun w1 aa bm => ?_
   replace hw:=Ext.trans hw aa;replace hO:=hO.ext aa;replace hB:=hB.ext aa;replace h2:=h2.ext aa;clear aa;refine Wa ?_;refine SA.take 4 bm rfl (by kernel_rfl) (by kernel_rfl) rfl ?_;repeat ((refine SW.st (aP (k:=i+1) rfl rfl (by omega) (by omega)) rfl ?_))
   refine SW.ar ?_;refine Wa ?_;refine SA.take 7 bm rfl (by kernel_rfl) (by kernel_rfl) rfl ?_;repeat ((refine SW.st (aP (k:=i) rfl rfl (by omega) (by omega)) rfl ?_))
   refine SW.ar ?_;refine SA.done (by kernel_rfl) ?_;refine SW.copy (k:=n-i) ((i+1)*4) ((l.drop i).flatMap bi) h2 rfl rfl rfl (by omega) e2 (by simp only [List.length_append,e1,e2,f1,f2];omega) (fun h0=>⟨by rw [if_neg (by omega)];simp [cn],(⟨g,0,none⟩ : Addr).add (i*4),by rw [if_neg (by omega)];rfl,fun j v hv=>cg (by omega) (lp.ext hw) j v hv⟩) (lZ _) fun w3 ml oz => ?_
   have g1:=eE ((l.take i).flatMap bi++D1) D2 D3 ((l.drop i).flatMap bi) (by rw [e2,f2]) (o:=(i+1)*4) (by rw [List.length_append,e1,f1];omega);have g0:(l.take i).flatMap bi++(D1++D2++D3)=(l.take i).flatMap bi++D1++D2++D3:=by simp only [List.append_assoc]
   rw [g0,g1] at ml;have FH:=bR (hw.gr (aG (some ⟨g,0,none⟩) c)) oz (.inl h6.symm);have JK:=hB.grown oz (by simpa using fun e=>AN e.symm);repeat' (first|refine Wz ?_|(refine SW.st (aP (k:=i) rfl rfl (by omega) (by omega)) rfl ?_))
   refine SW.copy (k:=1) (i*4) (bi x) ml rfl rfl rfl (by omega) mF (by simp only [List.length_append,e1,e2,f1,mF];omega) (fun h0=>⟨by rw [if_neg (by omega)];simp [cn],⟨b,0,none⟩,rfl,fun j v hv=>JK.cell hv⟩) (fu.one (enc:=bi) x) fun w4 mG vD => ?_
   have g2:=eE ((l.take i).flatMap bi) D1 ((l.drop i).flatMap bi++D3) (bi x) (by rw [mF,f1]) (o:=i*4) e1.symm;have g3:(l.take i).flatMap bi++D1++(l.drop i).flatMap bi++D3=(l.take i).flatMap bi++D1++((l.drop i).flatMap bi++D3):=by simp only [List.append_assoc]
   have g4:(l.take i).flatMap bi++bi x++((l.drop i).flatMap bi++D3)=(aH l i x).flatMap bi++D3:=by unfold aH;simp only [List.flatMap_append,List.flatMap_cons,List.flatMap_nil,List.append_nil,List.append_assoc]
   rw [g3,g2,g4] at mG;have Bz:=Own.closed (n:=n+1) (c:=c) (l:=aH l i x) (by unfold aH;simp;omega) mG (by omega) iQ (by omega) h5 h1;have Ds:=bR FH vD (.inl h6.symm);refine Wz ?_;exact ae.aI rfl rfl ⟨_,rfl,_,_,rfl,Bz,Ds,fun k e => .inl e⟩
  ·have Li:c=n:=by omega
   have lp:=hO.sl.drop i c (by omega) (by omega);have xj:=hO.sl.pre (i:=i) (by omega);repeat' (first|refine Wz ?_|(refine SW.st (aP (k:=i) rfl rfl (by omega) (by omega)) rfl ?_)|(refine SW.st (cG (k:=i) rfl rfl (by omega)) rfl ?_))
   all_goals try omega
   refine SW.vP (k:=n+1-i) xj Tryz.underlying3 rfl rfl (by omega) rfl (by omega) (by omega) (by omega) (by omega) fun g rest c2 w2 bo qX h2 h3 h4 h5 => ?_
   have e1:((l.take i).flatMap bi).length=i*4:=by rw [nR];simp;omega
   have e2:((l.drop i).flatMap bi).length=(n-i)*4:=by rw [nR];simp [nP]
   have qW:((n-i)+1)*4≤rest.length:=by omega
   have e4:rest=rest.take 4++(rest.drop 4).take ((n-i)*4)++rest.drop (4+(n-i)*4):=by
    rw [List.append_assoc,← List.drop_drop,List.take_append_drop,List.take_append_drop]
   generalize Dp:rest.take 4=D1 at e4
   generalize Dq:(rest.drop 4).take ((n-i)*4)=D2 at e4
   generalize Dr:rest.drop (4+(n-i)*4)=D3 at e4
   have f1:D1.length=4:=by rw [← Dp];simp only [List.length_take];omega
   have f2:D2.length=(n-i)*4:=by rw [← Dq];simp only [List.length_take,List.length_drop];omega
   have f3:D3.length+((n-i)+1)*4=rest.length:=by rw [← Dr];simp only [List.length_drop];omega
   rw [e4] at h2;have fQ:aG A c≠some g:=fun e=>by have:=hO.lt_size _ e;omega
   have AN:b≠g:=by have:=hB.lt;omega
   replace lp:=lp.ext bo;replace hB:=hB.ext bo;replace hw:=Ext.trans hw bo;repeat' (first|refine Wz ?_|(refine SW.st (aP (k:=i) rfl rfl (by omega) (by omega)) rfl ?_))
   refine SW.copy (k:=1) (i*4) (bi x) h2 rfl rfl rfl (by omega) mF (by simp only [List.length_append,e1,f1,f2,mF];omega) (fun h0=>⟨by rw [if_neg (by omega)];simp [cn],⟨b,0,none⟩,rfl,fun j v hv=>hB.cell hv⟩) (fu.one (enc:=bi) x) fun w3 ml oz => ?_
   have g2:=eE ((l.take i).flatMap bi) D1 (D2++D3) (bi x) (by rw [mF,f1]) (o:=i*4) e1.symm;have g3:(l.take i).flatMap bi++(D1++D2++D3)=(l.take i).flatMap bi++D1++(D2++D3):=by simp only [List.append_assoc]
   rw [g3,g2] at ml;have GJ:Ext w w3:=hw.own qX oz
   have j7:Sl w3 4 bi (if c=i then A else A.map (·.add (i*4))) (n-i) (l.drop i):=(hO.sl.drop i c (by omega) (by omega)).ext GJ
   replace hw:=GJ;refine Wz ?_;refine CW.any 8 mixed (dq (by kernel_rfl)) rfl fun w1 aa bm => ?_
   replace hw:=Ext.trans hw aa;replace ml:=ml.ext aa;replace j7:=j7.ext aa;clear aa;refine Wa ?_;refine SA.take 4 bm rfl (by kernel_rfl) (by kernel_rfl) rfl ?_;repeat ((refine SW.st (aP (k:=i+1) rfl rfl (by omega) (by omega)) rfl ?_))
   refine SW.ar ?_;refine Wa ?_;refine SA.take 7 bm rfl (by kernel_rfl) (by kernel_rfl) rfl ?_;repeat ((refine SW.st (aP (k:=i) rfl rfl (by omega) (by omega)) rfl ?_))
   refine SW.ar ?_;refine SA.done (by kernel_rfl) ?_;refine SW.copy (k:=n-i) ((i+1)*4) ((l.drop i).flatMap bi) ml rfl rfl rfl (by omega) e2 (by simp only [List.length_append,e1,e2,f2,mF];omega) (fun h0=>⟨by rw [if_neg (by omega)];simp [cn],(if c=i then A else A.map (·.add (i*4))).getD default,?_,fun j v hv=>cg (by omega) j7 j v hv⟩) (lZ _) fun w4 mG vD => ?_
   ·obtain ⟨a,ha⟩:=Option.isSome_iff_exists.1 (j7.base h0);rw [ha];rfl
   ·have g4:=eE ((l.take i).flatMap bi++bi x) D2 D3 ((l.drop i).flatMap bi) (by rw [e2,f2]) (o:=(i+1)*4) (by rw [List.length_append,e1,mF];omega);have g5:(l.take i).flatMap bi++bi x++(D2++D3)=(l.take i).flatMap bi++bi x++D2++D3:=by simp only [List.append_assoc]
    have g6:(l.take i).flatMap bi++bi x++(l.drop i).flatMap bi++D3=(aH l i x).flatMap bi++D3:=by unfold aH;simp only [List.flatMap_append,List.flatMap_cons,List.flatMap_nil,List.append_nil,List.append_assoc]
    rw [g5,g4,g6] at mG;have Bz:=Own.closed (n:=n+1) (c:=c2) (lo:=lo) (l:=aH l i x) (by unfold aH;simp;omega) mG (by omega) (by omega) (by omega) h5 (by omega);have dz:Ext w w4:=hw.own qX vD
    have e9:i+(n+1-i)=n+1:=by omega
    refine Wz ?_;rw [e9]
    exact ae.aI rfl rfl ⟨_,rfl,_,_,rfl,Bz,dz.gr _,fun k e => .inr (by
     have:k=g:=by
      unfold aG at e;split at e
      ·cases e
      ·simpa using e.symm
     omega)⟩
open Go.RowKit
theorem SW.kQ {α:Type} {P:Program} {n:Nat} {ops:Array Oper} {Q:Exit→Act→World→Prop} {rest:List Oper} {L:Env} {w:World} {T:TypeId} {pos:String} {af:Array Edge} {lo:Nat} {e:TypeId} {sz:Nat} {enc : α → List Value} [E:fu enc sz] {A:Option Addr} {m c:Nat} {l:List α} {t:TypeId} [G:dZ P t sz] {x y:Operand} (k:Nat) (x' : α)
 (hO:Own w lo e sz enc A m c l) (hx:bF L x=some (.pointer (some ((A.getD default).add (k*sz))))) (hy:bF L y=some (.agg (enc x').toArray)) (hk:k<m)
 (h:∀ w',Own w' lo e sz enc A m c (l.set k x')→w.grownBy w' (aG A c)→SW P n ops (.fB Q) rest L w') : SW P n ops (.fB Q) (⟨none,.store t x y,T,pos,af,none⟩::rest) L w :=
 ⟨fun a ha=>by
  have hc : 0<c:=by have:=hO.le;omega
  obtain ⟨g,r,rfl,gQ,hB,hr,PU,Kb,how⟩:=hO.opened hc;have eV:k<l.length:=by rw [hO.len];exact hk
  have uq:(k+1)*sz≤m*sz:=Nat.mul_le_mul_right _ hk
  rw [Nat.add_mul,Nat.one_mul] at uq;have nR:(l.flatMap enc).length=m*sz:=by rw [aE,hO.len]
  have e0:(((some (⟨g,0,none⟩ : Addr)).getD default).add (k*sz))=⟨g,k*sz,none⟩:=cn g _
  rw [e0] at hx;have el:l=l.take k++[l[k]]++l.drop (k+1):=by simp
  have hX:((l.take k).flatMap enc).length=k*sz:=by rw [aE,List.length_take,Nat.min_eq_left (by omega)]
  have e1:l.flatMap enc++r=(l.take k).flatMap enc++enc l[k]++((l.drop (k+1)).flatMap enc++r):=by
   have e3:l.flatMap enc=(l.take k++[l[k]]++l.drop (k+1)).flatMap enc:=by rw [← el]
   rw [e3,List.flatMap_append,List.flatMap_append];simp only [List.flatMap_cons,List.flatMap_nil,List.append_nil,List.append_assoc]
  have tX:=run_storeCells_at P g (k*sz) e (enc x') 0 (l.flatMap enc++r).toArray w hB (by simp only [List.size_toArray,List.length_append,nR,E.len];omega) (E.one x')
  have e2:((l.flatMap enc++r).toArray.toList.take (k*sz+0)++enc x'++(l.flatMap enc++r).toArray.toList.drop (k*sz+0+(enc x').length))=(l.set k x').flatMap enc++r:=by
   have:=eE ((l.take k).flatMap enc) (enc l[k]) ((l.drop (k+1)).flatMap enc++r) (enc x') (by rw [E.len,E.len]) hX.symm
   rw [← e1] at this;unfold lay at this;simp only [Nat.add_zero];rw [this,List.set_eq_take_append_cons_drop,if_pos eV];simp
  rw [e2] at tX;simp only [swp,wpList,Region.wanted,if_true];refine .inl ?_;unfold Oper.wp
  have zI:(execOp a.eval ⟨none,.store t x y,T,pos,af,none⟩).run P w = .ok .skip (w.setRow g ((l.set k x').flatMap enc++r).toArray):=by
   simp [execOp,ha.eval hx,ha.eval hy,Instr.storeAt,Instr.sureAddr,storeVar,Value.cells,run_sizeOf G.size,E.len,tX]
  rw [zI,Oper.upon_skip];obtain ⟨q9,CU⟩:=ed (cs:=(l.set k x').flatMap enc++r) hB;refine (h _ (Own.closed (by rw [List.length_set];exact hO.len) q9 hr PU hc Kb gQ) ?_).out _ ha;rw [how];exact CU⟩
open Go.RowKit
structure dM (w:World) (lo g c:Nat) (u0 u1:bU) (s:ab×ab) : Prop where
 row:Own w lo 139 4 bG (some ⟨g,0,none⟩) 2 c [u0,u1]
 z0:dT w lo u0 s.1
 z1:dT w lo u1 s.2
 A7:lo≤g
 pos : 0<c
section
variable {w w':World} {lo kA g c t:Nat} {u0 u1:bU} {s:ab×ab}
theorem dM.ext (h:dM w lo g c u0 u1 s) (hx:Ext w w') : dM w' lo g c u0 u1 s:=⟨h.row.ext hx,h.z0.ext hx,h.z1.ext hx,h.A7,h.pos⟩
theorem dM.au (h:dM w lo g c u0 u1 s) (hG:tZ w w' t) (cr:(Nat.beq t 139 || (Nat.beq t 3 || Nat.beq t 165))=false) : dM w' lo g c u0 u1 s:=by
 rw [Bool.or_eq_false_iff] at cr;exact ⟨h.row.au hG cr.1,h.z0.au hG cr.2,h.z1.au hG cr.2,h.A7,h.pos⟩
theorem dM.own (h:dM w lo g c u0 u1 s) : aG (some (⟨g,0,none⟩ : Addr)) c=some g:=by simp [aG,Nat.pos_iff_ne_zero.1 h.pos]
theorem dM.gr (h:dM w lo g c u0 u1 s) (hg:w.grownBy w' (some g)) : tZ w w' 139:=h.row.gr (by rw [h.own];exact hg)
theorem nv {u:bU} {z:ab} (h:dT w lo u z) (hz:aU z) : (u.ag.n+1)*24≤140737488355328∧u.Types.n*8≤140737488355328∧(0≤u.aw∧u.aw≤256)∧(0≤u.To∧u.To≤256):=by
 have e1:=h.free.sl.len;have e2:=h.types.sl.len;have e3:=h.from_;have e4:=h.jA;have hl:=gu hz;obtain ⟨o1,o2,o3,o4,o5⟩:=hz.ok;refine ⟨Nat.le_trans (Nat.mul_le_mul_right 24 (show u.ag.n+1≤258 by omega)) (by decide),by omega,by omega,by omega⟩
end
theorem qe (r:gb) (u0 u1:bU) (p:Int) (w:World) (hz:Sl w 4 bG r.aL.A r.aL.n [u0,u1]) :
 bl Tryz.prog 110 [.agg (bW r).toArray,.int .i64 p] w fun v _=>v = .int .i64 (if p<u0.To then 0 else 1):=by
 refine aD Tryz.func110 rfl Tryz.ntmps110 rfl ?_;refine CW.seq (CW.region (SW.box rfl rfl fun b1 w1 hw gX aB => ?_));have hA:=hz.base;have hn : 2=r.aL.n:=hz.len
 have h0 : 0<r.aL.n:=by omega
 have f0:=hz.qV h0 (j:=1) (u := .int .i64 u0.To) rfl;repeat' (first|refine Wz ?_|(refine CW.nM rfl (fun h => ?_) (fun h => ?_))|refine SW.st (aM hw rfl f0) rfl ?_)
 all_goals
  refine ae.aI rfl rfl ⟨_,rfl,hw,?_⟩
  first|(rw [if_pos (by omega)])|(rw [if_neg (by omega)])
def F2 (w:World) (lo g c:Nat) (s:ab×ab) (b:Block) (w':World) : Prop:=w.grownBy w' (some g) ∧ ∃ u0 u1,dM w' lo g c u0 u1 (ee s b)
theorem qf (m:fD) (cp:Int) (li lv:fD) (u0 u1:bU) (s:ab×ab) (bs:List Block) (b:Block) (lo g c b1:Nat) (w:World) (aB:aT w b1 41 (bW ⟨⟨some ⟨g,0,none⟩,2,c⟩,m,cp,li,lv⟩)) (hZ:dM w lo g c u0 u1 s) (gQ:lo≤w.heap.size) (hD:lA s bs) (hN:kK bs b) :
 jr Tryz.prog 109 [.pointer (some ⟨b1,0,none⟩),.int .i64 b.At,.int .i64 b.Order] w fun v w'=>F2 w lo g c s b w':=by
 refine eG Tryz.func109 rfl Tryz.ntmps109 rfl ?_;have hw:=Ext.refl w;have eT:=hZ.z0.jA;obtain ⟨q1,q2,q3,q4⟩:=nv hZ.z0 hD.gZ;obtain ⟨p1,p2,p3,p4⟩:=nv hZ.z1 hD.gL;have hA:=hZ.row.sl.base;have cz:∀ w',Sl w' 4 bG (some ⟨g,0,none⟩) 2 [u0,u1]→bl Tryz.prog 110 [.agg (bW ⟨⟨some ⟨g,0,none⟩,2,c⟩,m,cp,li,lv⟩).toArray,.int .i64 b.At] w' fun v _=>v = .int .i64 (if b.At<u0.To then 0 else 1):=fun w' h=>qe ⟨⟨some ⟨g,0,none⟩,2,c⟩,m,cp,li,lv⟩ u0 u1 b.At w' h
 by_cases hx:b.At<u0.To
 ·have eP:ee s b=((bV s.1 b.At b.Order).2,s.2):=by unfold ee;rw [if_pos (by omega)]
  simp only [if_pos hx] at cz;have H9:=hZ.row.sl;have k0 : 0<2:=by omega
  repeat' (first|refine Wz ?_|(refine SW.call rfl rfl (cz _ hZ.row.sl) ?_;intro v w1 aa hv;subst hv;replace hw:=Ext.trans hw aa;replace aB:=aB.ext aa;replace hZ:=hZ.ext aa;clear aa))
  refine CW.l9 19 19 (fun _=>True) mixed (by kernel_rfl) fun w1 aa bm => ?_
  replace hw:=Ext.trans hw aa;replace aB:=aB.ext aa;replace hZ:=hZ.ext aa;clear aa;refine SF.take 0 [] [] bm rfl (by kernel_rfl) (by kernel_rfl) (by kernel_rfl) ?_;repeat (refine SW.pure rfl rfl ?_)
  refine SW.ar ?_;refine SF.take 1 [] [] bm rfl (by kernel_rfl) (by kernel_rfl) (by kernel_rfl) ?_;repeat ((show SW _ _ _ _ (⟨_,Op.nilCheck _,_,_,_,none⟩::_) _ _;refine SW.st (bd rfl) rfl ?_))
  refine SW.ar ?_;refine SF.take 2 [] [] bm rfl (by kernel_rfl) (by kernel_rfl) (by kernel_rfl) ?_;repeat ((show SW _ _ _ _ (⟨_,Op.fieldAddr _ _ _,_,_,_,none⟩::_) _ _;refine SW.st (br rfl) rfl ?_))
  refine SW.ar ?_;refine SF.take 3 [] [] bm rfl (by kernel_rfl) (by kernel_rfl) (by kernel_rfl) ?_;repeat ((show SW _ _ _ _ (⟨_,Op.load _ _,_,_,_,none⟩::_) _ _;refine SW.st (ax rfl (aB.cell rfl)) rfl ?_))
  refine SW.ar ?_;refine SF.take 4 [] [] bm rfl (by kernel_rfl) (by kernel_rfl) (by kernel_rfl) ?_;repeat (refine SW.pure rfl rfl ?_)
  refine SW.ar ?_;refine SF.take 5 [] [] bm rfl (by kernel_rfl) (by kernel_rfl) (by kernel_rfl) ?_;repeat (refine SW.pure rfl rfl ?_)
  refine SW.ar ?_;refine SF.take 6 [] [] bm rfl (by kernel_rfl) (by kernel_rfl) (by kernel_rfl) ?_;repeat ((show SW _ _ _ _ (⟨_,Op.nilCheck _,_,_,_,none⟩::_) _ _;refine SW.st (bd rfl) rfl ?_))
  refine SW.ar ?_;refine SF.take 7 [] [] bm rfl (by kernel_rfl) (by kernel_rfl) (by kernel_rfl) ?_;repeat ((show SW _ _ _ _ (⟨_,Op.fieldAddr _ _ _,_,_,_,none⟩::_) _ _;refine SW.st (br rfl) rfl ?_))
  refine SW.ar ?_;refine SF.take 8 [] [] bm rfl (by kernel_rfl) (by kernel_rfl) (by kernel_rfl) ?_;repeat ((show SW _ _ _ _ (⟨_,Op.load _ _,_,_,_,none⟩::_) _ _;refine SW.st (ax rfl (aB.cell rfl)) rfl ?_))
  refine SW.ar ?_;refine SF.take 9 [] [] bm rfl (by kernel_rfl) (by kernel_rfl) (by kernel_rfl) ?_;repeat (refine SW.pure rfl rfl ?_)
  refine SW.ar ?_;refine SF.take 10 [] [] bm rfl (by kernel_rfl) (by kernel_rfl) (by kernel_rfl) ?_;repeat ((show SW _ _ _ _ (⟨_,Op.indexAddr _ _ _,_,_,_,none⟩::_) _ _;refine SW.st (ca rfl rfl (by assumption) (by omega)) rfl ?_))
  refine SW.ar ?_;refine SF.take 11 [] [] bm rfl (by kernel_rfl) (by kernel_rfl) (by kernel_rfl) ?_;repeat ((show SW _ _ _ _ (⟨_,Op.load _ _,_,_,_,none⟩::_) _ _;refine SW.st (ay rfl rfl ((hZ.row.sl.all k0))) rfl ?_))
  refine SW.ar ?_;refine SF.take 12 [] [] bm rfl (by kernel_rfl) (by kernel_rfl) (by kernel_rfl) ?_;repeat (refine SW.pure rfl rfl ?_)
  refine SW.ar ?_;refine SF.take 13 [] [] bm rfl (by kernel_rfl) (by kernel_rfl) (by kernel_rfl) ?_;repeat (refine SW.pure rfl rfl ?_)
  refine SW.ar ?_;refine SF.one 14 rfl (by kernel_rfl) rfl ?_;refine SW.call rfl rfl (kH u0 s.1 b.At b.Order _ hZ.z0.rd q1 q2 ⟨by omega,by omega⟩ ⟨by omega,by omega⟩) fun v w4 ao hv => ?_
  obtain ⟨u',rfl,jo⟩:=hv;replace jo:=jo.low (Nat.le_trans gQ hw.size);(replace hw:=Ext.trans hw ao;replace aB:=aB.ext ao;replace hZ:=hZ.ext ao);refine SW.nil (ae.sf ao ?_);refine SF.take 15 [] [] bm rfl (by kernel_rfl) (by kernel_rfl) (by kernel_rfl) ?_;repeat (refine SW.pure rfl rfl ?_)
  refine SW.ar ?_;refine SF.take 16 [] [] bm rfl (by kernel_rfl) (by kernel_rfl) (by kernel_rfl) ?_;repeat (refine SW.pure rfl rfl ?_)
  refine SW.ar ?_;refine SF.wZ 17 bm rfl (by kernel_rfl) (by kernel_rfl) rfl (fun _=>dx rfl) rfl ?_;refine SF.take 18 [] [] bm rfl (by kernel_rfl) (by kernel_rfl) (by kernel_rfl) ?_;repeat ((show SW _ _ _ _ (⟨_,Op.indexAddr _ _ _,_,_,_,none⟩::_) _ _;refine SW.st (ca rfl rfl (by assumption) (by omega)) rfl ?_))
  refine SW.ar ?_;refine SF.last rfl (by kernel_rfl) (by kernel_rfl) ?_;refine SW.kQ (enc:=bG) 0 u' hZ.row rfl rfl k0 fun w5 hO hg => ?_
  rw [hZ.own] at hg;have hG:=hZ.gr hg;have FI:=bR (hw.gr (some g)) hg (.inl rfl);refine Wz ?_;exact ae.uj rfl ⟨_,rfl,FI,u',u1,by rw [eP];exact ⟨hO,jo.au hG rfl,hZ.z1.au hG rfl,hZ.A7,hZ.pos⟩⟩
 ·have eP:ee s b=(s.1,(bV s.2 b.At b.Order).2):=by unfold ee;rw [if_neg (by omega)]
  simp only [if_neg hx] at cz;have k0 : 1<2:=by omega
  repeat' (first|refine Wz ?_|(refine SW.call rfl rfl (cz _ hZ.row.sl) ?_;intro v w1 aa hv;subst hv;replace hw:=Ext.trans hw aa;replace aB:=aB.ext aa;replace hZ:=hZ.ext aa;clear aa))
  refine CW.l9 19 19 (fun _=>True) mixed (by kernel_rfl) fun w1 aa bm => ?_
  replace hw:=Ext.trans hw aa;replace aB:=aB.ext aa;replace hZ:=hZ.ext aa;clear aa;refine SF.take 0 [] [] bm rfl (by kernel_rfl) (by kernel_rfl) (by kernel_rfl) ?_;repeat (refine SW.pure rfl rfl ?_)
  refine SW.ar ?_;refine SF.take 1 [] [] bm rfl (by kernel_rfl) (by kernel_rfl) (by kernel_rfl) ?_;repeat ((show SW _ _ _ _ (⟨_,Op.nilCheck _,_,_,_,none⟩::_) _ _;refine SW.st (bd rfl) rfl ?_))
  refine SW.ar ?_;refine SF.take 2 [] [] bm rfl (by kernel_rfl) (by kernel_rfl) (by kernel_rfl) ?_;repeat ((show SW _ _ _ _ (⟨_,Op.fieldAddr _ _ _,_,_,_,none⟩::_) _ _;refine SW.st (br rfl) rfl ?_))
  refine SW.ar ?_;refine SF.take 3 [] [] bm rfl (by kernel_rfl) (by kernel_rfl) (by kernel_rfl) ?_;repeat ((show SW _ _ _ _ (⟨_,Op.load _ _,_,_,_,none⟩::_) _ _;refine SW.st (ax rfl (aB.cell rfl)) rfl ?_))
  refine SW.ar ?_;refine SF.take 4 [] [] bm rfl (by kernel_rfl) (by kernel_rfl) (by kernel_rfl) ?_;repeat (refine SW.pure rfl rfl ?_)
  refine SW.ar ?_;refine SF.take 5 [] [] bm rfl (by kernel_rfl) (by kernel_rfl) (by kernel_rfl) ?_;repeat (refine SW.pure rfl rfl ?_)
  refine SW.ar ?_;refine SF.take 6 [] [] bm rfl (by kernel_rfl) (by kernel_rfl) (by kernel_rfl) ?_;repeat ((show SW _ _ _ _ (⟨_,Op.nilCheck _,_,_,_,none⟩::_) _ _;refine SW.st (bd rfl) rfl ?_))
  refine SW.ar ?_;refine SF.take 7 [] [] bm rfl (by kernel_rfl) (by kernel_rfl) (by kernel_rfl) ?_;repeat ((show SW _ _ _ _ (⟨_,Op.fieldAddr _ _ _,_,_,_,none⟩::_) _ _;refine SW.st (br rfl) rfl ?_))
  refine SW.ar ?_;refine SF.take 8 [] [] bm rfl (by kernel_rfl) (by kernel_rfl) (by kernel_rfl) ?_;repeat ((show SW _ _ _ _ (⟨_,Op.load _ _,_,_,_,none⟩::_) _ _;refine SW.st (ax rfl (aB.cell rfl)) rfl ?_))
  refine SW.ar ?_;refine SF.take 9 [] [] bm rfl (by kernel_rfl) (by kernel_rfl) (by kernel_rfl) ?_;repeat (refine SW.pure rfl rfl ?_)
  refine SW.ar ?_;refine SF.take 10 [] [] bm rfl (by kernel_rfl) (by kernel_rfl) (by kernel_rfl) ?_;repeat ((show SW _ _ _ _ (⟨_,Op.indexAddr _ _ _,_,_,_,none⟩::_) _ _;refine SW.st (ca rfl rfl (by assumption) (by omega)) rfl ?_))
  refine SW.ar ?_;refine SF.take 11 [] [] bm rfl (by kernel_rfl) (by kernel_rfl) (by kernel_rfl) ?_;repeat ((show SW _ _ _ _ (⟨_,Op.load _ _,_,_,_,none⟩::_) _ _;refine SW.st (ay rfl rfl ((hZ.row.sl.all k0))) rfl ?_))
  refine SW.ar ?_;refine SF.take 12 [] [] bm rfl (by kernel_rfl) (by kernel_rfl) (by kernel_rfl) ?_;repeat (refine SW.pure rfl rfl ?_)
  refine SW.ar ?_;refine SF.take 13 [] [] bm rfl (by kernel_rfl) (by kernel_rfl) (by kernel_rfl) ?_;repeat (refine SW.pure rfl rfl ?_)
  refine SW.ar ?_;refine SF.one 14 rfl (by kernel_rfl) rfl ?_;refine SW.call rfl rfl (kH u1 s.2 b.At b.Order _ hZ.z1.rd p1 p2 ⟨by omega,by omega⟩ ⟨by omega,by omega⟩) fun v w4 ao hv => ?_
  obtain ⟨u',rfl,jo⟩:=hv;replace jo:=jo.low (Nat.le_trans gQ hw.size);(replace hw:=Ext.trans hw ao;replace aB:=aB.ext ao;replace hZ:=hZ.ext ao);refine SW.nil (ae.sf ao ?_);refine SF.take 15 [] [] bm rfl (by kernel_rfl) (by kernel_rfl) (by kernel_rfl) ?_;repeat (refine SW.pure rfl rfl ?_)
  refine SW.ar ?_;refine SF.take 16 [] [] bm rfl (by kernel_rfl) (by kernel_rfl) (by kernel_rfl) ?_;repeat (refine SW.pure rfl rfl ?_)
  refine SW.ar ?_;refine SF.wZ 17 bm rfl (by kernel_rfl) (by kernel_rfl) rfl (fun _=>dx rfl) rfl ?_;refine SF.take 18 [] [] bm rfl (by kernel_rfl) (by kernel_rfl) (by kernel_rfl) ?_;repeat ((show SW _ _ _ _ (⟨_,Op.indexAddr _ _ _,_,_,_,none⟩::_) _ _;refine SW.st (ca rfl rfl (by assumption) (by omega)) rfl ?_))
  refine SW.ar ?_;refine SF.last rfl (by kernel_rfl) (by kernel_rfl) ?_;refine SW.kQ (enc:=bG) 1 u' hZ.row rfl rfl k0 fun w5 hO hg => ?_
  rw [hZ.own] at hg;have hG:=hZ.gr hg;have FI:=bR (hw.gr (some g)) hg (.inl rfl);refine Wz ?_;exact ae.uj rfl ⟨_,rfl,FI,u0,u',by rw [eP];exact ⟨hO,hZ.z0.au hG rfl,jo.au hG rfl,hZ.A7,hZ.pos⟩⟩
open Go.RowKit
theorem DK.split {w:World} {lo:Nat} {r:gb} {h:Heap} (a:DK w lo r h) {z0 z1:ab} (hz:h.aL=[z0,z1]) : ∃ g c u0 u1 ls,r.aL=⟨some ⟨g,0,none⟩,2,c⟩∧dM w lo g c u0 u1 (z0,z1)∧dE w lo r.aj ls h.aj∧oW r.bT [u0,u1] ls∧rb r.Live [u0,u1]:=by
 obtain ⟨zs,ls,wi,Je,hm,hf⟩:=a.all;have l0:=wi.each.len;rw [hz] at l0;obtain ⟨u0,u1,rfl⟩:=sM (show zs.length=2 from l0);have l1:=wi.row.len;have h0:=wi.each.get 0 (by simp) (by simp [hz]);have h1:=wi.each.get 1 (by simp) (by simp [hz]);simp only [hz] at h0 h1;have hc : 0<r.aL.c:=by have:=wi.row.le;simp at l1;omega
 obtain ⟨g,rest,hA,gQ,_⟩:=wi.row.opened hc;refine ⟨g,r.aL.c,u0,u1,ls,?_,⟨?_,h0,h1,gQ,hc⟩,Je,hm,hf⟩
 ·rw [← hA];have:(2:Nat)=r.aL.n:=l1
  rw [this]
 ·have:=wi.row
  rw [hA,← l1] at this;exact this
theorem Own.apart {α:Type} {w w':World} {lo:Nat} {e:TypeId} {sz:Nat} {enc : α → List Value} {A:Option Addr} {n c:Nat} {l:List α} (h:Own w lo e sz enc A n c l) {row:Option Nat} (hg:w.grownBy w' row) (hs:∀ g,aG A c=some g→row≠some g) : Own w' lo e sz enc A n c l:=by
 refine h.grown hg ?_;cases e:aG A c with
 | none=>exact .inl rfl
 | some g=>exact .inr (fun e2=>hs g e e2.symm)
theorem dM.zL {w w':World} {lo g c:Nat} {u0 u1:bU} {s:ab×ab} (h:dM w lo g c u0 u1 s) {lv:fD} (hs:rb lv [u0,u1]) (hg:w.grownBy w' (aG lv.A lv.c)) (hG:tZ w w' 165) : dM w' lo g c u0 u1 s :=
 ⟨h.row.au hG rfl,⟨h.z0.from_,h.z0.jA,h.z0.free.apart hg (hs u0 (by simp)),h.z0.types.au hG rfl⟩,⟨h.z1.from_,h.z1.jA,h.z1.free.apart hg (hs u1 (by simp)),h.z1.types.au hG rfl⟩,h.A7,h.pos⟩
structure Ig (w0:World) (li:fD) (b1:Nat) (o:Option Nat) : Prop where
 out:∀ k,o=some k→k≠b1∧aG li.A li.c≠some k∧k<w0.heap.size
theorem Ig.ne {w0:World} {li:fD} {b1:Nat} {o row:Option Nat} (h:Ig w0 li b1 o) (hr:∀ k,row=some k→k=b1∨aG li.A li.c=some k∨w0.heap.size≤k) : ∀ g,o=some g→row≠some g:=fun g e e2=>by
 obtain ⟨h1,h2,h3⟩:=h.out g e;rcases hr g e2 with h|h|h
 ·exact h1 h
 ·exact h2 h
 ·omega
theorem Own.pb {α:Type} {w0:World} {lo:Nat} {e:TypeId} {sz:Nat} {enc : α → List Value} {A:Option Addr} {n c:Nat} {l:List α} (h:Own w0 lo e sz enc A n c l) {li:fD} {ls:List bO} {L:List ap} {b1:Nat} {cs:List Value} (hl:dE w0 lo li ls L) (hb:aT w0 b1 41 cs) (h1:Nat.beq 41 e=false) (h2:Nat.beq e 142=false) : Ig w0 li b1 (aG A c) :=
 ⟨fun k hk=>⟨fun e=>h.cu hb h1 (by rw [hk,e]),by
  rcases h.row with ⟨_,rfl⟩|⟨hc,g,fW,rfl,_,hg,_⟩
  ·simp [aG] at hk
  ·simp only [aG,Nat.pos_iff_ne_zero.1 hc,if_false,Option.map_some,Option.some.injEq] at hk;subst hk;exact hl.row.cu (cs:=fW.toList) (by unfold aT;simpa using hg) h2,h.lt_size k hk⟩⟩
theorem Own.kh {α β:Type} {w0:World} {lo kA:Nat} {e e':TypeId} {sz MJ:Nat} {enc : α → List Value} {Ih : β → List Value} {A A':Option Addr} {n n' c c':Nat} {l:List α} {l':List β} (h:Own w0 lo e sz enc A n c l) (h':Own w0 kA e' MJ Ih A' n' c' l') (cr:Nat.beq e e'=false) : ∀ k,aG A c=some k→aG A' c'≠some k:=fun k hk=>by
 rcases h.row with ⟨_,rfl⟩|⟨hc,g,fW,rfl,_,hg,_⟩
 ·simp [aG] at hk
 ·simp only [aG,Nat.pos_iff_ne_zero.1 hc,if_false,Option.map_some,Option.some.injEq] at hk;subst hk;exact h'.cu (cs:=fW.toList) (by unfold aT;simpa using hg) cr
theorem dM.parts {w w':World} {lo g c:Nat} {u0 u1:bU} {s:ab×ab} {row:Option Nat} (h:dM w lo g c u0 u1 s) (hg:w.grownBy w' row) (h0:∀ k,aG (some (⟨g,0,none⟩ : Addr)) c=some k→row≠some k) (h1:∀ k,aG u0.ag.A u0.ag.c=some k→row≠some k) (h2:∀ k,aG u0.Types.A u0.Types.c=some k→row≠some k)
 (h3:∀ k,aG u1.ag.A u1.ag.c=some k→row≠some k) (h4:∀ k,aG u1.Types.A u1.Types.c=some k→row≠some k) : dM w' lo g c u0 u1 s :=
 ⟨h.row.apart hg h0,⟨h.z0.from_,h.z0.jA,h.z0.free.apart hg h1,h.z0.types.apart hg h2⟩,⟨h.z1.from_,h.z1.jA,h.z1.free.apart hg h3,h.z1.types.apart hg h4⟩,h.A7,h.pos⟩
def ob (s:fD) : Option Nat:=aG s.A s.c
def Ii (a b:bO) : Prop := ∀ g,ob a.an=some g→ob b.an≠some g
theorem B4 {a b:bO} (h:Ii a b) : Ii b a:=fun g e e2=>h g e2 e
theorem pd {ls:List bO}:zq ls↔ls.Pairwise Ii:=by
 rw [List.pairwise_iff_getElem];refine ⟨fun h i j hi hj j1 g e=>h i j hi hj (by omega) g e,fun h i j hi hj j1 g e => ?_⟩;rcases Nat.lt_or_gt_of_ne j1 with h1|h1
 ·exact h i j hi hj h1 g e
 ·exact B4 (h j i hj hi h1) g e
structure ur (n:Nat) (li:fD) (ls:List bO) (Fl:fD) (A8:List bO) : Prop where
 sep:zq A8
 of:∀ y∈A8,∀ g,ob y.an=some g→(∃ x∈ls,ob x.an=some g)∨n≤g
 row:∀ k,ob Fl=some k→ob li=some k∨n≤k
theorem ur.ko {n:Nat} {li:fD} {ls:List bO} {i:Nat} {y:bO} (hs:zq ls) (dg:∀ x∈ls,∀ g,ob x.an=some g→g<n) (hi:i<ls.length) (hy:∀ g,ob y.an=some g→ob ls[i].an=some g∨n≤g) : ur n li ls li (ls.set i y):=by
 refine ⟨fun a b ha hb Lj g e e2 => ?_,fun z hz g e => ?_,fun k e => .inl e⟩
 ·simp only [List.length_set] at ha hb
  change ob ((ls.set i y)[a]).an=some g at e
  change ob ((ls.set i y)[b]).an=some g at e2
  simp only [List.getElem_set] at e e2;by_cases h1:i=a
  ·rw [if_pos h1] at e;rw [if_neg (by omega)] at e2;rcases hy g e with h|h
   ·subst h1;exact hs _ _ hi hb Lj g h e2
   ·have:=dg _ (List.getElem_mem hb) g e2;omega
  ·rw [if_neg h1] at e;by_cases h2:i=b
   ·rw [if_pos h2] at e2;rcases hy g e2 with h|h
    ·subst h2;exact hs _ _ ha hi Lj g e h
    ·have:=dg _ (List.getElem_mem ha) g e;omega
   ·rw [if_neg h2] at e2;exact hs _ _ ha hb Lj g e e2
 ·rcases List.mem_or_eq_of_mem_set hz with h|rfl
  ·exact .inl ⟨z,h,e⟩
  ·rcases hy g e with h|h
   ·exact .inl ⟨_,List.getElem_mem hi,h⟩
   ·exact .inr h
theorem ur.ins {n:Nat} {li Fl:fD} {ls:List bO} {i:Nat} {y:bO} (hs:zq ls) (dg:∀ x∈ls,∀ g,ob x.an=some g→g<n) (hy:∀ g,ob y.an=some g→n≤g) (hr:∀ k,ob Fl=some k→ob li=some k∨n≤k) : ur n li ls Fl (aH ls i y):=by
 have hm:∀ z,z∈aH ls i y→z∈ls∨z=y:=fun z hz=>by
  unfold aH at hz;rw [List.mem_append,List.mem_append,List.mem_singleton] at hz;rcases hz with (hz|hz)|hz
  ·exact .inl (List.mem_of_mem_take hz)
  ·exact .inr hz
  ·exact .inl (List.mem_of_mem_drop hz)
 refine ⟨?_,fun z hz g e => ?_,hr⟩
 ·have hs:=pd.1 hs;rw [← List.take_append_drop i ls,List.pairwise_append] at hs;obtain ⟨h1,h2,h3⟩:=hs;rw [pd];unfold aH;rw [List.append_assoc,List.pairwise_append];refine ⟨h1,?_,fun a ha b hb => ?_⟩
  ·rw [List.singleton_append,List.pairwise_cons];exact ⟨fun b hb g e e2=>by have:=hy g e;have:=dg b (List.mem_of_mem_drop hb) g e2;omega,h2⟩
  ·rw [List.singleton_append,List.mem_cons] at hb;rcases hb with rfl|hb
   ·exact fun g e e2=>by have:=hy g e2;have:=dg a (List.mem_of_mem_take ha) g e;omega
   ·exact h3 a ha b hb
 ·rcases hm z hz with h|rfl
  ·exact .inl ⟨z,h,e⟩
  ·exact .inr (hy g e)
theorem SW.A9 {α:Type} {P:Program} {n:Nat} {ops:Array Oper} {Q:Exit→Act→World→Prop} {rest:List Oper} {L:Env} {w:World} {dd:Nat} {T:TypeId} {pos:String} {af:Array Edge}
 {lo:Nat} {t e:TypeId} {z:Value} {sz bytes:Nat} {enc : α → List Value} {A X:Option Addr} {k c m c2:Nat} {l ys:List α} [aX P t e sz] [cj P e z sz bytes] [fu enc sz] {x y:Operand}
 (hO:Own w lo e sz enc A k c l) (hS:Sl w sz enc X m ys) (gQ:lo≤w.heap.size) (tW : 0<m) (hx:bF L x=some (.slice A k c)) (hy:bF L y=some (.slice X m c2)) (hn:Nat.blt dd n=true)
 (hb:(k+m)*bytes≤140737488355328) (hm:k+m≤9223372036854775807)
 (h:∀ A' c' w',Own w' lo e sz enc A' (k+m) c' (l++ys)→w.grownBy w' (aG A c)→(∀ g,aG A' c'=some g→aG A c=some g∨w.heap.size≤g)→SW P n ops (.fB Q) rest ((dd,.slice A' (k+m) c')::L) w') :
 SW P n ops (.fB Q) (⟨some dd,.call ⟨.builtin .append,#[x,y],#[t,t]⟩,T,pos,af,none⟩::rest) L w:=by
 refine SW.wq hO hS gQ tW hx hy hn hb hm fun A' c' w' hh => ?_
 rcases hh with ⟨rfl,rfl,h1,h2⟩|⟨h1,h2⟩
 ·exact h _ _ _ h1 h2 (fun g e => .inl e)
 ·exact h _ _ _ (h1.low gQ) ⟨h2.os,h2.tape,h2.output,h2.size,fun k hk _=>h2.block k hk (fun e=>by cases e)⟩ (fun g e => .inr (h1.ba g e))
end Go.Proofs.YtbidkghlpijecaaGreatDoor
