/-
  Texts of the claim KmemFrees, part 10: what its theorem leans on.
-/
import Derived.Test.YtbidkghlpijecaaGreatDoorPackKmemFrees7
import Derived.Test.YtbidkghlpijecaaGreatDoorPackKmemFrees9
import Derived.Test.YtbidkghlpijecaaGreatDoorPackKmemFrees2
import Derived.Test.YtbidkghlpijecaaGreatDoorPackKmemFrees6
import Derived.Test.YtbidkghlpijecaaGreatDoorPackKmemFrees5
set_option linter.unusedVariables false
set_option linter.unusedSimpArgs false
namespace Go.Proofs.YtbidkghlpijecaaGreatDoor
open Go.RowKit
set_option maxHeartbeats 4000000 in
theorem pL (A:Option Addr) (n c lo:Nat) (l:List bP) (w:World) (hO:Own w lo 142 4 bg A n c l) (i:Nat) (hi:i≤n) (x:bP) (b:Nat) (hB:aU w b 142 (bg x)) (cQ:aX A c≠some b) (hn:(n+1)*48≤140737488355328) (gh:lo≤w.heap.size) :
 kt Tryz.prog 193 [.slice A n c,.int .i64 (i:Int),.slice (some ⟨b,0,none⟩) 1 1] w fun v w' => ∃ A' c',v = .slice A' (n+1) c'∧Own w' lo 142 4 bg A' (n+1) c' (aW l i x)∧w.grownBy w' (aX A c) ∧ ∀ k,aX A' c'=some k→aX A c=some k∨w.heap.size≤k:=by
 refine fy Tryz.func193 rfl Tryz.ntmps193 rfl ?_;have hle:=hO.le;have lz:=hO.len;have hA:=hO.sl.base;have hw:=Ext.refl w;have jG:Sl w 4 bg (some ⟨b,0,none⟩) 1 [x]:=aU.kf hB
 have lK:(bg x).length=4:=rfl
 have nS:∀ q:List bP,(q.flatMap bg).length=q.length*4:=fun q=>aO q
 have mO:∀ (q:List bP) (v:Value),v∈q.flatMap bg→v.oneCell'=true:=fun q v hv=>by
  obtain ⟨u,_,hu⟩:=List.mem_flatMap.1 hv;exact fM.one (enc:=bg) u v hu
 by_cases cy:i=n
 ·subst cy;repeat' (first|refine Wz ?_|(refine SW.st (bo (k:=i) rfl rfl (by omega) (by omega)) rfl ?_))
  all_goals try omega
  refine SW.vK hO jG gh (by omega) rfl rfl rfl (by omega) (by omega) fun A2 c2 w2 qV => ?_
  have rY:Own w2 lo 142 4 bg A2 (i+1) c2 (l++[x])∧w.grownBy w2 (aX A c) ∧ ∀ k,aX A2 c2=some k→aX A c=some k∨w.heap.size≤k:=by
   rcases qV with ⟨rfl,rfl,h1,h2⟩|⟨h1,h2⟩
   ·exact ⟨h1,h2,fun k e => .inl e⟩
   ·exact ⟨h1.low gh,(aK (Ext.refl w) h2 (Nat.le_refl _) (fun k e=>by cases e)).gr _,fun k e => .inr (h1.aN k e)⟩
  obtain ⟨nu,hg,mP⟩:=rY;refine Wz ?_;refine ae.aF rfl rfl ⟨_,rfl,A2,c2,rfl,?_,hg,mP⟩;have e:aW l i x=l++[x]:=by unfold aW;rw [List.take_of_length_le (by omega),List.drop_eq_nil_of_le (by omega)];simp
  rw [e];exact nu
 ·by_cases iE:n+1≤c
  ·obtain ⟨g,rest,rfl,h1,h2,h3,h4,h5,h6⟩:=hO.opened (by omega);have Bs:g≠b:=fun e=>cQ (by rw [h6,e])
   have es:l.flatMap bg++rest=(l.take i).flatMap bg++((l.drop i).flatMap bg++rest):=by rw [← List.append_assoc,← List.flatMap_append,List.take_append_drop]
   have e1:((l.take i).flatMap bg).length=i*4:=by rw [nS];simp;omega
   have e2:((l.drop i).flatMap bg).length=(n-i)*4:=by rw [nS];simp [lz]
   have m8:=hO.sl.drop i c (by omega) (by omega);rw [if_neg (by omega)] at m8;rw [es] at h2
   have uK:∀ w',Ext w w'→(Extern.SlicesOverlaps.overlaps #[38,38] #[4] #[.slice (some ⟨b,0,none⟩) 1 1,.slice (if c=i+1 then (some ⟨g,0,none⟩) else (some (⟨g,0,none⟩ : Addr)).map (·.add ((i+1)*4))) (n+1-(i+1)) (c-(i+1))]).run Tryz.prog w' = .ok (.bool false) w':=fun w' hx=>by
    rw [if_neg (by omega),Option.map_some,c7];have b1:=hB.ext hx;have b2:=h2.ext hx;unfold aU at b1 b2
    exact Lib.run_overlaps_apart w' 38 4 142 (bj.iK (t:=38)) 4 (fun w0=>run_sizeOf (bj.size (t:=38)) w0) ⟨b,0,none⟩ ⟨g,(i+1)*4,none⟩ 1 1 _ _ (fun e=>Bs e.symm) 142 142 (bg x).toArray.size ((l.take i).flatMap bg++((l.drop i).flatMap bg++rest)).toArray.size
     (by simp only [World.shape?,b1]) (by simp only [World.shape?,b2]) (by simp [e1,e2];omega) (by simp [World.frozen?,b1]) (by simp [World.frozen?,b1])
   repeat' (first|refine Wz ?_|(refine CW.cU rfl ?_)|(refine SW.st (bo (k:=i) rfl rfl (by omega) (by omega)) rfl ?_)|(refine SW.st (db (k:=n+1) rfl rfl (by omega)) rfl ?_)|(refine SW.st (bo (k:=i+1) rfl rfl (by omega) (by omega)) rfl ?_)|(refine SW.entry Tryz.func235 (by kernel_rfl) (by kernel_rfl) (by kernel_rfl) (e:=Extern.SlicesOverlaps.overlaps #[38,38] #[4]) (by kernel_rfl) rfl rfl (uK _ hw) ?_))
   all_goals try omega
   have ub:((n-i)+1)*4≤((l.drop i).flatMap bg++rest).length:=by rw [List.length_append,e2];omega
   have e4:(l.drop i).flatMap bg++rest=((l.drop i).flatMap bg++rest).take 4++(((l.drop i).flatMap bg++rest).drop 4).take ((n-i)*4)++((l.drop i).flatMap bg++rest).drop (4+(n-i)*4):=by
    rw [List.append_assoc,← List.drop_drop,List.take_append_drop,List.take_append_drop]
   generalize Bt:((l.drop i).flatMap bg++rest).take 4=D1 at e4
   generalize Bu:(((l.drop i).flatMap bg++rest).drop 4).take ((n-i)*4)=D2 at e4
   generalize Bv:((l.drop i).flatMap bg++rest).drop (4+(n-i)*4)=D3 at e4
   have f1:D1.length=4:=by rw [← Bt];simp only [List.length_take];omega
   have f2:D2.length=(n-i)*4:=by rw [← Bu];simp only [List.length_take,List.length_drop];omega
   have f3:D3.length+4=rest.length:=by rw [← Bv];simp only [List.length_drop,List.length_append,e2];omega
   rw [e4] at h2;refine CW.any 8 mixed (bZ (by kernel_rfl)) rfl fun w1 ab bd => ?_
   replace hw:=Ext.trans hw ab;replace hO:=hO.ext ab;replace hB:=hB.ext ab;replace h2:=h2.ext ab;clear ab;refine Wa ?_;refine SA.take 4 bd rfl (by kernel_rfl) (by kernel_rfl) rfl ?_;repeat ((refine SW.st (bo (k:=i+1) rfl rfl (by omega) (by omega)) rfl ?_))
   refine SW.aq ?_;refine Wa ?_;refine SA.take 7 bd rfl (by kernel_rfl) (by kernel_rfl) rfl ?_;repeat ((refine SW.st (bo (k:=i) rfl rfl (by omega) (by omega)) rfl ?_))
   refine SW.aq ?_;refine SA.done (by kernel_rfl) ?_;refine SW.copy (k:=n-i) ((i+1)*4) ((l.drop i).flatMap bg) h2 rfl rfl rfl (by omega) e2 (by simp only [List.length_append,e1,e2,f1,f2];omega) (fun h0=>⟨by rw [if_neg (by omega)];simp [c7],(⟨g,0,none⟩ : Addr).add (i*4),by rw [if_neg (by omega)];rfl,fun j v hv=>dl (by omega) (m8.ext hw) j v hv⟩) (mO _) fun w3 lA qd => ?_
   have g1:=fw ((l.take i).flatMap bg++D1) D2 D3 ((l.drop i).flatMap bg) (by rw [e2,f2]) (o:=(i+1)*4) (by rw [List.length_append,e1,f1];omega);have g0:(l.take i).flatMap bg++(D1++D2++D3)=(l.take i).flatMap bg++D1++D2++D3:=by simp only [List.append_assoc]
   rw [g0,g1] at lA;have Br:=bi (hw.gr (aX (some ⟨g,0,none⟩) c)) qd (.inl h6.symm);have EM:=hB.grown qd (by simpa using fun e=>Bs e.symm);repeat' (first|refine Wz ?_|(refine SW.st (bo (k:=i) rfl rfl (by omega) (by omega)) rfl ?_))
   refine SW.copy (k:=1) (i*4) (bg x) lA rfl rfl rfl (by omega) lK (by simp only [List.length_append,e1,e2,f1,lK];omega) (fun h0=>⟨by rw [if_neg (by omega)];simp [c7],⟨b,0,none⟩,rfl,fun j v hv=>EM.cell hv⟩) (fM.one (enc:=bg) x) fun w4 pi ur => ?_
   have g2:=fw ((l.take i).flatMap bg) D1 ((l.drop i).flatMap bg++D3) (bg x) (by rw [lK,f1]) (o:=i*4) e1.symm;have g3:(l.take i).flatMap bg++D1++(l.drop i).flatMap bg++D3=(l.take i).flatMap bg++D1++((l.drop i).flatMap bg++D3):=by simp only [List.append_assoc]
   have g4:(l.take i).flatMap bg++bg x++((l.drop i).flatMap bg++D3)=(aW l i x).flatMap bg++D3:=by unfold aW;simp only [List.flatMap_append,List.flatMap_cons,List.flatMap_nil,List.append_nil,List.append_assoc]
   rw [g3,g2,g4] at pi;have Bw:=Own.closed (n:=n+1) (c:=c) (l:=aW l i x) (by unfold aW;simp;omega) pi (by omega) iE (by omega) h5 h1;have EN:=bi Br ur (.inl h6.symm);refine Wz ?_;exact ae.aF rfl rfl ⟨_,rfl,_,_,rfl,Bw,EN,fun k e => .inl e⟩
  ·have Hc:c=n:=by omega
   have m8:=hO.sl.drop i c (by omega) (by omega);have Bx:=hO.sl.pre (i:=i) (by omega);repeat' (first|refine Wz ?_|(refine SW.st (bo (k:=i) rfl rfl (by omega) (by omega)) rfl ?_)|(refine SW.st (db (k:=i) rfl rfl (by omega)) rfl ?_))
   all_goals try omega
   refine SW.vE (k:=n+1-i) Bx Tryz.underlying3 rfl rfl (by omega) rfl (by omega) (by omega) (by omega) (by omega) fun g rest c2 w2 cg xJ h2 h3 h4 h5 => ?_
   have e1:((l.take i).flatMap bg).length=i*4:=by rw [nS];simp;omega
   have e2:((l.drop i).flatMap bg).length=(n-i)*4:=by rw [nS];simp [lz]
   have ub:((n-i)+1)*4≤rest.length:=by omega
   have e4:rest=rest.take 4++(rest.drop 4).take ((n-i)*4)++rest.drop (4+(n-i)*4):=by
    rw [List.append_assoc,← List.drop_drop,List.take_append_drop,List.take_append_drop]
   generalize Bt:rest.take 4=D1 at e4
   generalize Bu:(rest.drop 4).take ((n-i)*4)=D2 at e4
   generalize Bv:rest.drop (4+(n-i)*4)=D3 at e4
   have f1:D1.length=4:=by rw [← Bt];simp only [List.length_take];omega
   have f2:D2.length=(n-i)*4:=by rw [← Bu];simp only [List.length_take,List.length_drop];omega
   have f3:D3.length+((n-i)+1)*4=rest.length:=by rw [← Bv];simp only [List.length_drop];omega
   rw [e4] at h2;have ez:aX A c≠some g:=fun e=>by have:=hO.lt_size _ e;omega
   have Bs:b≠g:=by have:=hB.lt;omega
   replace m8:=m8.ext cg;replace hB:=hB.ext cg;replace hw:=Ext.trans hw cg;repeat' (first|refine Wz ?_|(refine SW.st (bo (k:=i) rfl rfl (by omega) (by omega)) rfl ?_))
   refine SW.copy (k:=1) (i*4) (bg x) h2 rfl rfl rfl (by omega) lK (by simp only [List.length_append,e1,f1,f2,lK];omega) (fun h0=>⟨by rw [if_neg (by omega)];simp [c7],⟨b,0,none⟩,rfl,fun j v hv=>hB.cell hv⟩) (fM.one (enc:=bg) x) fun w3 lA qd => ?_
   have g2:=fw ((l.take i).flatMap bg) D1 (D2++D3) (bg x) (by rw [lK,f1]) (o:=i*4) e1.symm;have g3:(l.take i).flatMap bg++(D1++D2++D3)=(l.take i).flatMap bg++D1++(D2++D3):=by simp only [List.append_assoc]
   rw [g3,g2] at lA;have CX:Ext w w3:=hw.own xJ qd
   have mw:Sl w3 4 bg (if c=i then A else A.map (·.add (i*4))) (n-i) (l.drop i):=(hO.sl.drop i c (by omega) (by omega)).ext CX
   replace hw:=CX;refine Wz ?_;refine CW.any 8 mixed (bZ (by kernel_rfl)) rfl fun w1 ab bd => ?_
   replace hw:=Ext.trans hw ab;replace lA:=lA.ext ab;replace mw:=mw.ext ab;clear ab;refine Wa ?_;refine SA.take 4 bd rfl (by kernel_rfl) (by kernel_rfl) rfl ?_;repeat ((refine SW.st (bo (k:=i+1) rfl rfl (by omega) (by omega)) rfl ?_))
   refine SW.aq ?_;refine Wa ?_;refine SA.take 7 bd rfl (by kernel_rfl) (by kernel_rfl) rfl ?_;repeat ((refine SW.st (bo (k:=i) rfl rfl (by omega) (by omega)) rfl ?_))
   refine SW.aq ?_;refine SA.done (by kernel_rfl) ?_;refine SW.copy (k:=n-i) ((i+1)*4) ((l.drop i).flatMap bg) lA rfl rfl rfl (by omega) e2 (by simp only [List.length_append,e1,e2,f2,lK];omega) (fun h0=>⟨by rw [if_neg (by omega)];simp [c7],(if c=i then A else A.map (·.add (i*4))).getD default,?_,fun j v hv=>dl (by omega) mw j v hv⟩) (mO _) fun w4 pi ur => ?_
   ·obtain ⟨a,ha⟩:=Option.isSome_iff_exists.1 (mw.base h0);rw [ha];rfl
   ·have g4:=fw ((l.take i).flatMap bg++bg x) D2 D3 ((l.drop i).flatMap bg) (by rw [e2,f2]) (o:=(i+1)*4) (by rw [List.length_append,e1,lK];omega);have g5:(l.take i).flatMap bg++bg x++(D2++D3)=(l.take i).flatMap bg++bg x++D2++D3:=by simp only [List.append_assoc]
    have g6:(l.take i).flatMap bg++bg x++(l.drop i).flatMap bg++D3=(aW l i x).flatMap bg++D3:=by unfold aW;simp only [List.flatMap_append,List.flatMap_cons,List.flatMap_nil,List.append_nil,List.append_assoc]
    rw [g5,g4,g6] at pi;have Bw:=Own.closed (n:=n+1) (c:=c2) (lo:=lo) (l:=aW l i x) (by unfold aW;simp;omega) pi (by omega) (by omega) (by omega) h5 (by omega);have gf:Ext w w4:=hw.own xJ ur
    have e9:i+(n+1-i)=n+1:=by omega
    refine Wz ?_;rw [e9]
    exact ae.aF rfl rfl ⟨_,rfl,_,_,rfl,Bw,gf.gr _,fun k e => .inr (by
     have:k=g:=by
      unfold aX at e;split at e
      ·cases e
      ·simpa using e.symm
     omega)⟩
open Go.RowKit
theorem SW.jA {α:Type} {P:Program} {n:Nat} {ops:Array Oper} {Q:Exit→Act→World→Prop} {rest:List Oper} {L:Env} {w:World} {T:TypeId} {pos:String} {af:Array Edge} {lo:Nat} {e:TypeId} {sz:Nat} {enc : α → List Value} [E:fM enc sz] {A:Option Addr} {m c:Nat} {l:List α} {t:TypeId} [G:fR P t sz] {x y:Operand} (k:Nat) (x' : α)
 (hO:Own w lo e sz enc A m c l) (hx:bG L x=some (.pointer (some ((A.getD default).add (k*sz))))) (hy:bG L y=some (.agg (enc x').toArray)) (hk:k<m)
 (h:∀ w',Own w' lo e sz enc A m c (l.set k x')→w.grownBy w' (aX A c)→SW P n ops (.eG Q) rest L w') : SW P n ops (.eG Q) (⟨none,.store t x y,T,pos,af,none⟩::rest) L w :=
 ⟨fun a ha=>by
  have hc : 0<c:=by have:=hO.le;omega
  obtain ⟨g,r,rfl,gh,hB,hr,HD,HE,how⟩:=hO.opened hc;have cG:k<l.length:=by rw [hO.len];exact hk
  have kR:(k+1)*sz≤m*sz:=Nat.mul_le_mul_right _ hk
  rw [Nat.add_mul,Nat.one_mul] at kR;have nS:(l.flatMap enc).length=m*sz:=by rw [aO,hO.len]
  have e0:(((some (⟨g,0,none⟩ : Addr)).getD default).add (k*sz))=⟨g,k*sz,none⟩:=c7 g _
  rw [e0] at hx;have el:l=l.take k++[l[k]]++l.drop (k+1):=by simp
  have hX:((l.take k).flatMap enc).length=k*sz:=by rw [aO,List.length_take,Nat.min_eq_left (by omega)]
  have e1:l.flatMap enc++r=(l.take k).flatMap enc++enc l[k]++((l.drop (k+1)).flatMap enc++r):=by
   have e3:l.flatMap enc=(l.take k++[l[k]]++l.drop (k+1)).flatMap enc:=by rw [← el]
   rw [e3,List.flatMap_append,List.flatMap_append];simp only [List.flatMap_cons,List.flatMap_nil,List.append_nil,List.append_assoc]
  have og:=run_storeCells_at P g (k*sz) e (enc x') 0 (l.flatMap enc++r).toArray w hB (by simp only [List.size_toArray,List.length_append,nS,E.len];omega) (E.one x')
  have e2:((l.flatMap enc++r).toArray.toList.take (k*sz+0)++enc x'++(l.flatMap enc++r).toArray.toList.drop (k*sz+0+(enc x').length))=(l.set k x').flatMap enc++r:=by
   have:=fw ((l.take k).flatMap enc) (enc l[k]) ((l.drop (k+1)).flatMap enc++r) (enc x') (by rw [E.len,E.len]) hX.symm
   rw [← e1] at this;unfold lay at this;simp only [Nat.add_zero];rw [this,List.set_eq_take_append_cons_drop,if_pos cG];simp
  rw [e2] at og;simp only [swp,wpList,Region.wanted,if_true];refine .inl ?_;unfold Oper.wp
  have uU:(execOp a.eval ⟨none,.store t x y,T,pos,af,none⟩).run P w = .ok .skip (w.setRow g ((l.set k x').flatMap enc++r).toArray):=by
   simp [execOp,ha.eval hx,ha.eval hy,Instr.storeAt,Instr.sureAddr,storeVar,Value.cells,run_sizeOf G.size,E.len,og]
  rw [uU,Oper.upon_skip];obtain ⟨nU,wq⟩:=dG (cs:=(l.set k x').flatMap enc++r) hB;refine (h _ (Own.closed (by rw [List.length_set];exact hO.len) nU hr HD hc HE gh) ?_).out _ ha;rw [how];exact wq⟩
open Go.RowKit
set_option maxHeartbeats 4000000 in
theorem qy (A:Option Addr) (n c:Nat) (l:List Block) (x:Block) (w:World) (hl:Sl w 3 aE A n l) (hn:(n+1)*24≤140737488355328) :
 a9 Tryz.prog 160 [.slice A n c,.agg (aE x).toArray] w fun v w' => ∃ B c',v = .slice B (n+1) c'∧Own w' w.heap.size 165 3 aE B (n+1) c' (aW l (zR l x.At) x):=by
 refine aC Tryz.func160 rfl Tryz.ntmps160 rfl ?_;refine CW.seq (CW.region (SW.box rfl rfl fun b3 w1 hw bM ap => ?_));have bO:=bM;have Cr:∀ m,m≤n→(m+1)*24≤140737488355328:=fun m h=>Nat.le_trans (Nat.mul_le_mul_right 24 (Nat.succ_le_succ h)) hn
 clear hn;have hn:n≤1000000000000000000:=by have:=Cr n (Nat.le_refl _);omega
 have hA:=hl.base;have lz:=hl.len;obtain ⟨g,wj⟩ : ∃ g,zR l x.At=g:=⟨_,rfl⟩;have Eh:g≤l.length:=by rw [← wj];exact List.findIdx_le_length
 have D4:∀ h:g<l.length,x.At<l[g].At:=fun h=>by
  subst wj;have:=List.findIdx_getElem (w:=h)
  exact of_decide_eq_true this
 have xJ:∀ (j:Nat) (h:j<g),(l[j]'(by omega)).At≤x.At:=fun j h=>by
  subst wj;have:=List.not_of_lt_findIdx h
  simpa using this
 rw [wj];clear wj;refine Wz ?_
 refine CW.loop (fun s:Nat×Option Addr×Nat=>[(0,.slice A n c),(3,.pointer (some ⟨b3,0,none⟩)),(5,.slice s.2.1 (if g<s.1 then s.1+1 else s.1) s.2.2),(6,.bool (decide (g<s.1))),(7,.int .i64 (s.1:Int))])
  (fun s w'=>s.1≤n∧Ext w w'∧aU w' b3 165 (aE x)∧Own w' (b3+1) 165 3 aE s.2.1 (if g<s.1 then s.1+1 else s.1) s.2.2 (if g<s.1 then aW (l.take s.1) (g) x else l.take s.1)) (fun s=>n-s.1) (0,none,0)
  ⟨rfl,rfl,rfl,rfl,rfl,trivial⟩ ⟨by omega,hw,ap,by simpa using Own.er _ _ _ _ _ _⟩ ?_
 clear hw ap;rintro ⟨k,B,c'⟩ w' ⟨hk,hw,ap,hO⟩
 simp only at hk hO ⊢;have gh:b3+1≤w'.heap.size:=ap.lt
 by_cases cc:k<n
 ·have cG:=hl.lt cc;have et:=List.take_succ_eq_append_getElem cG;by_cases hd:g<k
  ·rw [if_pos hd,if_pos hd] at hO;rw [if_pos hd,decide_eq_true hd];repeat' (first|refine Wz ?_|((apply CW.aM mixed;(· kernel_rfl);rotate_left;intro w1 ab;replace hw:=Ext.trans hw ab;replace ap:=ap.ext ab;replace hO:=hO.ext ab;clear ab;rotate_right))|refine SW.skip rfl rfl rfl rfl ?_|refine SW.st (aA hw rfl rfl ((hl.all cc))) rfl ?_|exact SW.br rfl)
   refine SW.bW rfl rfl rfl rfl rfl fun b w1 ai hb hB => ?_
   (replace hw:=Ext.trans hw ai;replace ap:=ap.ext ai;replace hO:=hO.ext ai);refine SW.append hO (aU.kf (enc:=aE) hB) (by have:=ap.lt;omega) rfl rfl rfl (Cr _ (by omega)) (by omega) fun A2 c2 w2 e8 wN => ?_
   replace hw:=aK hw wN (Nat.le_trans bO (Nat.le_succ _)) hO.aN;replace ap:=ap.grown wN (fun e=>by have:=hO.aN b3 e.symm;omega);refine Wz ?_;refine ae.again (k+1,A2,c2) ⟨rfl,rfl,by simp only;rw [if_pos (show g<k+1 by omega)];rfl,by simp only;rw [decide_eq_true (show g<k+1 by omega)];rfl,rfl,trivial⟩ (by simp only;omega) ⟨by simp only;omega,hw,ap,?_⟩;simp only;rw [if_pos (by omega),if_pos (by omega)]
   have e:aW (l.take (k+1)) (g) x=aW (l.take k) (g) x++[l[k]]:=by
    unfold aW;rw [et,List.take_append_of_le_length (by simp;omega),List.drop_append_of_le_length (by simp;omega)];simp only [List.append_assoc]
   rw [e];exact e8
  ·rw [if_neg hd,if_neg hd] at hO;rw [if_neg hd,decide_eq_false hd];by_cases qb:g=k
   ·have I1:x.At<l[k].At:=by subst qb;exact D4 cG
    repeat' (first|refine Wz ?_|((apply CW.aM mixed;(· kernel_rfl);rotate_left;intro w1 ab;replace hw:=Ext.trans hw ab;replace ap:=ap.ext ab;replace hO:=hO.ext ab;clear ab;rotate_right))|refine SW.want rfl rfl ?_|refine SW.st (ag hw rfl (hl.fE cc rfl)) rfl ?_|exact SW.br rfl)
    refine SW.bW rfl rfl rfl rfl rfl fun b w1 ai hb hB => ?_
    (replace hw:=Ext.trans hw ai;replace ap:=ap.ext ai;replace hO:=hO.ext ai);refine SW.append hO (aU.kf (enc:=aE) hB) (by have:=ap.lt;omega) rfl rfl rfl (Cr _ (by omega)) (by omega) fun A2 c2 w2 e8 wN => ?_
    replace hw:=aK hw wN (Nat.le_trans bO (Nat.le_succ _)) hO.aN;replace ap:=ap.grown wN (fun e=>by have:=hO.aN b3 e.symm;omega);repeat' (first|refine Wz ?_|refine SW.st (aA hw rfl rfl ((hl.all cc))) rfl ?_)
    refine SW.bW rfl rfl rfl rfl rfl fun b w1 ai hb hB => ?_
    (replace hw:=Ext.trans hw ai;replace ap:=ap.ext ai;replace e8:=e8.ext ai);refine SW.append e8 (aU.kf (enc:=aE) hB) (by have:=ap.lt;omega) rfl rfl rfl (Cr _ (by omega)) (by omega) fun A3 c3 w3 nu wN => ?_
    replace hw:=aK hw wN (Nat.le_trans bO (Nat.le_succ _)) e8.aN;replace ap:=ap.grown wN (fun e=>by have:=e8.aN b3 e.symm;omega);refine Wz ?_;refine ae.again (k+1,A3,c3) ⟨rfl,rfl,by simp only;rw [if_pos (show g<k+1 by omega)];rfl,by simp only;rw [decide_eq_true (show g<k+1 by omega)];rfl,rfl,trivial⟩ (by simp only;omega) ⟨by simp only;omega,hw,ap,?_⟩;simp only;rw [if_pos (by omega),if_pos (by omega)]
    have e:aW (l.take (k+1)) (g) x=l.take k++[x]++[l[k]]:=by
     unfold aW;rw [qb,et,List.take_append_of_le_length (by simp;omega),List.drop_append_of_le_length (by simp;omega),List.take_of_length_le (by simp;omega),List.drop_eq_nil_of_le (by simp;omega)];simp
    rw [e];exact nu
   ·have hle:l[k].At≤x.At:=xJ k (by omega)
    repeat' (first|refine Wz ?_|((apply CW.aM mixed;(· kernel_rfl);rotate_left;intro w1 ab;replace hw:=Ext.trans hw ab;replace ap:=ap.ext ab;replace hO:=hO.ext ab;clear ab;rotate_right))|refine SW.want rfl rfl ?_|refine SW.st (aA hw rfl rfl ((hl.all cc))) rfl ?_|refine SW.st (ag hw rfl (hl.fE cc rfl)) rfl ?_|exact SW.br rfl)
    refine SW.bW rfl rfl rfl rfl rfl fun b w1 ai hb hB => ?_
    (replace hw:=Ext.trans hw ai;replace ap:=ap.ext ai;replace hO:=hO.ext ai);refine SW.append hO (aU.kf (enc:=aE) hB) (by have:=ap.lt;omega) rfl rfl rfl (Cr _ (by omega)) (by omega) fun A2 c2 w2 e8 wN => ?_
    replace hw:=aK hw wN (Nat.le_trans bO (Nat.le_succ _)) hO.aN;replace ap:=ap.grown wN (fun e=>by have:=hO.aN b3 e.symm;omega);refine Wz ?_;refine ae.again (k+1,A2,c2) ⟨rfl,rfl,by simp only;rw [if_neg (show ¬ g<k+1 by omega)];rfl,by simp only;rw [decide_eq_false (show ¬ g<k+1 by omega)];rfl,rfl,trivial⟩ (by simp only;omega) ⟨by simp only;omega,hw,ap,?_⟩;simp only;rw [if_neg (by omega),if_neg (by omega),et];exact e8
 ·obtain rfl:k=n:=by omega
  rw [List.take_of_length_le (by omega)] at hO;by_cases hd:g<k
  ·rw [if_pos hd,if_pos hd] at hO;rw [if_pos hd,decide_eq_true hd];repeat' (first|refine Wz ?_|(refine CW.cj rfl ?_))
   exact ae.aF rfl rfl ⟨_,rfl,hw,_,_,rfl,hO.low (by omega)⟩
  ·rw [if_neg hd,if_neg hd] at hO;rw [if_neg hd,decide_eq_false hd];repeat' (first|refine Wz ?_|(refine CW.cU rfl ?_))
   refine SW.bW rfl rfl rfl rfl rfl fun b w1 ai hb hB => ?_
   (replace hw:=Ext.trans hw ai;replace ap:=ap.ext ai;replace hO:=hO.ext ai);refine SW.append hO (aU.kf (enc:=aE) hB) (by have:=ap.lt;omega) rfl rfl rfl (Cr _ (by omega)) (by omega) fun A2 c2 w2 e8 wN => ?_
   replace hw:=aK hw wN (Nat.le_trans bO (Nat.le_succ _)) hO.aN;refine Wz ?_;refine ae.aF rfl rfl ⟨_,rfl,hw,_,_,rfl,?_⟩
   have e:aW l (g) x=l++[x]:=by
    unfold aW;rw [List.take_of_length_le (by omega),List.drop_eq_nil_of_le (by omega)];simp
   rw [e];exact e8.low (by omega)
theorem wO (a o:Int) (b9:Nat) (x:Block) (w:World) (h9:aU w b9 165 (aE ⟨a,o,0⟩)) (ho : 0≤o∧o≤4) (ha : 0≤a∧a≤256) (hx : 0≤x.At∧x.At≤256) (hy : 0≤x.Order∧x.Order≤4) :
 a9 Tryz.prog 233 ([.agg (aE x).toArray]++[.pointer (some ⟨b9,0,none⟩)]) w fun v _=>v = .bool (decide (x.At<a+pw o) && decide (a<x.At+pw x.Order)):=by
 refine aC Tryz.func233 rfl Tryz.ntmps233 rfl ?_;refine CW.seq (CW.region (SW.box rfl rfl fun b2 w1 hw ff ax => ?_));replace h9:=h9.ext hw;have c1:∀ w',a9 Tryz.prog 230 [.agg (aE ⟨a,o,0⟩).toArray] w' fun v _=>v = .int .i64 (a+pw o):=fun w'=>oX ⟨a,o,0⟩ w' ho ha
 have c2:∀ w',a9 Tryz.prog 230 [.agg (aE x).toArray] w' fun v _=>v = .int .i64 (x.At+pw x.Order):=fun w'=>oX x w' hy hx
 by_cases h1:x.At<a+pw o
 ·repeat' (first|refine Wz ?_|((apply CW.aM mixed;(· kernel_rfl);rotate_left;intro w1 ab;replace hw:=Ext.trans hw ab;replace ax:=ax.ext ab;replace h9:=h9.ext ab;clear ab;rotate_right))|refine SW.bf rfl rfl (fun w1 ab=>(c1 _)) ?_|refine SW.bf rfl rfl (fun w1 ab=>(c2 _)) ?_|exact SW.br rfl)
  exact ae.aF rfl rfl ⟨_,rfl,hw,by simp [h1]⟩
 ·repeat' (first|refine Wz ?_|((apply CW.aM mixed;(· kernel_rfl);rotate_left;intro w1 ab;replace hw:=Ext.trans hw ab;replace ax:=ax.ext ab;replace h9:=h9.ext ab;clear ab;rotate_right))|refine SW.bf rfl rfl (fun w1 ab=>(c1 _)) ?_|exact SW.br rfl)
  exact ae.aF rfl rfl ⟨_,rfl,hw,by simp [h1]⟩
theorem mF (r:cJ) (z:ay) (w:World) (hr:p7 w r z) (hn:r.ao.n*24≤140737488355328) (hm:r.Types.n*8≤140737488355328) :
 a9 Tryz.prog 87 [.agg (cd r).toArray] w fun v w' => ∃ s,v = .agg (cd s).toArray∧eV w' w.heap.size s z:=by
 refine aC Tryz.func87 rfl Tryz.ntmps87 rfl ?_;refine CW.seq (CW.region (SW.box rfl rfl fun b w1 hw hb hB => ?_));refine SW.alloc rfl fun b2 w2 cg ff ax => ?_
 have oT:w.heap.size≤b2:=Nat.le_trans hw.size ff
 (replace hw:=Ext.trans hw cg;replace hB:=hB.ext cg);refine Wz ?_;refine CW.any 10 mixed (bZ (by kernel_rfl)) rfl fun w1 ab bd => ?_
 replace hw:=Ext.trans hw ab;replace hB:=hB.ext ab;replace ax:=ax.ext ab;clear ab;refine Wa ?_;refine SA.one 6 rfl (by kernel_rfl) rfl ?_;refine SW.call rfl rfl (jJ _ _ _ _ _ (hr.free.ext hw) hn) fun v w4 ai hv => ?_
 obtain ⟨X,c4,rfl,hX⟩:=hv;replace hX:=hX.low hw.size;(replace hw:=Ext.trans hw ai;replace hB:=hB.ext ai;replace ax:=ax.ext ai);refine SW.nil (ae.sa ai ?_);refine SA.one 9 rfl (by kernel_rfl) rfl ?_;refine SW.call rfl rfl (eH _ _ _ _ _ (hr.types.ext hw) hm) fun v w4 ai hv => ?_
 obtain ⟨Y,d4,rfl,hY⟩:=hv;replace hY:=hY.low hw.size;(replace hw:=Ext.trans hw ai;replace hB:=hB.ext ai;replace ax:=ax.ext ai;replace hX:=hX.ext ai);refine SW.nil (ae.sa ai ?_);refine SA.done (by kernel_rfl) ?_;refine Wz ?_;refine SW.aj ax rfl rfl rfl rfl (dh ⟨r.aR,r.To,⟨X,r.ao.n,c4⟩,⟨Y,r.Types.n,d4⟩⟩) fun w7 bV hg => ?_
 have hG:=ax.gr hg;replace hw:=hw.own oT hg;(replace hX:=hX.aD hG rfl;replace hY:=hY.aD hG rfl);refine Wz ?_;exact ae.jY rfl rfl bV rfl ⟨_,rfl,hw,⟨r.aR,r.To,⟨X,r.ao.n,c4⟩,⟨Y,r.Types.n,d4⟩⟩,rfl,⟨hr.from_,hr.jF,hX,hY⟩⟩
open Go.RowKit
structure uW (z:ay) (a o:Int) (f:Nat) (l:List Block) (a' o':Int) : Prop where
 ok:vZ z.aR z.To l a' o'
 eq:dY 5 z.ao a o=dY f l a' o'
 fuel : 5≤(f:Int)+o'
 len:l.length≤z.ao.length
theorem uW.stop {z:ay} {a o:Int} {f:Nat} {l:List Block} {a' o':Int} (h:uW z a o f l a' o') (ho : ¬ o'<4∨l.any (lV (beside a' o') o')=false) : dY 5 z.ao a o=(l,a',o'):=by
 rw [h.eq];cases f with
 | zero=>rfl
 | succ f =>
   simp only [dY];rcases ho with h1|h1
   ·rw [if_neg h1]
   ·simp [h1]
theorem uW.next {z:ay} {a o:Int} {f:Nat} {l:List Block} {a' o':Int} (h:uW z a o f l a' o') (h0 : 0≤z.aR) (ho:o'<4) (jk:l.any (lV (beside a' o') o')=true) : ∃ f',uW z a o f' (ba l (beside a' o') o') (min a' (beside a' o')) (o'+1):=by
 have hf:=h.fuel;obtain ⟨g,rfl⟩ : ∃ g,f=g+1:=⟨f-1,by omega⟩;refine ⟨g,h.ok.step h0 ho jk,?_,by omega,Nat.le_trans (List.length_filter_le _ _) h.len⟩;rw [h.eq];simp only [dY,if_pos ho,jk,if_true]
set_option maxHeartbeats 8000000 in
theorem rh (r:cJ) (z:ay) (a o:Int) (w:World) (hr:p7 w r z) (hf:(r.ao.n+1)*24≤140737488355328) (ht:r.Types.n*8≤140737488355328) (h1 : -9223372036854775808≤r.aR∧r.aR≤9223372036854775807) (h2 : -9223372036854775808≤r.To∧r.To≤9223372036854775807) :
 a9 Tryz.prog 192 [.agg (cd r).toArray,.int .i64 a,.int .i64 o] w (om w.heap.size (ec z a o)):=by
 refine aC Tryz.func192 rfl Tryz.ntmps192 rfl ?_;refine CW.seq (CW.region (SW.box rfl rfl fun b3 w1 hw bM ap => ?_));refine SW.alloc rfl fun b6 w2 cg eJ aB => ?_
 have cX:w.heap.size≤b6:=Nat.le_trans hw.size eJ
 have pM:b3≠b6:=by have:=ap.lt;omega
 (replace hw:=Ext.trans hw cg;replace ap:=ap.ext cg);have eF:=hr.from_;have eT:=hr.jF;have D9:=hr.free.len;have Ea:=hr.types.len;obtain ⟨q,hq⟩ : ∃ q,fa z=q:=⟨_,rfl⟩
 have c1:∀ w',Ext w w'→a9 Tryz.prog 176 [.agg (cd r).toArray] w' fun v _=>v = .int .i64 (if q then 0 else 8):=fun w' h=>by
  have:=jP r z w' (hr.ext h) (by omega) (by omega) h1 h2
  rwa [hq] at this
 cases q
 ·simp only [Bool.false_eq_true,if_false] at c1;rw [rO hq];repeat' (first|refine Wz ?_|(refine SW.call rfl rfl (c1 _ hw) ?_;intro v w1 ab hv;subst hv;replace hw:=Ext.trans hw ab;replace ap:=ap.ext ab;replace aB:=aB.ext ab;clear ab))
  refine SW.aj aB rfl rfl rfl rfl (dh .zero) fun w5 bV hg => ?_
  replace hw:=hw.own cX hg;refine Wz ?_;exact ae.bQ rfl rfl rfl bV rfl ⟨_,rfl,hw,.zero,rfl,eV.zero _ _⟩
 ·simp only [if_true] at c1;have hz:=dz.1 hq;obtain ⟨o1,o2,o3,o4,o5⟩:=hz.ok;repeat' (first|refine Wz ?_|(refine SW.call rfl rfl (c1 _ hw) ?_;intro v w1 ab hv;subst hv;replace hw:=Ext.trans hw ab;replace ap:=ap.ext ab;replace aB:=aB.ext ab;clear ab))
  clear c1;refine SW.alloc rfl fun b9 w1 ab jl cn => ?_
  skip;refine SW.aj cn rfl rfl rfl rfl (fM.one (enc:=aE) ⟨a,o,0⟩) fun w2 fu hg => ?_
  have ai:=ab.own jl hg;have mz:w.heap.size≤b9:=Nat.le_trans hw.size jl
  replace hw:=Ext.trans hw ai;replace ap:=ap.ext ai;replace aB:=aB.ext ai;replace cn:=fu;clear fu ab hg ai
  have cF:∀ w',a9 Tryz.prog 229 [.agg (cd r).toArray,.agg (aE ⟨a,o,0⟩).toArray] w' fun v _=>v = .bool (decide (dJ z.aR z.To a o)):=fun w'=>by
   have:=kQ r ⟨a,o,0⟩ w' (by omega)
   rwa [eF,eT] at this
  by_cases gn:dJ z.aR z.To a o
  ·rw [decide_eq_true gn] at cF;obtain ⟨f1,f2,f3,f4,f5⟩:=id gn
   have cC:∀ w',Ext w w'→aU w' b9 165 (aE ⟨a,o,0⟩)→a9 Tryz.prog 226 [.slice r.ao.A r.ao.n r.ao.c,.func (.func 233) #[] [.pointer (some ⟨b9,0,none⟩)].toArray] w' fun v _=>v = .bool (dZ z.ao a o):=fun w' hx h9 =>
    j6 _ _ _ _ _ (hr.free.ext hx) _ [.pointer (some ⟨b9,0,none⟩)] (fun x=>decide (x.At<a+pw o) && decide (a<x.At+pw x.Order)) (fun x => .agg (aE x).toArray) (fun x=>rfl)
     (fun x HF w1 jG=>by
       obtain ⟨i,hi,rfl⟩:=List.getElem_of_mem HF;obtain ⟨g1,g2,g3,g4,g5⟩:=(hz.gd i hi).1;exact wO a o b9 _ w1 (h9.ext jG) ⟨f1,f2⟩ ⟨by omega,by omega⟩ ⟨by omega,by omega⟩ ⟨g1,g2⟩) (by omega)
   cases uK:dZ z.ao a o
   ·rw [uK] at cC;have BP:=ml (f:=0) (t:=0) hz gn uK;repeat' (first|refine Wz ?_|(refine CW.cj rfl ?_)|((first|refine SW.call rfl rfl (cF _) ?_|refine SW.call rfl rfl (cC _ hw cn) ?_);intro v w1 ab hv;subst hv;replace hw:=Ext.trans hw ab;replace ap:=ap.ext ab;replace aB:=aB.ext ab;replace cn:=cn.ext ab;clear ab)|(refine SW.st (fT (vs:=[.pointer (some ⟨b9,0,none⟩)]) rfl) rfl ?_))
    have Dc:b9+1≤_:=cn.lt
    refine SW.call rfl rfl (qL r z _ (hr.ext hw) (by omega) ht) fun v w4 gf hv => ?_
    obtain ⟨s,rfl,hs,e1,e2⟩:=hv;replace hs:=hs.low Dc;(replace hw:=Ext.trans hw gf;replace ap:=ap.ext gf;replace aB:=aB.ext gf;replace cn:=cn.ext gf);clear Dc cC cF;skip;refine SW.aj ap rfl rfl rfl rfl (dh s) fun w5 de hg => ?_
    have hG:=ap.gr hg;replace hw:=hw.own bM hg;(replace cn:=cn.aD hG rfl);have hX:=hs.free.aD hG rfl;have hT:=hs.types.aD hG rfl;replace aB:=aB.grown hg (by simpa using pM.symm);replace ap:=de;have es:s.ao.n=z.ao.length:=by rw [e1,D9]
    have E8:s=⟨s.aR,s.To,⟨s.ao.A,z.ao.length,s.ao.c⟩,s.Types⟩:=by rw [← es]
    have sF:=hs.from_;have sT:=hs.jF;rw [es] at hX;rw [E8] at ap;clear de hg hG hs;refine Wz ?_
    obtain ⟨K,hK⟩ : ∃ K:Env→World→Prop,K=fun L' w' => ∃ l a' o' A c,gj L' [(3,.pointer (some ⟨b3,0,none⟩)),(6,.pointer (some ⟨b6,0,none⟩)),(9,.pointer (some ⟨b9,0,none⟩))]∧Ext w w'∧aU w' b3 139 [.int .i64 s.aR,.int .i64 s.To,.slice A l.length c,.slice s.Types.A s.Types.n s.Types.c]∧aU w' b6 139 (cd .zero)∧aU w' b9 165 [.int .i64 a',.int .i64 o',.int .i64 0] ∧
     Own w' (b9+1) 165 3 aE A l.length c l∧Own w' (b9+1) 3 1 bm s.Types.A s.Types.n s.Types.c z.Types∧vZ z.aR z.To l a' o'∧dY 5 z.ao a o=(l,a',o')∧l.length≤z.ao.length:=⟨_,rfl⟩
    refine CW.CU K ?_ ?_
    ·refine CW.loop (fun u:Nat×List Block×Int×Int×Option Addr×Nat=>[(3,.pointer (some ⟨b3,0,none⟩)),(6,.pointer (some ⟨b6,0,none⟩)),(9,.pointer (some ⟨b9,0,none⟩))])
      (fun u w'=>Ext w w'∧aU w' b3 139 [.int .i64 s.aR,.int .i64 s.To,.slice u.2.2.2.2.1 u.2.1.length u.2.2.2.2.2,.slice s.Types.A s.Types.n s.Types.c]∧aU w' b6 139 (cd .zero)∧aU w' b9 165 [.int .i64 u.2.2.1,.int .i64 u.2.2.2.1,.int .i64 0] ∧
        Own w' (b9+1) 165 3 aE u.2.2.2.2.1 u.2.1.length u.2.2.2.2.2 u.2.1∧Own w' (b9+1) 3 1 bm s.Types.A s.Types.n s.Types.c z.Types∧uW z a o u.1 u.2.1 u.2.2.1 u.2.2.2.1) (fun u=>(5-u.2.2.2.1).toNat) (5,z.ao,a,o,s.ao.A,s.ao.c)
      ⟨rfl,rfl,rfl,trivial⟩ ⟨hw,ap,aB,cn,hX,hT,⟨BP,rfl,by simp only;omega,Nat.le_refl _⟩⟩ ?_
     clear hw ap aB cn hX hT BP;rintro ⟨f,l,a',o',A,c⟩ w' ⟨hw,ap,aB,cn,hX,hT,hJ⟩
     simp only at ap cn hX hJ ⊢;obtain ⟨k1,k2,k3,k4,k5⟩:=hJ.ok.fit;have hlen:=hJ.len;have hp:=cu k1 k2;by_cases xz:o'<4
     ·obtain ⟨m1,m2,m3⟩:=lG (by omega) k1 xz k5;generalize lS:beside a' o'=j8 at m1 m2 m3
      have zq:=v3 hJ.ok.qQ hJ.ok.gd j8 o'
      have cD:∀ w1,Ext w' w1→a9 Tryz.prog 234 [.agg (cd ⟨s.aR,s.To,⟨A,l.length,c⟩,s.Types⟩).toArray,.int .i64 j8] w1 fun v _=>v = .tuple #[.int .i64 (bF l j8:Int),.bool (bc l j8)]:=fun w1 hx =>
       qU ⟨s.aR,s.To,⟨A,l.length,c⟩,s.Types⟩ l z.aR z.To j8 w1 (hX.sl.ext hx) hJ.ok.qQ hJ.ok.gd o1 (by omega) (by simp only;omega) ⟨by omega,by omega⟩
      by_cases uh:bF l j8<l.length∧(∀ h:bF l j8<l.length,(l[bF l j8]).At=j8∧(l[bF l j8]).Order=o')
      ·obtain ⟨uh,hh⟩:=uh;obtain ⟨nc,tp⟩:=hh uh;have BQ:bc l j8=true:=by unfold bc;rw [dif_pos uh];exact decide_eq_true nc
       have E9:mY l j8 o'=true:=by unfold mY;rw [dif_pos uh];exact decide_eq_true ⟨nc,tp⟩
       rw [E9] at zq;rw [BQ] at cD;have HG:=qo hJ.ok.qQ hJ.ok.gd uh nc tp;have hA:=hX.sl.base;generalize Eh:bF l j8=lb at *
       have Cs:∀ x,x=beside a' o'→x=j8:=fun x e=>e.trans lS
       refine Wz ?_;(apply CW.aM mixed;(· kernel_rfl);rotate_left;intro w1 ab;replace hw:=Ext.trans hw ab;replace ap:=ap.ext ab;replace aB:=aB.ext ab;replace cn:=cn.ext ab;replace hX:=hX.ext ab;replace hT:=hT.ext ab;clear ab;rotate_right);repeat' (first|refine Wz ?_|refine SW.bf rfl rfl (fun w1 ab=>(cD _ ab)) ?_|(refine SW.st (fB (r:=pw o') rfl rfl (by omega) (by omega) (by simp [pw]) (by omega) (by omega)) rfl ?_)|(refine SW.st ((ir a' o' rfl rfl rfl rfl ⟨by omega,by omega,k1,xz,k5⟩).eq (congrArg (Value.int .i64) lS)) rfl ?_)|exact SW.br rfl)
       (apply CW.aM mixed;(· kernel_rfl);rotate_left;intro w1 ab;replace hw:=Ext.trans hw ab;replace ap:=ap.ext ab;replace aB:=aB.ext ab;replace cn:=cn.ext ab;replace hX:=hX.ext ab;replace hT:=hT.ext ab;clear ab;rotate_right);repeat' (first|refine Wz ?_|refine SW.want rfl rfl ?_|refine SW.st (az rfl (hX.sl.fE uh rfl)) rfl ?_|exact SW.br rfl)
       refine CW.any 8 mixed (bZ (by kernel_rfl)) rfl fun w1 ab bd => ?_
       replace hw:=Ext.trans hw ab;replace ap:=ap.ext ab;replace aB:=aB.ext ab;replace cn:=cn.ext ab;replace hX:=hX.ext ab;replace hT:=hT.ext ab;clear ab;refine Wa ?_;refine SA.take 7 bd rfl (by kernel_rfl) (by kernel_rfl) rfl ?_;repeat ((show SW _ _ _ _ (⟨_,Op.load _ _,_,_,_,none⟩::_) _ _;refine SW.st (az rfl (hX.sl.fE uh rfl)) rfl ?_))
       refine SW.aq ?_;refine SA.done (by kernel_rfl) ?_;repeat' (first|refine Wz ?_|(refine SW.st (A8 rfl rfl) rfl ?_))
       refine SW.bT (i:=0) cn rfl rfl rfl rfl fun w5 fu hg => ?_
       have hG:=cn.gr hg;replace hw:=hw.own mz hg;replace hX:=hX.grown hg (.inr (fun e=>by have:=hX.aN _ e;omega));(replace ap:=ap.aD hG rfl;replace aB:=aB.aD hG rfl;replace hT:=hT.aD hG rfl);replace cn:=fu;clear fu hg hG;refine Wz ?_;refine SW.bT (i:=1) cn rfl rfl rfl rfl fun w5 fu hg => ?_
       have hG:=cn.gr hg;replace hw:=hw.own mz hg;replace hX:=hX.grown hg (.inr (fun e=>by have:=hX.aN _ e;omega));(replace ap:=ap.aD hG rfl;replace aB:=aB.aD hG rfl;replace hT:=hT.aD hG rfl);replace cn:=fu;clear fu hg hG;refine Wz ?_;refine SW.ie rfl rfl (j0 A l.length c _ l _ hX lb uh (by omega) (by have:=cn.lt;omega)) fun v w6 hv => ?_
       obtain ⟨rfl,zt,hg⟩:=hv;have hG:=hX.gr hg;replace hw:=aK hw hg (Nat.le_trans mz (Nat.le_succ _)) hX.aN;replace cn:=cn.grown hg (fun e=>by have:=hX.aN _ e.symm;omega);(replace ap:=ap.aD hG rfl;replace aB:=aB.aD hG rfl;replace hT:=hT.aD hG rfl);clear hg hG;have vG:l.length-1=(l.eraseIdx lb).length:=by rw [List.length_eraseIdx_of_lt uh]
       rw [vG] at zt;rw [vG];refine Wz ?_;refine SW.bT (i:=2) ap rfl rfl rfl rfl fun w7 de hg => ?_
       have hG:=ap.gr hg;replace hw:=hw.own bM hg;replace aB:=aB.grown hg (by simpa using pM.symm);(replace cn:=cn.aD hG rfl;replace zt:=zt.aD hG rfl;replace hT:=hT.aD hG rfl);refine Wz ?_;obtain ⟨f',zu⟩:=hJ.next o1 xz (by rw [lS];exact zq)
       rw [lS,← HG] at zu;refine ae.again (f',l.eraseIdx lb,min a' j8,o'+1,A,c) ⟨rfl,rfl,rfl,trivial⟩ (by simp only;omega) ⟨hw,de,aB,?_,zt,hT,zu⟩;rw [nc] at cn;exact cn
      ·have E9:mY l j8 o'=false:=by
        unfold mY;by_cases h:bF l j8<l.length
        ·rw [dif_pos h];exact decide_eq_false (fun hh=>uh ⟨h,fun _=>hh⟩)
        ·rw [dif_neg h]
       rw [E9] at zq;have og:=hJ.stop (.inr (by rw [lS];exact zq))
       have Fa:∀ w1,Ext w w1→aU w1 b3 139 [.int .i64 s.aR,.int .i64 s.To,.slice A l.length c,.slice s.Types.A s.Types.n s.Types.c]→aU w1 b6 139 (cd .zero)→aU w1 b9 165 [.int .i64 a',.int .i64 o',.int .i64 0]→Own w1 (b9+1) 165 3 aE A l.length c l→Own w1 (b9+1) 3 1 bm s.Types.A s.Types.n s.Types.c z.Types → ∀ L',gj L' [(3,.pointer (some ⟨b3,0,none⟩)),(6,.pointer (some ⟨b6,0,none⟩)),(9,.pointer (some ⟨b9,0,none⟩))]→K L' w1:=fun w1 x1 x2 x3 x4 x5 x6 L' x7=>by
        rw [hK];exact ⟨l,a',o',A,c,x7,x1,x2,x3,x4,x5,x6,hJ.ok,og,hJ.len⟩
       by_cases vG:bF l j8<l.length
       ·have hA:=hX.sl.base;by_cases nc:(l[bF l j8]).At=j8
        ·have tp : ¬ (l[bF l j8]).Order=o':=fun h=>uh ⟨vG,fun _=>⟨nc,h⟩⟩
         have BQ:bc l j8=true:=by unfold bc;rw [dif_pos vG];exact decide_eq_true nc
         rw [BQ] at cD;generalize Eh:bF l j8=lb at *
         repeat' (first|refine Wz ?_|((apply CW.aM mixed;(· kernel_rfl);rotate_left;intro w1 ab;replace hw:=Ext.trans hw ab;replace ap:=ap.ext ab;replace aB:=aB.ext ab;replace cn:=cn.ext ab;replace hX:=hX.ext ab;replace hT:=hT.ext ab;clear ab;rotate_right))|refine SW.want rfl rfl ?_|refine SW.st (az rfl (hX.sl.fE vG rfl)) rfl ?_|refine SW.bf rfl rfl (fun w1 ab=>(cD _ ab)) ?_|(refine SW.st (fB (r:=pw o') rfl rfl (by omega) (by omega) (by simp [pw]) (by omega) (by omega)) rfl ?_)|(refine SW.st ((ir a' o' rfl rfl rfl rfl ⟨by omega,by omega,k1,xz,k5⟩).eq (congrArg (Value.int .i64) lS)) rfl ?_)|exact SW.br rfl)
         exact ae.uJ (K:=K) (Fa _ hw ap aB cn hX hT _ ⟨rfl,rfl,rfl,trivial⟩)
        ·have BQ:bc l j8=false:=by unfold bc;rw [dif_pos vG];exact decide_eq_false nc
         rw [BQ] at cD;generalize Eh:bF l j8=lb at *
         repeat' (first|refine Wz ?_|((apply CW.aM mixed;(· kernel_rfl);rotate_left;intro w1 ab;replace hw:=Ext.trans hw ab;replace ap:=ap.ext ab;replace aB:=aB.ext ab;replace cn:=cn.ext ab;replace hX:=hX.ext ab;replace hT:=hT.ext ab;clear ab;rotate_right))|refine SW.skip rfl rfl rfl rfl ?_|refine SW.bf rfl rfl (fun w1 ab=>(cD _ ab)) ?_|(refine SW.st (fB (r:=pw o') rfl rfl (by omega) (by omega) (by simp [pw]) (by omega) (by omega)) rfl ?_)|(refine SW.st ((ir a' o' rfl rfl rfl rfl ⟨by omega,by omega,k1,xz,k5⟩).eq (congrArg (Value.int .i64) lS)) rfl ?_)|exact SW.br rfl)
         exact ae.uJ (K:=K) (Fa _ hw ap aB cn hX hT _ ⟨rfl,rfl,rfl,trivial⟩)
       ·have BQ:bc l j8=false:=by unfold bc;rw [dif_neg vG]
        rw [BQ] at cD;generalize Eh:bF l j8=lb at *
        repeat' (first|refine Wz ?_|((apply CW.aM mixed;(· kernel_rfl);rotate_left;intro w1 ab;replace hw:=Ext.trans hw ab;replace ap:=ap.ext ab;replace aB:=aB.ext ab;replace cn:=cn.ext ab;replace hX:=hX.ext ab;replace hT:=hT.ext ab;clear ab;rotate_right))|refine SW.skip rfl rfl rfl rfl ?_|refine SW.bf rfl rfl (fun w1 ab=>(cD _ ab)) ?_|(refine SW.st (fB (r:=pw o') rfl rfl (by omega) (by omega) (by simp [pw]) (by omega) (by omega)) rfl ?_)|(refine SW.st ((ir a' o' rfl rfl rfl rfl ⟨by omega,by omega,k1,xz,k5⟩).eq (congrArg (Value.int .i64) lS)) rfl ?_)|exact SW.br rfl)
        exact ae.uJ (K:=K) (Fa _ hw ap aB cn hX hT _ ⟨rfl,rfl,rfl,trivial⟩)
     ·refine Wz ?_;exact ae.uJ (K:=K) (by rw [hK];exact ⟨l,a',o',A,c,⟨rfl,rfl,rfl,trivial⟩,hw,ap,aB,cn,hX,hT,hJ.ok,hJ.stop (.inl xz),hJ.len⟩)
    ·clear hw ap aB cn hX hT BP;subst hK;rintro L' w' ⟨l,a',o',A,c,lC,hw,ap,aB,cn,hX,hT,hJ,yw,hlen⟩
     refine ae.sub lC ?_;obtain ⟨k1,k2,k3,k4,k5⟩:=hJ.fit;obtain ⟨k,hk,cG⟩:=ol hz k3 k4;have cc:k<s.Types.n:=by omega
     have Fb:=oq hq gn uK yw (t:=z.Types[k]) (by rw [hk];simp [List.getD_eq_getElem?_getD,List.getElem?_eq_getElem cG]);rw [Fb];have Fc:l.length≤1000000000000000000:=by omega
     have hA:=hT.sl.base;have I2:s.aR=z.aR:=sF
     repeat' (first|refine Wz ?_|refine SW.st (aV (k) rfl rfl (by assumption) (by omega) (by omega)) rfl ?_|refine SW.st (az rfl (hT.sl.one cc rfl)) rfl ?_)
     refine SW.bT (i:=2) cn rfl rfl rfl rfl fun w5 fu hg => ?_
     have hG:=cn.gr hg;replace hw:=hw.own mz hg;replace hX:=hX.grown hg (.inr (fun e=>by have:=hX.aN _ e;omega));(replace ap:=ap.aD hG rfl;replace aB:=aB.aD hG rfl;replace hT:=hT.aD hG rfl);replace cn:=fu;clear fu hg hG;repeat' (first|refine Wz ?_|(refine SW.call rfl rfl (qU ⟨s.aR,s.To,⟨A,l.length,c⟩,s.Types⟩ l z.aR z.To a' _ hX.sl hJ.qQ hJ.gd o1 (by omega) Fc ⟨by omega,by omega⟩) ?_;intro v w1 ab hv;subst hv;replace hw:=Ext.trans hw ab;replace ap:=ap.ext ab;replace aB:=aB.ext ab;replace cn:=cn.ext ab;replace hX:=hX.ext ab;replace hT:=hT.ext ab;clear ab))
     have dH:=hX.lt_size;refine SW.bW rfl rfl rfl rfl rfl fun vb w6 ai Ge HH => ?_
     (replace hw:=Ext.trans hw ai;replace ap:=ap.ext ai;replace aB:=aB.ext ai;replace cn:=cn.ext ai;replace hX:=hX.ext ai;replace hT:=hT.ext ai);skip;refine SW.ie rfl rfl (nY A l.length c _ l _ hX (bF l a') (Ao l a') ⟨a',o',z.Types[k]⟩ vb HH (fun e=>by have:=dH _ e;omega) (Nat.le_trans (Nat.mul_le_mul_right 24 (by omega)) hf) (by have:=cn.lt;omega)) fun v w7 hv => ?_
     obtain ⟨A2,c2,rfl,zt,hg⟩:=hv;have hG:=hX.gr hg;replace hw:=aK hw hg (Nat.le_trans mz (Nat.le_succ _)) hX.aN;replace cn:=cn.grown hg (fun e=>by have:=hX.aN _ e.symm;omega);(replace ap:=ap.aD hG rfl;replace aB:=aB.aD hG rfl;replace hT:=hT.aD hG rfl);clear hg hG;refine Wz ?_;refine SW.bT (i:=2) ap rfl rfl rfl rfl fun w8 de hg => ?_
     have hG:=ap.gr hg;replace hw:=hw.own bM hg;replace aB:=aB.grown hg (by simpa using pM.symm);(replace cn:=cn.aD hG rfl;replace zt:=zt.aD hG rfl;replace hT:=hT.aD hG rfl);clear hg hG;refine Wz ?_;refine SW.aj aB rfl rfl rfl rfl (dh ⟨s.aR,s.To,⟨A2,l.length+1,c2⟩,s.Types⟩) fun w9 bV hg => ?_
     have hG:=aB.gr hg;replace hw:=hw.own cX hg;(replace zt:=zt.aD hG rfl;replace hT:=hT.aD hG rfl);refine Wz ?_;exact ae.bQ rfl rfl rfl bV rfl ⟨_,rfl,hw,⟨s.aR,s.To,⟨A2,l.length+1,c2⟩,s.Types⟩,rfl,sF,sT,zt.low (by omega),hT.low (by omega)⟩
   ·rw [uK] at cC;rw [rQ hq gn uK];repeat' (first|refine Wz ?_|(refine CW.cj rfl ?_)|((first|refine SW.call rfl rfl (cF _) ?_|refine SW.call rfl rfl (cC _ hw cn) ?_);intro v w1 ab hv;subst hv;replace hw:=Ext.trans hw ab;replace ap:=ap.ext ab;replace aB:=aB.ext ab;replace cn:=cn.ext ab;clear ab)|(refine SW.st (fT (vs:=[.pointer (some ⟨b9,0,none⟩)]) rfl) rfl ?_))
    refine SW.aj aB rfl rfl rfl rfl (dh .zero) fun w5 bV hg => ?_
    replace hw:=hw.own cX hg;refine Wz ?_;exact ae.bQ rfl rfl rfl bV rfl ⟨_,rfl,hw,.zero,rfl,eV.zero _ _⟩
  ·rw [decide_eq_false gn] at cF;rw [rP hq gn];repeat' (first|refine Wz ?_|(refine CW.cU rfl ?_)|(refine SW.call rfl rfl (cF _) ?_;intro v w1 ab hv;subst hv;replace hw:=Ext.trans hw ab;replace ap:=ap.ext ab;replace aB:=aB.ext ab;replace cn:=cn.ext ab;clear ab))
   refine SW.aj aB rfl rfl rfl rfl (dh .zero) fun w5 bV hg => ?_
   replace hw:=hw.own cX hg;refine Wz ?_;exact ae.bQ rfl rfl rfl bV rfl ⟨_,rfl,hw,.zero,rfl,eV.zero _ _⟩
open Go.RowKit
theorem vZ.Dd {f t:Int} {l:List Block} {a o:Int} (h:vZ f t l a o) : ∀ x∈l,x.At≠a:=fun x hx e=>by
 have h1:=h.D7 x hx;have h2:=(h.gd x hx).1;have:=cu h2.1 h2.2.1
 have:=cu h.fit.1 h.fit.2.1
 omega
set_option maxHeartbeats 8000000 in
theorem pN (r:cJ) (z:ay) (a o:Int) (w:World) (hr:p7 w r z) (hf:(r.ao.n+1)*24≤140737488355328) (ht:r.Types.n*8≤140737488355328) (h1 : -9223372036854775808≤r.aR∧r.aR≤9223372036854775807) (h2 : -9223372036854775808≤r.To∧r.To≤9223372036854775807) :
 a9 Tryz.prog 149 [.agg (cd r).toArray,.int .i64 a,.int .i64 o] w (om w.heap.size (ec z a o)):=by
 refine aC Tryz.func149 rfl Tryz.ntmps149 rfl ?_;refine CW.seq (CW.region (SW.box rfl rfl fun b3 w1 hw bM ap => ?_));refine SW.alloc rfl fun b6 w2 cg eJ aB => ?_
 have cX:w.heap.size≤b6:=Nat.le_trans hw.size eJ
 (replace hw:=Ext.trans hw cg;replace ap:=ap.ext cg);have eF:=hr.from_;have eT:=hr.jF;have D9:=hr.free.len;have Ea:=hr.types.len;obtain ⟨q,hq⟩ : ∃ q,fa z=q:=⟨_,rfl⟩
 have c1:∀ w',Ext w w'→a9 Tryz.prog 195 [.agg (cd r).toArray] w' fun v _=>v = .bool q:=fun w' h=>by
  have:=jb r z w' (hr.ext h) (by omega) (by omega) h1 h2
  rwa [hq] at this
 cases q
 ·rw [rO hq];repeat' (first|refine Wz ?_|(refine CW.cU rfl ?_)|(refine SW.call rfl rfl (c1 _ hw) ?_;intro v w1 ab hv;subst hv;replace hw:=Ext.trans hw ab;replace ap:=ap.ext ab;replace aB:=aB.ext ab;clear ab))
  refine SW.aj aB rfl rfl rfl rfl (dh .zero) fun w5 bV hg => ?_
  replace hw:=hw.own cX hg;refine Wz ?_;exact ae.bQ rfl rfl rfl bV rfl ⟨_,rfl,hw,.zero,rfl,eV.zero _ _⟩
 ·have hz:=dz.1 hq;obtain ⟨o1,o2,o3,o4,o5⟩:=hz.ok
  have cF:∀ w',a9 Tryz.prog 211 [.agg (cd r).toArray,.int .i64 a,.int .i64 o] w' fun v _=>v = .bool (decide (dJ z.aR z.To a o)):=fun w'=>by
   have:=mi r a o w' ⟨by omega,by omega⟩ ⟨by omega,by omega⟩
   rwa [eF,eT] at this
  by_cases gn:dJ z.aR z.To a o
  ·rw [decide_eq_true gn] at cF;obtain ⟨f1,f2,f3,f4,f5⟩:=id gn
   have sE:∀ b∈z.ao,dr z.aR z.To b:=fun b hb=>by
    obtain ⟨i,hi,rfl⟩:=List.getElem_of_mem hb;exact hz.gd i hi
   have cC:∀ w',Ext w w'→a9 Tryz.prog 197 [.slice r.ao.A r.ao.n r.ao.c,.int .i64 a,.int .i64 o] w' fun v _=>v = .bool (dZ z.ao a o):=fun w' hx =>
    mv _ _ _ _ z.aR z.To a o _ (hr.free.ext hx) sE o1 (by omega) (by omega) ⟨by omega,by omega⟩ ⟨f1,f2⟩
   cases uK:dZ z.ao a o
   ·rw [uK] at cC;have BP:=ml (f:=0) (t:=0) hz gn uK;repeat' (first|refine Wz ?_|(refine CW.cj rfl ?_)|((first|refine SW.call rfl rfl (c1 _ hw) ?_|refine SW.call rfl rfl (cF _) ?_|refine SW.call rfl rfl (cC _ hw) ?_);intro v w1 ab hv;subst hv;replace hw:=Ext.trans hw ab;replace ap:=ap.ext ab;replace aB:=aB.ext ab;clear ab))
    refine SW.call rfl rfl (mF r z _ (hr.ext hw) (by omega) ht) fun v w4 gf hv => ?_
    obtain ⟨s,rfl,hs⟩:=hv;replace hs:=hs.low hw.size;(replace hw:=Ext.trans hw gf;replace ap:=ap.ext gf;replace aB:=aB.ext gf);clear c1 cC cF;have HI:=aB.lt;have dD:=ap.lt;refine SW.alloc rfl fun b8 w1 ab jj bx => ?_
    skip;refine SW.aj bx rfl rfl rfl rfl (dh s) fun w2 fY hg => ?_
    have ai:=ab.own jj hg;have gK:w.heap.size≤b8:=Nat.le_trans hw.size jj
    replace hw:=Ext.trans hw ai;replace ap:=ap.ext ai;replace aB:=aB.ext ai;replace hs:=hs.ext ai;replace bx:=fY;clear fY ab hg ai;have yx:b6≠b8:=by omega
    have Ay:b3≠b8:=by omega
    refine Wz ?_;have es:s.ao.n=z.ao.length:=by have:=hs.free.sl.len;omega
    have hX:=hs.free;have hT:=hs.types;rw [es] at hX;have E8:s=⟨s.aR,s.To,⟨s.ao.A,z.ao.length,s.ao.c⟩,s.Types⟩:=by rw [← es]
    rw [E8] at bx;have sF:=hs.from_;have sT:=hs.jF;clear hs
    obtain ⟨K,hK⟩ : ∃ K:Env→World→Prop,K=fun L' w' => ∃ l a' o' A c,gj L' [(1,.int .i64 a'),(2,.int .i64 o'),(3,.pointer (some ⟨b3,0,none⟩)),(6,.pointer (some ⟨b6,0,none⟩)),(8,.pointer (some ⟨b8,0,none⟩))]∧Ext w w'∧aU w' b3 139 (cd r)∧aU w' b6 139 (cd .zero)∧aU w' b8 139 [.int .i64 s.aR,.int .i64 s.To,.slice A l.length c,.slice s.Types.A s.Types.n s.Types.c] ∧
     Own w' w.heap.size 165 3 aE A l.length c l∧Own w' w.heap.size 3 1 bm s.Types.A s.Types.n s.Types.c z.Types∧vZ z.aR z.To l a' o'∧dY 5 z.ao a o=(l,a',o')∧l.length≤z.ao.length:=⟨_,rfl⟩
    refine CW.CU K ?_ ?_
    ·refine CW.loop (fun u:Nat×List Block×Int×Int×Option Addr×Nat=>[(1,.int .i64 u.2.2.1),(2,.int .i64 u.2.2.2.1),(3,.pointer (some ⟨b3,0,none⟩)),(6,.pointer (some ⟨b6,0,none⟩)),(8,.pointer (some ⟨b8,0,none⟩))])
      (fun u w'=>Ext w w'∧aU w' b3 139 (cd r)∧aU w' b6 139 (cd .zero)∧aU w' b8 139 [.int .i64 s.aR,.int .i64 s.To,.slice u.2.2.2.2.1 u.2.1.length u.2.2.2.2.2,.slice s.Types.A s.Types.n s.Types.c] ∧
        Own w' w.heap.size 165 3 aE u.2.2.2.2.1 u.2.1.length u.2.2.2.2.2 u.2.1∧Own w' w.heap.size 3 1 bm s.Types.A s.Types.n s.Types.c z.Types∧uW z a o u.1 u.2.1 u.2.2.1 u.2.2.2.1) (fun u=>(5-u.2.2.2.1).toNat) (5,z.ao,a,o,s.ao.A,s.ao.c)
      ⟨rfl,rfl,rfl,rfl,rfl,trivial⟩ ⟨hw,ap,aB,bx,hX,hT,⟨BP,rfl,by simp only;omega,Nat.le_refl _⟩⟩ ?_
     clear hw ap aB bx hX hT BP;rintro ⟨f,l,a',o',A,c⟩ w' ⟨hw,ap,aB,bx,hX,hT,hJ⟩
     simp only at bx hX hJ ⊢;obtain ⟨k1,k2,k3,k4,k5⟩:=hJ.ok.fit;have hlen:=hJ.len;have hp:=cu k1 k2;have F5:=jK k1 k2;by_cases xz:o'<4
     ·obtain ⟨m1,m2,m3⟩:=lG (by omega) k1 xz k5;have em:a'.tmod (pw (o'+1))=a' % (pw (o'+1)):=Int.tmod_eq_emod_of_nonneg (by omega)
      have sX:beside a' o'=if a' % (pw (o'+1))=0 then a'+pw o' else a'-pw o':=by unfold beside;rw [F5]
      generalize lS:beside a' o'=j8 at m1 m2 m3 sX
      have lz:l.length*24≤140737488355328:=Nat.le_trans (Nat.mul_le_mul_right 24 (by omega)) hf
      have cW:=nw A l.length c l j8 o';by_cases De:a' % (pw (o'+1))=0
      ·rw [if_pos De] at sX;repeat' (first|refine Wz ?_|(refine SW.call rfl rfl (dA _ (by omega) _) ?_;intro v w1 ab hv;subst hv;replace hw:=Ext.trans hw ab;replace ap:=ap.ext ab;replace aB:=aB.ext ab;replace bx:=bx.ext ab;replace hX:=hX.ext ab;replace hT:=hT.ext ab;clear ab))
       all_goals try omega
       rw [← sX];refine SW.call rfl rfl (cW _ hX.sl lz) fun v w5 fI hv => ?_
       obtain ⟨B,d,rfl,hY⟩:=hv;replace hY:=hY.low hw.size;(replace hw:=Ext.trans hw fI;replace ap:=ap.ext fI;replace aB:=aB.ext fI;replace bx:=bx.ext fI;replace hX:=hX.ext fI;replace hT:=hT.ext fI);cases jk:l.any (lV j8 o')
       ·have og:=hJ.stop (.inr (by rw [lS];exact jk));repeat' (first|refine Wz ?_|(refine CW.cU rfl ?_))
        exact ae.uJ (K:=K) (by rw [hK];exact ⟨l,a',o',A,c,⟨rfl,rfl,rfl,rfl,rfl,trivial⟩,hw,ap,aB,bx,hX,hT,hJ.ok,og,hJ.len⟩)
       ·obtain ⟨f',zu⟩:=hJ.next o1 xz (by rw [lS];exact jk)
        rw [lS] at zu;repeat' (first|refine Wz ?_|(refine CW.cj rfl ?_))
        refine SW.bT (i:=2) bx rfl rfl rfl rfl fun w7 fY hg => ?_
        have hG:=bx.gr hg;replace hw:=hw.own gK hg;replace aB:=aB.grown hg (by simpa using yx);replace ap:=ap.grown hg (by simpa using Ay);(replace hY:=hY.aD hG rfl;replace hT:=hT.aD hG rfl);have wi:min a' j8=a':=by omega
        rw [wi] at zu;refine Wz ?_;all_goals try omega
        exact ae.again (f',ba l j8 o',a',o'+1,B,d) ⟨rfl,rfl,rfl,rfl,rfl,trivial⟩ (by simp only;omega) ⟨hw,ap,aB,fY,hY,hT,zu⟩
      ·rw [if_neg De] at sX;repeat' (first|refine Wz ?_|(refine SW.call rfl rfl (dA _ (by omega) _) ?_;intro v w1 ab hv;subst hv;replace hw:=Ext.trans hw ab;replace ap:=ap.ext ab;replace aB:=aB.ext ab;replace bx:=bx.ext ab;replace hX:=hX.ext ab;replace hT:=hT.ext ab;clear ab))
       all_goals try omega
       rw [← sX];refine SW.call rfl rfl (cW _ hX.sl lz) fun v w5 fI hv => ?_
       obtain ⟨B,d,rfl,hY⟩:=hv;replace hY:=hY.low hw.size;(replace hw:=Ext.trans hw fI;replace ap:=ap.ext fI;replace aB:=aB.ext fI;replace bx:=bx.ext fI;replace hX:=hX.ext fI;replace hT:=hT.ext fI);cases jk:l.any (lV j8 o')
       ·have og:=hJ.stop (.inr (by rw [lS];exact jk));repeat' (first|refine Wz ?_|(refine CW.cU rfl ?_))
        exact ae.uJ (K:=K) (by rw [hK];exact ⟨l,a',o',A,c,⟨rfl,rfl,rfl,rfl,rfl,trivial⟩,hw,ap,aB,bx,hX,hT,hJ.ok,og,hJ.len⟩)
       ·obtain ⟨f',zu⟩:=hJ.next o1 xz (by rw [lS];exact jk)
        rw [lS] at zu;repeat' (first|refine Wz ?_|(refine CW.cj rfl ?_))
        refine SW.bT (i:=2) bx rfl rfl rfl rfl fun w7 fY hg => ?_
        have hG:=bx.gr hg;replace hw:=hw.own gK hg;replace aB:=aB.grown hg (by simpa using yx);replace ap:=ap.grown hg (by simpa using Ay);(replace hY:=hY.aD hG rfl;replace hT:=hT.aD hG rfl);have wi:min a' j8=j8:=by omega
        rw [wi] at zu;refine Wz ?_;all_goals try omega
        exact ae.again (f',ba l j8 o',j8,o'+1,B,d) ⟨rfl,rfl,rfl,rfl,rfl,trivial⟩ (by simp only;omega) ⟨hw,ap,aB,fY,hY,hT,zu⟩
     ·refine Wz ?_;exact ae.uJ (K:=K) (by rw [hK];exact ⟨l,a',o',A,c,⟨rfl,rfl,rfl,rfl,rfl,trivial⟩,hw,ap,aB,bx,hX,hT,hJ.ok,hJ.stop (.inl xz),hJ.len⟩)
    ·clear hw ap aB bx hX hT BP;subst hK;rintro L' w' ⟨l,a',o',A,c,lC,hw,ap,aB,bx,hX,hT,hJ,yw,hlen⟩
     refine ae.sub lC ?_;obtain ⟨k1,k2,k3,k4,k5⟩:=hJ.fit;obtain ⟨k,hk,cG⟩:=ol hz k3 k4;have I3:=hT.sl.len;have cc:k<s.Types.n:=by omega
     have Fb:=oq hq gn uK yw (t:=z.Types[k]) (by rw [hk];simp [List.getD_eq_getElem?_getD,List.getElem?_eq_getElem cG]);rw [Fb,← CZ hJ.Dd];have hA:=hT.sl.base;refine Wz ?_;refine CW.any 14 mixed (bZ (by kernel_rfl)) rfl fun w1 ab bd => ?_
     replace hw:=Ext.trans hw ab;replace ap:=ap.ext ab;replace aB:=aB.ext ab;replace bx:=bx.ext ab;replace hX:=hX.ext ab;replace hT:=hT.ext ab;clear ab;refine Wa ?_;refine SA.take 11 bd rfl (by kernel_rfl) (by kernel_rfl) rfl ?_;repeat ((show SW _ _ _ _ (⟨_,Op.indexAddr _ _ _,_,_,_,none⟩::_) _ _;refine SW.st (aV (k) rfl rfl (by assumption) (by omega) (by omega)) rfl ?_))
     refine SW.aq ?_;refine SA.take 12 bd rfl (by kernel_rfl) (by kernel_rfl) rfl ?_;repeat ((show SW _ _ _ _ (⟨_,Op.load _ _,_,_,_,none⟩::_) _ _;refine SW.st (az rfl (hT.sl.one cc rfl)) rfl ?_))
     refine SW.aq ?_;refine Wa ?_;refine SA.done (by kernel_rfl) ?_;refine SW.call rfl rfl (qy A l.length c l ⟨a',o',z.Types[k]⟩ _ hX.sl (Nat.le_trans (Nat.mul_le_mul_right 24 (by omega)) hf)) fun v w5 fI hv => ?_
     obtain ⟨B,d,rfl,hY⟩:=hv;replace hY:=hY.low hw.size;(replace hw:=Ext.trans hw fI;replace ap:=ap.ext fI;replace aB:=aB.ext fI;replace bx:=bx.ext fI;replace hX:=hX.ext fI;replace hT:=hT.ext fI);refine Wz ?_;refine SW.bT (i:=2) bx rfl rfl rfl rfl fun w7 fY hg => ?_
     have hG:=bx.gr hg;replace hw:=hw.own gK hg;replace aB:=aB.grown hg (by simpa using yx);(replace hY:=hY.aD hG rfl;replace hT:=hT.aD hG rfl);refine Wz ?_;refine SW.aj aB rfl rfl rfl rfl (dh ⟨s.aR,s.To,⟨B,l.length+1,d⟩,s.Types⟩) fun w9 bV hg => ?_
     have hG:=aB.gr hg;replace hw:=hw.own cX hg;(replace hY:=hY.aD hG rfl;replace hT:=hT.aD hG rfl);refine Wz ?_;exact ae.bQ rfl rfl rfl bV rfl ⟨_,rfl,hw,⟨s.aR,s.To,⟨B,l.length+1,d⟩,s.Types⟩,rfl,sF,sT,hY,hT⟩
   ·rw [uK] at cC;rw [rQ hq gn uK];repeat' (first|refine Wz ?_|(refine CW.cj rfl ?_)|((first|refine SW.call rfl rfl (c1 _ hw) ?_|refine SW.call rfl rfl (cF _) ?_|refine SW.call rfl rfl (cC _ hw) ?_);intro v w1 ab hv;subst hv;replace hw:=Ext.trans hw ab;replace ap:=ap.ext ab;replace aB:=aB.ext ab;clear ab))
    refine SW.aj aB rfl rfl rfl rfl (dh .zero) fun w5 bV hg => ?_
    replace hw:=hw.own cX hg;refine Wz ?_;exact ae.bQ rfl rfl rfl bV rfl ⟨_,rfl,hw,.zero,rfl,eV.zero _ _⟩
  ·rw [decide_eq_false gn] at cF;rw [rP hq gn];repeat' (first|refine Wz ?_|(first|refine CW.cU rfl ?_|refine CW.cj rfl ?_)|((first|refine SW.call rfl rfl (c1 _ hw) ?_|refine SW.call rfl rfl (cF _) ?_);intro v w1 ab hv;subst hv;replace hw:=Ext.trans hw ab;replace ap:=ap.ext ab;replace aB:=aB.ext ab;clear ab))
   refine SW.aj aB rfl rfl rfl rfl (dh .zero) fun w5 bV hg => ?_
   replace hw:=hw.own cX hg;refine Wz ?_;exact ae.bQ rfl rfl rfl bV rfl ⟨_,rfl,hw,.zero,rfl,eV.zero _ _⟩
end Go.Proofs.YtbidkghlpijecaaGreatDoor
