/-
  Texts of the claim KmemFrees, part 7: what its theorem leans on.
-/
import Derived.Test.YtbidkghlpijecaaGreatDoorPackKmemFrees6
import Derived.Test.YtbidkghlpijecaaGreatDoorPackKmemFrees3
import Derived.Test.YtbidkghlpijecaaGreatDoorPackKmemFrees5
import Derived.Test.YtbidkghlpijecaaGreatDoorPackKmemFrees2
set_option linter.unusedVariables false
set_option linter.unusedSimpArgs false
namespace Go.Proofs.YtbidkghlpijecaaGreatDoor
open Go.RowKit
set_option maxHeartbeats 4000000 in
theorem j0 (A:Option Addr) (n c lo:Nat) (l:List Block) (w:World) (hO:Own w lo 165 3 aE A n c l) (i:Nat) (hi:i<n) (hn:n≤1000000000000000000) (gh:lo≤w.heap.size) :
 kt Tryz.prog 108 [.slice A n c,.int .i64 (i:Int),.int .i64 ((i+1:Nat) : Int)] w fun v w'=>v = .slice A (n-1) c∧Own w' lo 165 3 aE A (n-1) c (l.eraseIdx i)∧w.grownBy w' (aX A c):=by
 refine fy Tryz.func108 rfl Tryz.ntmps108 rfl ?_;have hle:=hO.le;have lz:=hO.len;have hA:=hO.sl.base;have wj:w.grownBy w (aX A c):=World.grownBy.refl _ _
 repeat' (first|refine Wz ?_|(refine SW.st (qT (i:=i) (j:=i+1) (k:=n) rfl rfl rfl rfl (by omega) (by omega) (by omega)) rfl ?_))
 all_goals try omega
 have hw:=Ext.refl w;have e0:i+(n-(i+1))=n-1:=by omega
 have el:l.take i++l.drop (i+1)=l.eraseIdx i:=by rw [List.eraseIdx_eq_take_drop_succ]
 refine CW.any 6 mixed (bZ (by kernel_rfl)) rfl fun w1 ab bd => ?_
 replace hw:=Ext.trans hw ab;replace hO:=hO.ext ab;clear ab;refine Wa ?_;refine SA.take 2 bd rfl (by kernel_rfl) (by kernel_rfl) rfl ?_;repeat ((refine SW.st (db (k:=i) rfl rfl (by omega)) rfl ?_))
 refine SW.aq ?_;refine Wa ?_;refine SA.take 5 bd rfl (by kernel_rfl) (by kernel_rfl) rfl ?_;repeat ((refine SW.st (bo (k:=i+1) rfl rfl (by omega) (by omega)) rfl ?_))
 refine SW.aq ?_;refine SA.done (by kernel_rfl) ?_;refine SW.tf (hO.pre (i:=i) (by omega)) (hO.sl.drop (i+1) c (by omega) (by omega)) (by omega) rfl rfl rfl fun w2 nu hg => ?_
 rw [e0,el] at nu;rw [e0];have Br:=(hw.gr (aX A c));repeat' (first|refine Wz ?_|(refine SW.st (ph (i:=n-1) (j:=n) rfl rfl rfl (by omega) (by omega)) rfl ?_))
 obtain ⟨g,rest,rfl,h1,h2,h3,h4,h5,h6⟩:=nu.opened (by omega);have nS:((l.eraseIdx i).flatMap aE).length=(n-1)*3:=by rw [aO,nu.len]
 refine SW.clear ((n-1)*3) h2 rfl (by rw [List.length_append,nS];omega) (fun h0 => ?_) (by decide) fun w3 cs fK hB qd => ?_
 ·rw [if_neg (by omega)];simp [c7]
 ·have e7:=fw ((l.eraseIdx i).flatMap aE) (rest.take ((n-(n-1))*3)) (rest.drop ((n-(n-1))*3)) cs (by rw [fK];simp;omega) (o:=(n-1)*3) nS.symm;rw [List.append_assoc (List.flatMap _ _),List.take_append_drop] at e7;rw [e7,List.append_assoc] at hB;have Cl:=Own.closed (l:=l.eraseIdx i) nu.len hB (by rw [List.length_append,fK];simp;omega) h4 (by omega) h5 h1;rw [← h6] at qd;have nv:=bi (bi Br hg (.inl rfl)) qd (.inl rfl);refine Wz ?_;exact ae.aF rfl rfl ⟨_,rfl,rfl,Cl,nv⟩
set_option maxHeartbeats 4000000 in
theorem nY (A:Option Addr) (n c lo:Nat) (l:List Block) (w:World) (hO:Own w lo 165 3 aE A n c l) (i:Nat) (hi:i≤n) (x:Block) (b:Nat) (hB:aU w b 165 (aE x)) (cQ:aX A c≠some b) (hn:(n+1)*24≤140737488355328) (gh:lo≤w.heap.size) :
 kt Tryz.prog 155 [.slice A n c,.int .i64 (i:Int),.slice (some ⟨b,0,none⟩) 1 1] w fun v w' => ∃ A' c',v = .slice A' (n+1) c'∧Own w' lo 165 3 aE A' (n+1) c' (aW l i x)∧w.grownBy w' (aX A c):=by
 refine fy Tryz.func155 rfl Tryz.ntmps155 rfl ?_;have hle:=hO.le;have lz:=hO.len;have hA:=hO.sl.base;have hw:=Ext.refl w;have jG:Sl w 3 aE (some ⟨b,0,none⟩) 1 [x]:=aU.kf hB
 have lK:(aE x).length=3:=rfl
 have nS:∀ q:List Block,(q.flatMap aE).length=q.length*3:=fun q=>aO q
 have mO:∀ (q:List Block) (v:Value),v∈q.flatMap aE→v.oneCell'=true:=fun q v hv=>by
  obtain ⟨u,_,hu⟩:=List.mem_flatMap.1 hv;exact fM.one (enc:=aE) u v hu
 by_cases cy:i=n
 ·subst cy;repeat' (first|refine Wz ?_|(refine SW.st (bo (k:=i) rfl rfl (by omega) (by omega)) rfl ?_))
  all_goals try omega
  refine SW.append hO jG gh rfl rfl rfl (by omega) (by omega) fun A2 c2 w2 nu hg => ?_
  refine Wz ?_;refine ae.aF rfl rfl ⟨_,rfl,A2,c2,rfl,?_,hg⟩;have e:aW l i x=l++[x]:=by unfold aW;rw [List.take_of_length_le (by omega),List.drop_eq_nil_of_le (by omega)];simp
  rw [e];exact nu
 ·by_cases iE:n+1≤c
  ·obtain ⟨g,rest,rfl,h1,h2,h3,h4,h5,h6⟩:=hO.opened (by omega);have Bs:g≠b:=fun e=>cQ (by rw [h6,e])
   have es:l.flatMap aE++rest=(l.take i).flatMap aE++((l.drop i).flatMap aE++rest):=by rw [← List.append_assoc,← List.flatMap_append,List.take_append_drop]
   have e1:((l.take i).flatMap aE).length=i*3:=by rw [nS];simp;omega
   have e2:((l.drop i).flatMap aE).length=(n-i)*3:=by rw [nS];simp [lz]
   have m8:=hO.sl.drop i c (by omega) (by omega);rw [if_neg (by omega)] at m8;rw [es] at h2
   have uK:∀ w',Ext w w'→(Extern.SlicesOverlaps.overlaps #[39,39] #[4] #[.slice (some ⟨b,0,none⟩) 1 1,.slice (if c=i+1 then (some ⟨g,0,none⟩) else (some (⟨g,0,none⟩ : Addr)).map (·.add ((i+1)*3))) (n+1-(i+1)) (c-(i+1))]).run Tryz.prog w' = .ok (.bool false) w':=fun w' hx=>by
    rw [if_neg (by omega),Option.map_some,c7];have b1:=hB.ext hx;have b2:=h2.ext hx;unfold aU at b1 b2
    exact Lib.run_overlaps_apart w' 39 4 165 (bj.iK (t:=39)) 3 (fun w0=>run_sizeOf (bj.size (t:=39)) w0) ⟨b,0,none⟩ ⟨g,(i+1)*3,none⟩ 1 1 _ _ (fun e=>Bs e.symm) 165 165 (aE x).toArray.size ((l.take i).flatMap aE++((l.drop i).flatMap aE++rest)).toArray.size
     (by simp only [World.shape?,b1]) (by simp only [World.shape?,b2]) (by simp [e1,e2];omega) (by simp [World.frozen?,b1]) (by simp [World.frozen?,b1])
   repeat' (first|refine Wz ?_|(refine CW.cU rfl ?_)|(refine SW.st (bo (k:=i) rfl rfl (by omega) (by omega)) rfl ?_)|(refine SW.st (db (k:=n+1) rfl rfl (by omega)) rfl ?_)|(refine SW.st (bo (k:=i+1) rfl rfl (by omega) (by omega)) rfl ?_)|(refine SW.entry Tryz.func215 (by kernel_rfl) (by kernel_rfl) (by kernel_rfl) (e:=Extern.SlicesOverlaps.overlaps #[39,39] #[4]) (by kernel_rfl) rfl rfl (uK _ hw) ?_))
   all_goals try omega
   have ub:((n-i)+1)*3≤((l.drop i).flatMap aE++rest).length:=by rw [List.length_append,e2];omega
   have e4:(l.drop i).flatMap aE++rest=((l.drop i).flatMap aE++rest).take 3++(((l.drop i).flatMap aE++rest).drop 3).take ((n-i)*3)++((l.drop i).flatMap aE++rest).drop (3+(n-i)*3):=by
    rw [List.append_assoc,← List.drop_drop,List.take_append_drop,List.take_append_drop]
   generalize Bt:((l.drop i).flatMap aE++rest).take 3=D1 at e4
   generalize Bu:(((l.drop i).flatMap aE++rest).drop 3).take ((n-i)*3)=D2 at e4
   generalize Bv:((l.drop i).flatMap aE++rest).drop (3+(n-i)*3)=D3 at e4
   have f1:D1.length=3:=by rw [← Bt];simp only [List.length_take];omega
   have f2:D2.length=(n-i)*3:=by rw [← Bu];simp only [List.length_take,List.length_drop];omega
   have f3:D3.length+3=rest.length:=by rw [← Bv];simp only [List.length_drop,List.length_append,e2];omega
   rw [e4] at h2;refine CW.any 8 mixed (bZ (by kernel_rfl)) rfl fun w1 ab bd => ?_
   replace hw:=Ext.trans hw ab;replace hO:=hO.ext ab;replace hB:=hB.ext ab;replace h2:=h2.ext ab;clear ab;refine Wa ?_;refine SA.take 4 bd rfl (by kernel_rfl) (by kernel_rfl) rfl ?_;repeat ((refine SW.st (bo (k:=i+1) rfl rfl (by omega) (by omega)) rfl ?_))
   refine SW.aq ?_;refine Wa ?_;refine SA.take 7 bd rfl (by kernel_rfl) (by kernel_rfl) rfl ?_;repeat ((refine SW.st (bo (k:=i) rfl rfl (by omega) (by omega)) rfl ?_))
   refine SW.aq ?_;refine SA.done (by kernel_rfl) ?_;refine SW.copy (k:=n-i) ((i+1)*3) ((l.drop i).flatMap aE) h2 rfl rfl rfl (by omega) e2 (by simp only [List.length_append,e1,e2,f1,f2];omega) (fun h0=>⟨by rw [if_neg (by omega)];simp [c7],(⟨g,0,none⟩ : Addr).add (i*3),by rw [if_neg (by omega)];rfl,fun j v hv=>dl (by omega) (m8.ext hw) j v hv⟩) (mO _) fun w3 lA qd => ?_
   have g1:=fw ((l.take i).flatMap aE++D1) D2 D3 ((l.drop i).flatMap aE) (by rw [e2,f2]) (o:=(i+1)*3) (by rw [List.length_append,e1,f1];omega);have g0:(l.take i).flatMap aE++(D1++D2++D3)=(l.take i).flatMap aE++D1++D2++D3:=by simp only [List.append_assoc]
   rw [g0,g1] at lA;have Br:=bi (hw.gr (aX (some ⟨g,0,none⟩) c)) qd (.inl h6.symm);have EM:=hB.grown qd (by simpa using fun e=>Bs e.symm);repeat' (first|refine Wz ?_|(refine SW.st (bo (k:=i) rfl rfl (by omega) (by omega)) rfl ?_))
   refine SW.copy (k:=1) (i*3) (aE x) lA rfl rfl rfl (by omega) lK (by simp only [List.length_append,e1,e2,f1,lK];omega) (fun h0=>⟨by rw [if_neg (by omega)];simp [c7],⟨b,0,none⟩,rfl,fun j v hv=>EM.cell hv⟩) (fM.one (enc:=aE) x) fun w4 pi ur => ?_
   have g2:=fw ((l.take i).flatMap aE) D1 ((l.drop i).flatMap aE++D3) (aE x) (by rw [lK,f1]) (o:=i*3) e1.symm;have g3:(l.take i).flatMap aE++D1++(l.drop i).flatMap aE++D3=(l.take i).flatMap aE++D1++((l.drop i).flatMap aE++D3):=by simp only [List.append_assoc]
   have g4:(l.take i).flatMap aE++aE x++((l.drop i).flatMap aE++D3)=(aW l i x).flatMap aE++D3:=by unfold aW;simp only [List.flatMap_append,List.flatMap_cons,List.flatMap_nil,List.append_nil,List.append_assoc]
   rw [g3,g2,g4] at pi;have Bw:=Own.closed (n:=n+1) (c:=c) (l:=aW l i x) (by unfold aW;simp;omega) pi (by omega) iE (by omega) h5 h1;have EN:=bi Br ur (.inl h6.symm);refine Wz ?_;exact ae.aF rfl rfl ⟨_,rfl,_,_,rfl,Bw,EN⟩
  ·have Hc:c=n:=by omega
   have m8:=hO.sl.drop i c (by omega) (by omega);have Bx:=hO.sl.pre (i:=i) (by omega);repeat' (first|refine Wz ?_|(refine SW.st (bo (k:=i) rfl rfl (by omega) (by omega)) rfl ?_)|(refine SW.st (db (k:=i) rfl rfl (by omega)) rfl ?_))
   all_goals try omega
   refine SW.vE (k:=n+1-i) Bx Tryz.underlying3 rfl rfl (by omega) rfl (by omega) (by omega) (by omega) (by omega) fun g rest c2 w2 cg xJ h2 h3 h4 h5 => ?_
   have e1:((l.take i).flatMap aE).length=i*3:=by rw [nS];simp;omega
   have e2:((l.drop i).flatMap aE).length=(n-i)*3:=by rw [nS];simp [lz]
   have ub:((n-i)+1)*3≤rest.length:=by omega
   have e4:rest=rest.take 3++(rest.drop 3).take ((n-i)*3)++rest.drop (3+(n-i)*3):=by
    rw [List.append_assoc,← List.drop_drop,List.take_append_drop,List.take_append_drop]
   generalize Bt:rest.take 3=D1 at e4
   generalize Bu:(rest.drop 3).take ((n-i)*3)=D2 at e4
   generalize Bv:rest.drop (3+(n-i)*3)=D3 at e4
   have f1:D1.length=3:=by rw [← Bt];simp only [List.length_take];omega
   have f2:D2.length=(n-i)*3:=by rw [← Bu];simp only [List.length_take,List.length_drop];omega
   have f3:D3.length+((n-i)+1)*3=rest.length:=by rw [← Bv];simp only [List.length_drop];omega
   rw [e4] at h2;have ez:aX A c≠some g:=fun e=>by have:=hO.lt_size _ e;omega
   have Bs:b≠g:=by have:=hB.lt;omega
   replace m8:=m8.ext cg;replace hB:=hB.ext cg;replace hw:=Ext.trans hw cg;repeat' (first|refine Wz ?_|(refine SW.st (bo (k:=i) rfl rfl (by omega) (by omega)) rfl ?_))
   refine SW.copy (k:=1) (i*3) (aE x) h2 rfl rfl rfl (by omega) lK (by simp only [List.length_append,e1,f1,f2,lK];omega) (fun h0=>⟨by rw [if_neg (by omega)];simp [c7],⟨b,0,none⟩,rfl,fun j v hv=>hB.cell hv⟩) (fM.one (enc:=aE) x) fun w3 lA qd => ?_
   have g2:=fw ((l.take i).flatMap aE) D1 (D2++D3) (aE x) (by rw [lK,f1]) (o:=i*3) e1.symm;have g3:(l.take i).flatMap aE++(D1++D2++D3)=(l.take i).flatMap aE++D1++(D2++D3):=by simp only [List.append_assoc]
   rw [g3,g2] at lA;have CX:Ext w w3:=hw.own xJ qd
   have mw:Sl w3 3 aE (if c=i then A else A.map (·.add (i*3))) (n-i) (l.drop i):=(hO.sl.drop i c (by omega) (by omega)).ext CX
   replace hw:=CX;refine Wz ?_;refine CW.any 8 mixed (bZ (by kernel_rfl)) rfl fun w1 ab bd => ?_
   replace hw:=Ext.trans hw ab;replace lA:=lA.ext ab;replace mw:=mw.ext ab;clear ab;refine Wa ?_;refine SA.take 4 bd rfl (by kernel_rfl) (by kernel_rfl) rfl ?_;repeat ((refine SW.st (bo (k:=i+1) rfl rfl (by omega) (by omega)) rfl ?_))
   refine SW.aq ?_;refine Wa ?_;refine SA.take 7 bd rfl (by kernel_rfl) (by kernel_rfl) rfl ?_;repeat ((refine SW.st (bo (k:=i) rfl rfl (by omega) (by omega)) rfl ?_))
   refine SW.aq ?_;refine SA.done (by kernel_rfl) ?_;refine SW.copy (k:=n-i) ((i+1)*3) ((l.drop i).flatMap aE) lA rfl rfl rfl (by omega) e2 (by simp only [List.length_append,e1,e2,f2,lK];omega) (fun h0=>⟨by rw [if_neg (by omega)];simp [c7],(if c=i then A else A.map (·.add (i*3))).getD default,?_,fun j v hv=>dl (by omega) mw j v hv⟩) (mO _) fun w4 pi ur => ?_
   ·obtain ⟨a,ha⟩:=Option.isSome_iff_exists.1 (mw.base h0);rw [ha];rfl
   ·have g4:=fw ((l.take i).flatMap aE++aE x) D2 D3 ((l.drop i).flatMap aE) (by rw [e2,f2]) (o:=(i+1)*3) (by rw [List.length_append,e1,lK];omega);have g5:(l.take i).flatMap aE++aE x++(D2++D3)=(l.take i).flatMap aE++aE x++D2++D3:=by simp only [List.append_assoc]
    have g6:(l.take i).flatMap aE++aE x++(l.drop i).flatMap aE++D3=(aW l i x).flatMap aE++D3:=by unfold aW;simp only [List.flatMap_append,List.flatMap_cons,List.flatMap_nil,List.append_nil,List.append_assoc]
    rw [g5,g4,g6] at pi;have Bw:=Own.closed (n:=n+1) (c:=c2) (lo:=lo) (l:=aW l i x) (by unfold aW;simp;omega) pi (by omega) (by omega) (by omega) h5 (by omega);have gf:Ext w w4:=hw.own xJ ur
    have e9:i+(n+1-i)=n+1:=by omega
    refine Wz ?_;rw [e9];exact ae.aF rfl rfl ⟨_,rfl,_,_,rfl,Bw,gf.gr _⟩
open Go.RowKit
theorem mx:Tryz.prog.underlying 236=some (.int .u64):=by kernel_rfl
theorem wrap_u64 {z:Int} (h0 : 0≤z) (h1:z≤9223372036854775807) : IntKind.u64.wrap z=z:=by
 simp [IntKind.wrap,IntKind.bits,IntKind.signed];omega
section
variable {P:Program} {L:Env} {w:World} {d:Option Nat} {T:TypeId} {pos:String} {af:Array Edge} {g:Option (Nat×Bool)}
theorem my {ft tt:TypeId} {x:Operand} {k k':IntKind} {i:Int} (hf:P.underlying ft=some (.int k)) (ht:P.underlying tt=some (.int k')) (hx:bG L x=some (.int k i)) :
 St P ⟨d,.convert ft tt x,T,pos,af,g⟩ L w (.int k' (k'.wrap i)) :=
 ⟨fun n a ha w' _=>by
  have e1:=ha.eval hx;generalize a.eval = ρ at *
  simp [go_sem,e1,convert,run_underlying hf,run_underlying ht,Conv.intToInt]⟩
theorem vF {t ty:TypeId} {x y:Operand} {yk:IntKind} {i:Int} (hx:bG L x=some (.int .u64 i)) (hy:bG L y=some (.int yk 1)) :
 St P ⟨d,.binOp .shr t x y ty,T,pos,af,g⟩ L w (.int .u64 (i / 2)) :=
 ⟨fun n a ha w' _=>by
  have e1:=ha.eval hx;have e2:=ha.eval hy;generalize a.eval = ρ at *
  simp [go_sem,e1,e2]⟩
end
def bc (l:List Block) (a:Int) : Bool:=if h:bF l a<l.length then decide ((l[bF l a]).At=a) else false
theorem fA (A:Option Addr) (n c:Nat) (l:List Block) (a:Int) (w:World) (hl:Sl w 3 aE A n l) (f:FuncId) [Body Tryz.prog f] (hf:∀ x∈l,∀ w',Ext w w'→a9 Tryz.prog f ([.agg (aE x).toArray,.int .i64 a]++[]) w' fun v _=>v = .int .i64 (x.At-a))
 (hu:l.Pairwise fun x y=>x.At<y.At) (hn:n≤1000000000000000000) : a9 Tryz.prog 105 [.slice A n c,.int .i64 a,.func (.func f) #[] #[]] w fun v _=>v = .tuple #[.int .i64 (bF l a:Int),.bool (bc l a)]:=by
 refine aC Tryz.func105 rfl Tryz.ntmps105 rfl ?_;have hw:=Ext.refl w;have hA:=hl.base;have lz:=hl.len;rw [List.pairwise_iff_getElem] at hu;refine Wz ?_
 refine CW.loop (fun s:Nat×Nat=>[(0,.slice A n c),(1,.int .i64 a),(2,.func (.func f) #[] #[]),(8,.int .i64 (n:Int)),(9,.int .i64 (s.1:Int)),(10,.int .i64 (s.2:Int))])
  (fun s w'=>s.1≤s.2∧s.2≤n∧Ext w w'∧(∀ (k:Nat) (h:k<l.length),k<s.1→l[k].At<a)∧(∀ (k:Nat) (h:k<l.length),s.2≤k→a≤l[k].At)) (fun s=>s.2-s.1) (0,n)
  ⟨rfl,rfl,rfl,rfl,rfl,rfl,trivial⟩ ⟨by omega,by omega,hw,fun k h h'=>by omega,fun k h h'=>by omega⟩ ?_
 clear hw;rintro ⟨i,j⟩ w' ⟨jN,fF,hw,hI,hJ⟩
 simp only at jN fF hI hJ ⊢;by_cases dH:i<j
 ·have hk:(i+j) / 2<n:=by omega
  have cG:=hl.lt hk;have mj:=fun w1 h1=>hf (l[(i+j) / 2]) (List.getElem_mem cG) w1 h1
  repeat' (first|refine Wz ?_|refine SW.st (aA hw rfl rfl ((hl.all hk))) rfl ?_|(refine SW.st ((my Tryz.underlying3 mx rfl).eq (congrArg (Value.int .u64) (wrap_u64 (by omega) (by omega)))) rfl ?_)|(refine SW.st ((my mx Tryz.underlying3 rfl).eq (congrArg (Value.int .i64) (gw (by omega) (by omega)))) rfl ?_)|(refine SW.st (vF rfl rfl) rfl ?_))
  refine SW.l9 (cap:=[]) rfl rfl rfl (mj _ hw) fun v w1 ab hv => ?_
  subst hv;replace hw:=Ext.trans hw ab;by_cases CY:l[(i+j) / 2].At<a
  ·refine Wz ?_;refine ae.again ((i+j) / 2+1,j) ⟨rfl,rfl,rfl,rfl,congrArg (fun z=>some (Value.int .i64 z)) (by omega),rfl,trivial⟩ (by simp only;omega) ⟨by simp only;omega,fF,hw,fun k h h' => ?_,hJ⟩;simp only at h';by_cases e:k=(i+j) / 2
   ·subst e;exact CY
   ·have:=hu k ((i+j) / 2) h cG (by omega)
    omega
  ·refine Wz ?_;refine ae.again (i,(i+j) / 2) ⟨rfl,rfl,rfl,rfl,rfl,congrArg (fun z=>some (Value.int .i64 z)) (by omega),trivial⟩ (by simp only;omega) ⟨by simp only;omega,by simp only;omega,hw,hI,fun k h h' => ?_⟩;simp only at h';by_cases e:k=(i+j) / 2
   ·subst e;omega
   ·have:=hu ((i+j) / 2) k cG h (by omega)
    omega
 ·obtain rfl:i=j:=by omega
  have uh:bF l a=i:=vz (by omega) hI (fun h=>hJ i h (by omega))
  by_cases cy:i<n
  ·have cG:=hl.lt cy;have mj:=fun w1 h1=>hf (l[i]) (List.getElem_mem cG) w1 h1
   have zq:bc l a=decide (l[i].At=a):=by unfold bc;simp only [uh,cG,dif_pos]
   rw [uh,zq];repeat' (first|refine Wz ?_|refine SW.st (aA hw rfl rfl ((hl.all cy))) rfl ?_)
   refine SW.l9 (cap:=[]) rfl rfl rfl (mj _ hw) fun v w1 ab hv => ?_
   subst hv;replace hw:=Ext.trans hw ab;by_cases he:l[i].At=a
   ·refine Wz ?_;refine ae.eY rfl rfl rfl ⟨_,rfl,hw,?_⟩;rw [decide_eq_true he,decide_eq_true (by omega)]
   ·refine Wz ?_;refine ae.eY rfl rfl rfl ⟨_,rfl,hw,?_⟩;rw [decide_eq_false he,decide_eq_false (by omega)]
  ·have zq:bc l a=false:=by unfold bc;rw [dif_neg (by omega)]
   rw [uh,zq];refine Wz ?_;exact ae.eY rfl rfl rfl ⟨_,rfl,hw,rfl⟩
theorem By {f t:Int} {l:List Block} (h:qQ l) (hb:∀ b∈l,dr f t b) : l.Pairwise fun x y=>x.At<y.At:=by
 unfold qQ at h;rw [List.pairwise_iff_getElem] at h ⊢;intro i j hi hj jN;have h1:=h i j hi hj jN;have hp:=hb _ (List.getElem_mem hi);have:=cu hp.1.1 hp.1.2.1
 omega
theorem rU (x:Block) (a:Int) (w:World) (hx : -4000000000000000000≤x.At∧x.At≤4000000000000000000) (ha : -4000000000000000000≤a∧a≤4000000000000000000) : a9 Tryz.prog 255 ([.agg (aE x).toArray,.int .i64 a]++[]) w fun v _=>v = .int .i64 (x.At-a):=by
 refine aC Tryz.func255 rfl Tryz.ntmps255 rfl ?_;refine CW.seq (CW.region (SW.box rfl rfl fun b1 w1 hw gI au => ?_));refine Wz ?_;exact ae.aF rfl rfl ⟨_,rfl,hw,rfl⟩
theorem qU (r:cJ) (l:List Block) (f t a:Int) (w:World) (hl:Sl w 3 aE r.ao.A r.ao.n l) (hu:qQ l) (hb:∀ b∈l,dr f t b) (h0 : 0≤f) (ht:t≤256) (hn:r.ao.n≤1000000000000000000) (ha : -1000≤a∧a≤1000) :
 a9 Tryz.prog 234 [.agg (cd r).toArray,.int .i64 a] w fun v _=>v = .tuple #[.int .i64 (bF l a:Int),.bool (bc l a)]:=by
 refine aC Tryz.func234 rfl Tryz.ntmps234 rfl ?_;refine CW.seq (CW.region (SW.box rfl rfl fun b1 w1 hw gI au => ?_))
 have cB:∀ w',Ext w w'→a9 Tryz.prog 105 [.slice r.ao.A r.ao.n r.ao.c,.int .i64 a,.func (.func 255) #[] #[]] w' fun v _=>v = .tuple #[.int .i64 (bF l a:Int),.bool (bc l a)]:=fun w' h =>
  fA _ _ _ _ _ _ (hl.ext h) _ (fun x hx w1 _=>rU x a w1 (by have:=(hb x hx).1;unfold dJ at this;omega) (by omega)) (By hu hb) hn
 repeat' (first|refine Wz ?_|(refine SW.call rfl rfl (cB _ hw) ?_;intro v w1 ab hv;subst hv;replace hw:=Ext.trans hw ab;replace au:=au.ext ab;clear ab))
 exact ae.eY rfl rfl rfl ⟨_,rfl,hw,rfl⟩
theorem nw (A:Option Addr) (n c:Nat) (l:List Block) (a o:Int) (w:World) (hl:Sl w 3 aE A n l) (hn:n*24≤140737488355328) :
 a9 Tryz.prog 124 [.slice A n c,.int .i64 a,.int .i64 o] w fun v w' => ∃ B c',v = .tuple #[.slice B (ba l a o).length c',.bool (l.any (lV a o))]∧Own w' w.heap.size 165 3 aE B (ba l a o).length c' (ba l a o):=by
 refine aC Tryz.func124 rfl Tryz.ntmps124 rfl ?_;have hw:=Ext.refl w;have hA:=hl.base;have lz:=hl.len;refine Wz ?_
 refine CW.loop (fun s:Nat×Option Addr×Nat=>[(0,.slice A n c),(1,.int .i64 a),(2,.int .i64 o),(8,.slice s.2.1 (ba (l.take s.1) a o).length s.2.2),(9,.bool ((l.take s.1).any (lV a o))),(10,.int .i64 (s.1:Int))])
  (fun s w'=>s.1≤n∧Ext w w'∧Own w' w.heap.size 165 3 aE s.2.1 (ba (l.take s.1) a o).length s.2.2 (ba (l.take s.1) a o)) (fun s=>n-s.1) (0,none,0) ⟨rfl,rfl,rfl,rfl,rfl,rfl,trivial⟩ ⟨by omega,hw,Own.er _ _ _ _ _ _⟩ ?_
 clear hw;rintro ⟨k,B,c'⟩ w' ⟨hk,hw,hO⟩
 simp only at hk hO ⊢;by_cases cc:k<n
 ·have cG:=hl.lt cc;have et:=List.take_succ_eq_append_getElem cG;have hlen:(ba (l.take k) a o).length≤k:=Nat.le_trans (List.length_filter_le _ _) (by simp;omega)
  cases hi:lV a o l[k]
  ·have e1:ba (l.take (k+1)) a o=ba (l.take k) a o++[l[k]]:=by unfold ba;rw [et,List.filter_append];simp [hi]
   have e2:(l.take (k+1)).any (lV a o)=(l.take k).any (lV a o):=by rw [et,List.any_append];simp [hi]
   have Ak : ¬ (l[k].At=a∧l[k].Order=o):=fun h=>by rw [eR.2 h] at hi;cases hi
   by_cases ha:l[k].At=a
   all_goals
    repeat' (first|refine Wz ?_|refine SW.st (aA hw rfl rfl ((hl.all cc))) rfl ?_|refine SW.st (ag hw rfl (hl.fE cc rfl)) rfl ?_)
    all_goals try omega
    refine SW.bW rfl rfl rfl rfl rfl fun b w1 ab hb hB => ?_
    replace hw:=Ext.trans hw ab;replace hO:=hO.ext ab;refine SW.append hO (aU.kf (enc:=aE) hB) hw.size rfl rfl rfl (by omega) (by omega) fun A2 c2 w2 e8 hg => ?_
    replace hw:=aK hw hg (Nat.le_refl _) hO.aN;refine Wz ?_;have e3:(ba (l.take (k+1)) a o).length=(ba (l.take k) a o).length+1:=by rw [e1];simp
    refine ae.again (k+1,A2,c2) ⟨rfl,rfl,rfl,by simp only;rw [e3];rfl,by simp only;rw [e2];rfl,rfl,trivial⟩ (by simp only;omega) ⟨by simp only;omega,hw,?_⟩;simp only;rw [e3,e1];exact e8
  ·have e1:ba (l.take (k+1)) a o=ba (l.take k) a o:=by unfold ba;rw [et,List.filter_append];simp [hi]
   have e2:(l.take (k+1)).any (lV a o)=true:=by rw [et,List.any_append];simp [hi]
   obtain ⟨h1,h2⟩:=eR.1 hi;repeat' (first|refine Wz ?_|refine SW.st (ag hw rfl (hl.fE cc rfl)) rfl ?_)
   refine ae.again (k+1,B,c') ⟨rfl,rfl,rfl,by simp only;rw [e1];rfl,by simp only;rw [e2];rfl,rfl,trivial⟩ (by simp only;omega) ⟨by simp only;omega,hw,?_⟩;simp only;rw [e1];exact hO
 ·refine Wz ?_;have et:l.take k=l:=List.take_of_length_le (by omega)
  rw [et] at hO;refine ae.eY rfl rfl rfl ⟨_,rfl,hw,B,c',?_,hO⟩;rw [et]
def zR (l:List Block) (a:Int) : Nat:=l.findIdx fun b=>decide (a<b.At)
theorem CZ {l:List Block} {a:Int} (h:∀ x∈l,x.At≠a) : zR l a=bF l a:=by
 unfold zR bF
 have:∀ q:List Block,(∀ x∈q,x.At≠a)→q.findIdx (fun b=>decide (a<b.At))=q.findIdx (fun b=>decide (a≤b.At)):=by
  intro q;induction q with
  | nil=>intro _;rfl
  | cons x r ih =>
    intro hq;have h1:=hq x (by simp);have h2:=ih (fun y hy=>hq y (by simp [hy]));simp only [List.findIdx_cons,h2];by_cases e:a<x.At
    ·rw [decide_eq_true e,decide_eq_true (by omega)]
    ·rw [decide_eq_false e,decide_eq_false (by omega)]
 exact this l h
open Go.RowKit
section
variable {P:Program} {L:Env} {w:World} {d:Option Nat} {T:TypeId} {pos:String} {af:Array Edge} {g:Option (Nat×Bool)}
theorem ny {t e:TypeId} {len sz:Nat} [c:vq P t len e sz] {x y:Operand} {ad:Addr} {i:Int} (k:Nat) (hx:bG L x=some (.pointer (some ad))) (hy:bG L y=some (.int .i64 i)) (hi:i=(k:Int)) (hk:k<len) :
 St P ⟨d,.indexAddr t x y,T,pos,af,g⟩ L w (.pointer (some (ad.add (k*sz)))) :=
 ⟨fun _ a ha w' _=>by
  subst hi;have e1:=ha.eval hx;have e2:=ha.eval hy;generalize a.eval = ρ at *
  simp [execOp,e1,e2,Instr.indexAt,Instr.sureAddr,asIntOf,run_underlying c.iK,run_sizeOf c.size,hk]⟩
end
theorem ae.C0 {P:Program} {fn:Func} {R:Ending→World→Prop} {n:Nat} {L:Env} {w:World} (hr:fn.results = #[]) (h:R (.returned (.tuple #[])) w) : ae n (bodyPost P fn R) .ret L w :=
 ⟨fun a ha=>⟨ha.defers,_,by simpa using iS.results (rs:=[]) hr .nil ha,h⟩⟩
theorem ae.wk {P:Program} {fn:Func} {R:Ending→World→Prop} {n:Nat} {L:Env} {w:World} (hr:fn.results = #[]) (h:R (.returned (.tuple #[])) w) : ae n (bodyPost P fn R) .normal L w :=
 ⟨fun a ha=>⟨ha.defers,_,by simpa using iS.results (rs:=[]) hr .nil ha,h⟩⟩
def dT (p:Nat→Bool) (N:Nat) (bad:Bool) : List Value:=(marksOf p N).map Value.bool++[.bool bad]
theorem lL (p:Nat→Bool) (N:Nat) (bad:Bool) : (dT p N bad).length=N+1:=by simp [dT,marksOf]
theorem pj (p:Nat→Bool) (N:Nat) (bad:Bool) : (dT p N bad)[N]?=some (.bool bad):=by
 unfold dT;rw [List.getElem?_append_right (by simp [marksOf])];simp [marksOf]
theorem wm (p:Nat→Bool) (N:Nat) (bad:Bool) {i:Nat} (h:i<N) : (dT p N bad)[i]?=some (.bool (p i)):=by
 unfold dT;rw [List.getElem?_append_left (by simp [marksOf];omega)];simp [marksOf,h]
theorem lj (p:Nat→Bool) (N:Nat) (bad b:Bool) : (dT p N bad).set N (.bool b)=dT p N b:=by
 unfold dT;rw [List.set_append_right _ _ (by simp [marksOf])];simp [marksOf]
theorem uL (p:Nat→Bool) (N:Nat) (bad:Bool) {i:Nat} (h:i<N) : (dT p N bad).set i (.bool true)=dT (fun j=>if j=i then true else p j) N bad:=by
 unfold dT;rw [List.set_append_left _ _ (by simp [marksOf];omega),← sW,List.map_set]
theorem jQ {p q:Nat→Bool} {N:Nat} {bad:Bool} (h:∀ i,i<N→p i=q i) : dT p N bad=dT q N bad:=by
 unfold dT;rw [qp h]
set_option maxHeartbeats 4000000 in
theorem tg (b:Nat) (p:Nat→Bool) (bad:Bool) (N:Nat) (hN:N=256) (a n:Int) (w:World) (hB:aU w b 224 (dT p N bad)) (hn : 0≤n∧n≤16) :
 kt Tryz.prog 178 [.pointer (some ⟨b,0,none⟩),.int .i64 a,.int .i64 n] w fun v w' => ∃ p' wo,aU w' b 224 (dT p' N wo)∧w.grownBy w' (some b)∧((D8 p a n∧wo=bad∧p'=qq p a n)∨(¬ D8 p a n∧wo=true)):=by
 refine fy Tryz.func178 rfl Tryz.ntmps178 rfl ?_;have wj:w.grownBy w (some b):=World.grownBy.refl _ _
 have hw:=Ext.refl w;by_cases cy : 0≤a∧a<256∧n≤256-a
 ·obtain ⟨h1,h2,h3⟩:=id cy;obtain ⟨k,rfl⟩:=Int.eq_ofNat_of_zero_le h1;obtain ⟨m,rfl⟩:=Int.eq_ofNat_of_zero_le hn.1;refine Wz ?_;clear hw
  refine CW.loop (fun j:Nat=>[(0,.pointer (some ⟨b,0,none⟩)),(1,.int .i64 (k:Int)),(2,.int .i64 (m:Int)),(6,.int .i64 ((k+j:Nat) : Int))])
   (fun j w'=>j≤m∧aU w' b 224 (dT (qq p k (j:Int)) N bad)∧w.grownBy w' (some b) ∧ ∀ i:Nat,k≤i→i<k+j→p i=false) (fun j=>m-j) 0
   ⟨rfl,rfl,rfl,rfl,trivial⟩ ⟨by omega,by rwa [jQ (q:=p) (fun i _=>by simp [qq]<;>omega)],wj,fun i h1 h2=>by omega⟩ ?_
  clear hB wj;rintro j w' ⟨hj,hB,hg,hI⟩
  have hw:=Ext.refl w';by_cases IZ:j<m
  ·have dH:k+j<N:=by omega
   have hc:=hB.cell (wm _ N bad dH);have hv:qq p k (j:Int) (k+j)=p (k+j):=by simp [qq]
   rw [hv] at hc;have rV:w'.cell? (((⟨b,0,none⟩ : Addr).add 0).add ((k+j)*1))=some (.bool (p (k+j))):=by rw [add_add];simpa using hc
   cases hp:p (k+j)
   ·rw [hp] at rV;repeat' (first|refine Wz ?_|refine SW.st (az rfl (rV)) rfl ?_|(refine SW.st (ny (k+j) rfl rfl rfl (by omega)) rfl ?_))
    have EO:(⟨b,0,none⟩ : Addr).add (k+j)=((⟨b,0,none⟩ : Addr).add 0).add ((k+j)*1):=by rw [add_add];simp
    refine SW.bT (i:=k+j) hB (by rw [EO];rfl) rfl rfl (by rw [lL];simp;omega) fun w3 nU wq => ?_
    rw [uL _ _ _ dH,jQ (q:=qq p k ((j+1:Nat) : Int)) (fun i _=>by
     by_cases e:i=k+j
     ·subst e;simp [qq];omega
     ·simp only [e,if_false,qq];congr 1
      by_cases e1:i<k+j
      ·rw [decide_eq_true (show (i:Int)<(k:Int)+(j:Int) by omega),decide_eq_true (show (i:Int)<(k:Int)+((j+1:Nat) : Int) by omega)]
      ·rw [decide_eq_false (show ¬ (i:Int)<(k:Int)+(j:Int) by omega),decide_eq_false (show ¬ (i:Int)<(k:Int)+((j+1:Nat) : Int) by omega)])] at nU
    have nv:=bi hg wq (.inl rfl);clear hw;have hw:=Ext.refl w3;refine Wz ?_;refine ae.again (j+1) ⟨rfl,rfl,rfl,rfl,trivial⟩ (by omega) ⟨by omega,nU,nv,fun i h1 h2 => ?_⟩;by_cases e:i=k+j
    ·subst e;exact hp
    ·exact hI i h1 (by omega)
   ·rw [hp] at rV;repeat' (first|refine Wz ?_|refine SW.st (az rfl (rV)) rfl ?_|(refine SW.st (ny (k+j) rfl rfl rfl (by omega)) rfl ?_))
    subst hN;refine SW.bT (i:=256) hB rfl rfl rfl (by rw [lL];rfl) fun w3 nU wq => ?_
    rw [lj] at nU;clear hw;have hw:=Ext.refl w3;refine Wz ?_;exact ae.C0 rfl ⟨_,rfl,_,true,nU,bi hg wq (.inl rfl),.inr ⟨(fun h=>by have:=h.2.2.2 (k+j) (by omega) (by omega);rw [hp] at this;cases this),rfl⟩⟩
  ·obtain rfl:j=m:=by omega
   refine Wz ?_;exact ae.wk rfl ⟨_,rfl,_,bad,hB,hg,.inl ⟨⟨h1,h2,h3,fun i h4 h5=>hI i (by omega) (by omega)⟩,rfl,rfl⟩⟩
 ·have lc : ¬ D8 p a n:=fun h=>cy ⟨h.1,h.2.1,h.2.2.1⟩
  subst hN;repeat' (first|refine Wz ?_|refine SW.dv rfl rfl rfl (fun h => ?_) (fun h => ?_))
  all_goals
   first
    | (exfalso;omega)
    | (refine SW.bT (i:=256) hB rfl rfl rfl (by rw [lL];rfl) fun w3 nU wq => ?_
       rw [lj] at nU;clear hw;have hw:=Ext.refl w3;refine Wz ?_;exact ae.C0 rfl ⟨_,rfl,_,true,nU,wq,.inr ⟨lc,rfl⟩⟩)
open Go.RowKit
def Marks (w:World) (b N:Nat) : Option (List Block)→Prop
 | some bs=>aU w b 224 (dT (dI bs) N false)
 | none => ∃ p,aU w b 224 (dT p N true)
theorem Marks.ext {w w':World} {b N:Nat} {s:Option (List Block)} (h:Marks w b N s) (hx:Ext w w') : Marks w' b N s:=by
 cases s with
 | none=>obtain ⟨p,h⟩:=h;exact ⟨p,aU.ext h hx⟩
 | some bs=>exact aU.ext h hx
theorem Marks.bad {w:World} {b N:Nat} {s:Option (List Block)} (h:Marks w b N s) (hN:N=256) : w.cell? ((⟨b,0,none⟩ : Addr).add 256)=some (.bool s.isNone):=by
 subst hN;cases s with
 | none=>obtain ⟨p,h⟩:=h;exact aU.cell h (pj _ _ _)
 | some bs=>exact aU.cell h (pj _ _ _)
theorem Marks.gr {w w':World} {b N:Nat} {s:Option (List Block)} (h:Marks w b N s) (hg:w.grownBy w' (some b)) : oo w w' 224:=by
 cases s with
 | none=>obtain ⟨p,h⟩:=h;exact aU.gr h hg
 | some bs=>exact aU.gr h hg
theorem m9 (b:Nat) (s:Option (List Block)) (x:Block) (N:Nat) (hN:N=256) (w:World) (hM:Marks w b N s) (hs:kn s) (hp : 1≤pw x.Order∧pw x.Order≤16) :
 kt Tryz.prog 178 [.pointer (some ⟨b,0,none⟩),.int .i64 x.At,.int .i64 (pw x.Order)] w fun v w'=>Marks w' b N (ig s x)∧w.grownBy w' (some b):=by
 cases s with
 | none =>
   obtain ⟨p,hB⟩:=hM;refine ⟨Calls.mono (tg b p true N hN x.At (pw x.Order) w hB ⟨by omega,hp.2⟩).out ?_⟩;rintro e w' ⟨v,he,p',wo,nU,hg,h⟩
   refine ⟨v,he,?_,hg⟩;have:wo=true:=by rcases h with ⟨_,h,_⟩|⟨_,h⟩<;>exact h
   subst this;exact ⟨p',nU⟩
 | some bs =>
   refine ⟨Calls.mono (tg b (dI bs) false N hN x.At (pw x.Order) w hM ⟨by omega,hp.2⟩).out ?_⟩;rintro e w' ⟨v,he,p',wo,nU,hg,h⟩
   refine ⟨v,he,?_,hg⟩;have wu:=ou (hs bs rfl) (b:=x) hp.1;rcases h with ⟨h1,rfl,rfl⟩|⟨h1,rfl⟩
   ·have:ig (some bs) x=some (bs++[x]):=by simp [ig,wu.1 h1]
    rw [this];show aU w' b _ _
    rw [← jQ (fun i _=>xY bs x i)];exact nU
   ·have:ig (some bs) x=none:=by
     simp only [ig];rw [if_neg (fun hf=>h1 (wu.2 hf))]
    rw [this];exact ⟨p',nU⟩
theorem na (r s:bP) (a b:aJ) (w:World) (ha:r.dq=a.dq∧r.ay=a.ay∧r.Ty=a.Ty) (hb:s.dq=b.dq∧s.ay=b.ay∧s.Ty=b.Ty) :
 a9 Tryz.prog 194 [.agg (bg r).toArray,.agg (bg s).toArray] w fun v _=>v = .bool (decide (bk a b)):=by
 refine aC Tryz.func194 rfl Tryz.ntmps194 rfl ?_;refine CW.seq (CW.region (SW.box rfl rfl fun b2 w1 hw ff ax => ?_));refine SW.box rfl rfl fun b3 w2 cg bM ap => ?_
 (replace hw:=Ext.trans hw cg;replace ax:=ax.ext cg);obtain ⟨a1,a2,a3⟩:=ha;obtain ⟨b1,EP,EQ⟩:=hb;have key:bk a b↔(r.dq<s.dq∨(r.dq=s.dq∧(r.ay<s.ay∨(r.ay=s.ay∧r.Ty<s.Ty)))):=by unfold bk;rw [a1,a2,a3,b1,EP,EQ]
 by_cases h1:r.dq<s.dq
 ·rw [decide_eq_true (key.2 (by omega))];refine Wz ?_;all_goals first|(exfalso;omega)|exact ae.aF rfl rfl ⟨_,rfl,hw,by simp [h1]⟩
 ·by_cases h2:r.dq=s.dq
  ·by_cases h3:r.ay<s.ay
   ·rw [decide_eq_true (key.2 (by omega))];refine Wz ?_;all_goals first|(exfalso;omega)|exact ae.aF rfl rfl ⟨_,rfl,hw,by simp [h3]⟩
   ·by_cases h4:r.ay=s.ay
    ·by_cases h5:r.Ty<s.Ty
     ·rw [decide_eq_true (key.2 (by omega))];refine Wz ?_;all_goals first|(exfalso;omega)|exact ae.aF rfl rfl ⟨_,rfl,hw,by simp [h5]⟩
     ·rw [decide_eq_false (fun h=>by have:=key.1 h;omega)];refine Wz ?_;all_goals first|(exfalso;omega)|exact ae.aF rfl rfl ⟨_,rfl,hw,by simp [h5]⟩
    ·rw [decide_eq_false (fun h=>by have:=key.1 h;omega)];refine Wz ?_;all_goals first|(exfalso;omega)|exact ae.aF rfl rfl ⟨_,rfl,hw,by simp [h3]⟩
  ·rw [decide_eq_false (fun h=>by have:=key.1 h;omega)];refine Wz ?_;all_goals first|(exfalso;omega)|exact ae.aF rfl rfl ⟨_,rfl,hw,by simp [h1]⟩
theorem pk (r s:bP) (a b:aJ) (w:World) (ha:r.dq=a.dq∧r.ay=a.ay∧r.Ty=a.Ty) (hb:s.dq=b.dq∧s.ay=b.ay∧s.Ty=b.Ty) :
 a9 Tryz.prog 198 [.agg (bg r).toArray,.agg (bg s).toArray] w fun v _=>v = .bool (decide (bk a b)):=by
 refine aC Tryz.func198 rfl Tryz.ntmps198 rfl ?_;refine CW.seq (CW.region (SW.box rfl rfl fun b2 w1 hw ff ax => ?_));refine SW.box rfl rfl fun b3 w2 cg bM ap => ?_
 (replace hw:=Ext.trans hw cg;replace ax:=ax.ext cg);obtain ⟨a1,a2,a3⟩:=ha;obtain ⟨b1,EP,EQ⟩:=hb;have key:bk a b↔(r.dq<s.dq∨(r.dq=s.dq∧(r.ay<s.ay∨(r.ay=s.ay∧r.Ty<s.Ty)))):=by unfold bk;rw [a1,a2,a3,b1,EP,EQ]
 by_cases h1:r.dq<s.dq
 ·rw [decide_eq_true (key.2 (by omega))];refine Wz ?_;all_goals first|(exfalso;omega)|exact ae.aF rfl rfl ⟨_,rfl,hw,by simp [h1]⟩
 ·by_cases h2:r.dq=s.dq
  ·by_cases h3:r.ay<s.ay
   ·rw [decide_eq_true (key.2 (by omega))];refine Wz ?_;all_goals first|(exfalso;omega)|exact ae.aF rfl rfl ⟨_,rfl,hw,by simp [h3]⟩
   ·by_cases h4:r.ay=s.ay
    ·by_cases h5:r.Ty<s.Ty
     ·rw [decide_eq_true (key.2 (by omega))];refine Wz ?_;all_goals first|(exfalso;omega)|exact ae.aF rfl rfl ⟨_,rfl,hw,by simp [h5]⟩
     ·rw [decide_eq_false (fun h=>by have:=key.1 h;omega)];refine Wz ?_;all_goals first|(exfalso;omega)|exact ae.aF rfl rfl ⟨_,rfl,hw,by simp [h5]⟩
    ·rw [decide_eq_false (fun h=>by have:=key.1 h;omega)];refine Wz ?_;all_goals first|(exfalso;omega)|exact ae.aF rfl rfl ⟨_,rfl,hw,by simp [h3]⟩
  ·rw [decide_eq_false (fun h=>by have:=key.1 h;omega)];refine Wz ?_;all_goals first|(exfalso;omega)|exact ae.aF rfl rfl ⟨_,rfl,hw,by simp [h1]⟩
structure qt (w:World) (r:eu) (h:Heap) (r0 r1:cJ) (z0 z1:ay) : Prop where
 rd:sC w r h
 eq:h.aI=[z0,z1]
 n:r.aI.n=2
 row:Sl w 4 cd r.aI.A r.aI.n [r0,r1]
 z0:p7 w r0 z0
 z1:p7 w r1 z1
theorem qt.ext {w w':World} {r:eu} {h:Heap} {r0 r1:cJ} {z0 z1:ay} (a:qt w r h r0 r1 z0 z1) (hx:Ext w w') : qt w' r h r0 r1 z0 z1 :=
 ⟨a.rd.ext hx,a.eq,a.n,a.row.ext hx,a.z0.ext hx,a.z1.ext hx⟩
theorem qt.c0 {w:World} {r:eu} {h:Heap} {r0 r1:cJ} {z0 z1:ay} (a:qt w r h r0 r1 z0 z1) (j:Nat) (u:Value) (hu:(cd r0)[j]?=some u) : w.cell? (((r.aI.A.getD default).add (0*4)).add j)=some u:=a.row.cell 0 (by simp) j u hu
theorem qt.c1 {w:World} {r:eu} {h:Heap} {r0 r1:cJ} {z0 z1:ay} (a:qt w r h r0 r1 z0 z1) (j:Nat) (u:Value) (hu:(cd r1)[j]?=some u) : w.cell? (((r.aI.A.getD default).add (1*4)).add j)=some u:=a.row.cell 1 (by simp) j u hu
theorem lM {α:Type} {l:List α} (h:l.length=2) : ∃ a b,l=[a,b]:=by
 match l,h with
 | [a,b],_=>exact ⟨a,b,rfl⟩
theorem sC.two {w:World} {r:eu} {h:Heap} (a:sC w r h) (hl:h.aI.length=2) : ∃ r0 r1 z0 z1,qt w r h r0 r1 z0 z1:=by
 obtain ⟨zs,hz⟩:=a.bU;obtain ⟨z0,z1,e1⟩:=lM hl;have l0:=hz.each.len;obtain ⟨r0,r1,e2⟩:=lM (show zs.length=2 by omega);subst e2;have l1:=hz.row.len;have h0:=hz.each.get 0 (by simp) (by omega);have h1:=hz.each.get 1 (by simp) (by omega);simp only [e1] at h0 h1;exact ⟨r0,r1,z0,z1,a,e1,by simpa using l1.symm,hz.row,h0,h1⟩
theorem wv (r:eu) (h:Heap) (r0 r1:cJ) (z0 z1:ay) (x:Int) (w:World) (hr:qt w r h r0 r1 z0 z1) :
 a9 Tryz.prog 110 [.agg (bl r).toArray,.int .i64 x] w fun v _=>v = .int .i64 (if x<z0.To then 0 else 1):=by
 refine aC Tryz.func110 rfl Tryz.ntmps110 rfl ?_;refine CW.seq (CW.region (SW.box rfl rfl fun b2 w1 hw ff ax => ?_));have hn:=hr.n;have hA:=hr.row.base;have e1:=hr.z0.jF;by_cases hx:x<z0.To
 ·rw [if_pos hx];repeat' (first|refine Wz ?_|refine SW.st (aV (0) rfl rfl (by assumption) (by omega) (by omega)) rfl ?_|refine SW.st (ag hw rfl (hr.c0 1 _ rfl)) rfl ?_)
  exact ae.aF rfl rfl ⟨_,rfl,hw,rfl⟩
 ·rw [if_neg hx];repeat' (first|refine Wz ?_|refine SW.st (aV (0) rfl rfl (by assumption) (by omega) (by omega)) rfl ?_|refine SW.st (ag hw rfl (hr.c0 1 _ rfl)) rfl ?_)
  exact ae.aF rfl rfl ⟨_,rfl,hw,rfl⟩
open Go.RowKit
structure GB (w w':World) (b:Nat) : Prop where
 g:w.grownBy w' (some b)
theorem GB.refl (w:World) (b:Nat) : GB w w b:=⟨World.grownBy.refl _ _⟩
theorem GB.ext {w w1 w2:World} {b:Nat} (h:GB w w1 b) (hx:Ext w1 w2) : GB w w2 b:=⟨bi h.g (hx.gr (some b)) (.inl rfl)⟩
theorem GB.step {w w1 w2:World} {b:Nat} (h:GB w w1 b) (hg:w1.grownBy w2 (some b)) : GB w w2 b:=⟨bi h.g hg (.inl rfl)⟩
theorem wx (b:Nat) (s:Option (List Block)) (p:Int) (N:Nat) (hN:N=256) (w:World) (hM:Marks w b N s) (hs:kn s) :
 kt Tryz.prog 178 [.pointer (some ⟨b,0,none⟩),.int .i64 p,.int .i64 1] w fun v w'=>Marks w' b N (ig s (bz p))∧w.grownBy w' (some b):=by
 have h:=m9 b s (bz p) N hN w hM hs (by simp [bz,ij]);simp only [bz,ij] at h ⊢;exact h
def yf (w wE:World) (b N:Nat) (s:Option (List Block)) (h:Heap) (to:Int) (v:Value) (w':World) : Prop :=
 Ext w w'∧wE.grownBy w' (some b)∧((v = .bool true∧iY h.bt to h.ak∧Marks w' b N (aY s (aT h.ak)))∨(v = .bool false ∧ ¬ (iY h.bt to h.ak∧(aY s (aT h.ak)).isSome=true)))
structure rW (dc to:Int) (ls:List aJ) (k:Nat) : Prop where
 head:∀ (i:Nat) (h:i<ls.length),i<k→ko dc ls[i]
 next:∀ (i:Nat) (h:i+1<ls.length),i+1<k→bk ls[i] ls[i+1]
 fL:∀ (i:Nat) (h:i<ls.length),i<k → ∀ p∈(ls[i]).aw,(p<to↔(ls[i]).ay=0)
theorem rW.nil (dc to:Int) (ls:List aJ) : rW dc to ls 0:=⟨fun i _ h=>by omega,fun i _ h=>by omega,fun i _ h=>by omega⟩
theorem rW.all {dc to:Int} {ls:List aJ} {k:Nat} (h:rW dc to ls k) (hk:ls.length≤k) : iY dc to ls:=⟨fun i hi=>h.head i hi (by omega),fun i hi=>h.next i hi (by omega),fun i hi=>h.fL i hi (by omega)⟩
theorem rW.snoc {dc to:Int} {ls:List aJ} {k:Nat} (h:rW dc to ls k) (hk:k<ls.length) (h1:ko dc ls[k]) (h2:∀ (h : 0<k),bk ls[k-1] ls[k]) (h3:∀ p∈(ls[k]).aw,(p<to↔(ls[k]).ay=0)) : rW dc to ls (k+1):=by
 refine ⟨fun i hi vx => ?_,fun i hi vx => ?_,fun i hi vx => ?_⟩
 ·by_cases e:i=k
  ·subst e;exact h1
  ·exact h.head i hi (by omega)
 ·by_cases e:i+1=k
  ·subst e;exact h2 (by omega)
  ·exact h.next i hi (by omega)
 ·by_cases e:i=k
  ·subst e;exact h3
  ·exact h.fL i hi (by omega)
theorem nz {s:Option (List Block)} {ls:List aJ} {k j:Nat} (hk:k<ls.length) (hj:j≤(ls[k]).aw.length) (h:aY (aY s (aT (ls.take k))) (((ls[k]).aw.take j).map bz)=none) : aY s (aT ls)=none:=by
 rw [← a8] at h
 have e:aT ls=(aT (ls.take k)++((ls[k]).aw.take j).map bz)++(((ls[k]).aw.drop j).map bz++aT (ls.drop (k+1))):=by
  have e1:ls=ls.take (k+1)++ls.drop (k+1):=by simp
  have e2:((ls[k]).aw.take j).map bz++((ls[k]).aw.drop j).map bz=(ls[k]).aw.map bz:=by rw [← List.map_append,List.take_append_drop]
  have e3:aT ls=aT (ls.take (k+1))++aT (ls.drop (k+1)):=by unfold aT;rw [← List.flatMap_append,← e1]
  rw [e3,iZ _ _ hk,← e2];simp only [List.append_assoc]
 rw [e,a8,h,ed]
set_option maxHeartbeats 8000000 in
theorem wy (r:eu) (h:Heap) (r0 r1:cJ) (z0 z1:ay) (b N:Nat) (hN:N=256) (s:Option (List Block)) (w wE:World) (hw:Ext w wE) (Al:w.heap.size≤b) (hr:qt w r h r0 r1 z0 z1) (hM:Marks wE b N s) (Hd:kn s) (Ec:r.ak.n≤1000000000000000000) :
 kt Tryz.prog 179 [.agg (bl r).toArray,.pointer (some ⟨b,0,none⟩)] wE (yf w wE b N s h z0.To):=by
 refine fy Tryz.func179 rfl Tryz.ntmps179 rfl ?_;have hE:=GB.refl wE b;refine CW.seq (CW.region (SW.box rfl rfl fun b2 w2 cg ff ax => ?_));(replace hw:=Ext.trans hw cg;replace hM:=hM.ext cg;replace hE:=hE.ext cg);obtain ⟨ls,hl⟩:=hr.rd.lists;have ku:=hr.rd.dc;obtain ⟨vG,He⟩:=hl.len;have hA:=hl.row.base;refine Wz ?_
 refine CW.loop (fun k:Nat=>[(1,.pointer (some ⟨b,0,none⟩)),(2,.pointer (some ⟨b2,0,none⟩)),(10,.slice r.ak.A r.ak.n r.ak.c),(11,.int .i64 (r.ak.n:Int)),(12,.int .i64 (k:Int))])
  (fun k w'=>k≤r.ak.n∧Ext w w'∧GB wE w' b∧aU w' b2 41 (bl r)∧Marks w' b N (aY s (aT (h.ak.take k)))∧rW h.bt z0.To h.ak k) (fun k=>r.ak.n-k) 0
  ⟨rfl,rfl,rfl,rfl,rfl,trivial⟩ ⟨by omega,hw,hE,ax,hM,.nil _ _ _⟩ ?_
 clear hw hE ax hM cg;rintro k w' ⟨hk,hw,hE,ax,hM,hP⟩
 by_cases cc:k<r.ak.n
 ·have cG:k<ls.length:=by omega
  have rX:k<h.ak.length:=by omega
  have wz:=hl.each.get k cG rX;have ER:=wz.cpu;have ES:=wz.fL;have dH:=wz.ty;have Hf:=wz.cw.len;have Hg:=wz.cw.base;have qu:=wz.cw;have ez:=hl.row.all cc;have gi:=hl.row.all (i:=k-1) (show k-1<r.ak.n by omega)
  have Hh:kn (aY s (aT (h.ak.take k))):=fH Hd fun x hx=>by
   unfold aT at hx;obtain ⟨y,_,hy⟩:=List.mem_flatMap.1 hx;obtain ⟨p,_,rfl⟩:=List.mem_map.1 hy;simp [bz,ij]
  repeat' (first|refine Wz ?_|refine SW.st (aA hw rfl rfl ((ez))) rfl ?_)
  refine SW.alloc rfl fun b6 w1 ab eJ aB => ?_
  refine Wz ?_;refine SW.aj aB rfl rfl rfl rfl (fM.one (enc:=bg) _) fun w2 gg hg => ?_
  have ai:=ab.own eJ hg;have cX:w.heap.size≤b6:=Nat.le_trans hw.size eJ
  replace hw:=Ext.trans hw ai;replace ax:=ax.ext ai;replace hM:=hM.ext ai;replace hE:=hE.ext ai;replace aB:=gg;clear gg ab hg ai;refine Wz ?_;by_cases Bz:ko r.bt h.ak[k]
  ·obtain ⟨e1,e2,e3,e4⟩:=id Bz;obtain ⟨q,hq⟩ : ∃ q,decide (bk (h.ak[k-1]'(by omega)) h.ak[k])=q:=⟨_,rfl⟩;have uM:=hl.each.get (k-1) (by omega) (by omega)
   have cL:∀ w',a9 Tryz.prog 194 [.agg (bg (ls[k-1]'(by omega))).toArray,.agg (bg ls[k]).toArray] w' fun v _=>v = .bool q:=fun w'=>by
    have:=na (ls[k-1]'(by omega)) ls[k] (h.ak[k-1]'(by omega)) h.ak[k] w' ⟨uM.cpu,uM.fL,uM.ty⟩ ⟨ER,ES,dH⟩
    rwa [hq] at this
   have qV:k=0∨(0<k∧q=true)∨(0<k∧q=false):=by cases q<;>simp<;>omega
   rw [or_comm,or_assoc] at qV;rcases qV with ⟨lh,rfl⟩|⟨lh,rfl⟩|lh
   rotate_left
   ·repeat' (first|refine Wz ?_|(first|refine CW.cU rfl ?_|(apply CW.aM mixed;(· kernel_rfl);rotate_left;intro w1 ab;replace hw:=Ext.trans hw ab;replace ax:=ax.ext ab;replace aB:=aB.ext ab;replace hM:=hM.ext ab;replace hE:=hE.ext ab;clear ab;rotate_right))|refine SW.st (aV (k-1) rfl rfl (by assumption) (by omega) (by omega)) rfl ?_|refine SW.st (aA hw rfl rfl ((gi))) rfl ?_|refine SW.bf rfl rfl (fun w1 ab=>(cL _)) ?_|exact SW.br rfl)
    exact ae.aF rfl rfl ⟨_,rfl,hw,hE.g,.inr ⟨rfl,fun hh=>by
     have:=hh.1.next (k-1) (by omega)
     simp only [show k-1+1=k by omega] at this;exact of_decide_eq_false hq this⟩⟩
   all_goals
    have ET:∀ (h0 : 0<k),bk (h.ak[k-1]'(by omega)) h.ak[k]:=fun h0=>by first|exact of_decide_eq_true hq|omega
    repeat' (first|refine Wz ?_|(first|refine CW.cj rfl ?_|(apply CW.aM mixed;(· kernel_rfl);rotate_left;intro w1 ab;replace hw:=Ext.trans hw ab;replace ax:=ax.ext ab;replace aB:=aB.ext ab;replace hM:=hM.ext ab;replace hE:=hE.ext ab;clear ab;rotate_right))|refine SW.st (aV (k-1) rfl rfl (by assumption) (by omega) (by omega)) rfl ?_|refine SW.st (aA hw rfl rfl ((gi))) rfl ?_|refine SW.bf rfl rfl (fun w1 ab=>(cL _)) ?_|exact SW.br rfl)
    clear cL hq ez gi
    refine CW.loop (fun j:Nat=>[(1,.pointer (some ⟨b,0,none⟩)),(2,.pointer (some ⟨b2,0,none⟩)),(6,.pointer (some ⟨b6,0,none⟩)),(10,.slice r.ak.A r.ak.n r.ak.c),(11,.int .i64 (r.ak.n:Int)),(12,.int .i64 (k:Int)),(75,.slice ls[k].aw.A ls[k].aw.n ls[k].aw.c),(76,.int .i64 (ls[k].aw.n:Int)),(77,.int .i64 (j:Int))])
     (fun j w'=>j≤ls[k].aw.n∧Ext w w'∧GB wE w' b∧aU w' b2 41 (bl r)∧aU w' b6 142 (bg ls[k])∧Marks w' b N (aY (aY s (aT (h.ak.take k))) ((h.ak[k].aw.take j).map bz)) ∧ ∀ (i:Nat) (hi:i<h.ak[k].aw.length),i<j→(h.ak[k].aw[i]<z0.To↔h.ak[k].ay=0)) (fun j=>ls[k].aw.n-j) 0
     ⟨rfl,rfl,rfl,rfl,rfl,rfl,rfl,rfl,rfl,trivial⟩ ⟨by omega,hw,hE,ax,aB,hM,fun i _ h=>by omega⟩ ?_
    clear hw hE ax aB hM eJ cX;rintro j w' ⟨hj,hw,hE,ax,aB,hM,hZ⟩
    by_cases fF:j<ls[k].aw.n
    ·have jq:j<h.ak[k].aw.length:=by omega
     repeat' (first|refine Wz ?_|refine SW.st (ag hw rfl (qu.one fF rfl)) rfl ?_)
     refine SW.ie rfl rfl (wx b _ h.ak[k].aw[j] N hN _ hM (fH Hh fun x hx=>by
      obtain ⟨p,_,rfl⟩:=List.mem_map.1 hx;simp [bz,ij])) fun v w5 hv => ?_
     obtain ⟨uN,uu⟩:=hv;have hG:=hM.gr uu;replace hw:=hw.own Al uu;replace hE:=hE.step uu;(replace ax:=ax.aD hG rfl;replace aB:=aB.aD hG rfl)
     have e5:ig (aY (aY s (aT (h.ak.take k))) ((h.ak[k].aw.take j).map bz)) (bz h.ak[k].aw[j])=aY (aY s (aT (h.ak.take k))) ((h.ak[k].aw.take (j+1)).map bz):=by
      rw [List.take_succ_eq_append_getElem jq,List.map_append,a8];rfl
     rw [e5] at uN;have k6:=uN.bad hN;generalize hp:h.ak[k].aw[j]=p
     obtain ⟨y,hy⟩ : ∃ y,(if p<z0.To then (0:Int) else 1)=y:=⟨_,rfl⟩
     have cZ:∀ w',Ext w w'→a9 Tryz.prog 110 [.agg (bl r).toArray,.int .i64 p] w' fun v _=>v = .int .i64 y:=fun w' hx=>by
      have:=wv r h r0 r1 z0 z1 p w' (hr.ext hx)
      rwa [hy] at this
     cases hs:aY (aY s (aT (h.ak.take k))) ((h.ak[k].aw.take (j+1)).map bz) with
     | none =>
       rw [hs] at k6;repeat' (first|refine Wz ?_|((apply CW.aM mixed;(· kernel_rfl);rotate_left;intro w1 ab;replace hw:=Ext.trans hw ab;replace ax:=ax.ext ab;replace aB:=aB.ext ab;replace uN:=uN.ext ab;replace hE:=hE.ext ab;clear ab;rotate_right))|refine SW.skip rfl rfl rfl rfl ?_|refine SW.st (az rfl k6) rfl ?_|exact SW.br rfl)
       exact ae.aF rfl rfl ⟨_,rfl,hw,hE.g,.inr ⟨rfl,fun hh=>by
        have:=hh.2
        rw [nz rX (by omega) hs] at this;cases this⟩⟩
     | some bs =>
       rw [hs] at k6;by_cases hz:y=ls[k].ay
       ·repeat' (first|refine Wz ?_|((apply CW.aM mixed;(· kernel_rfl);rotate_left;intro w1 ab;replace hw:=Ext.trans hw ab;replace ax:=ax.ext ab;replace aB:=aB.ext ab;replace uN:=uN.ext ab;replace hE:=hE.ext ab;clear ab;rotate_right))|refine SW.want rfl rfl ?_|refine SW.st (az rfl k6) rfl ?_|refine SW.bf rfl rfl (fun w1 ab=>(cZ _ (Ext.trans hw ab))) ?_|exact SW.br rfl)
        refine ae.again (j+1) ⟨rfl,rfl,rfl,rfl,rfl,rfl,rfl,rfl,rfl,trivial⟩ (by omega) ⟨by omega,hw,hE,ax,aB,uN,fun i hi jN => ?_⟩;by_cases e:i=j
        ·subst e;rw [hp];split at hy<;>constructor<;>intro _<;>omega
        ·exact hZ i hi (by omega)
       ·repeat' (first|refine Wz ?_|((apply CW.aM mixed;(· kernel_rfl);rotate_left;intro w1 ab;replace hw:=Ext.trans hw ab;replace ax:=ax.ext ab;replace aB:=aB.ext ab;replace uN:=uN.ext ab;replace hE:=hE.ext ab;clear ab;rotate_right))|refine SW.want rfl rfl ?_|refine SW.st (az rfl k6) rfl ?_|refine SW.bf rfl rfl (fun w1 ab=>(cZ _ (Ext.trans hw ab))) ?_|exact SW.br rfl)
        exact ae.aF rfl rfl ⟨_,rfl,hw,hE.g,.inr ⟨rfl,fun hh=>by
         have:=hh.1.fL k rX p (by rw [← hp];exact List.getElem_mem _)
         split at hy<;>omega⟩⟩
    ·obtain rfl:j=ls[k].aw.n:=by omega
     rw [List.take_of_length_le (l:=h.ak[k].aw) (by omega),← a8,← iZ _ _ rX] at hM;refine Wz ?_;refine ae.again (k+1) ⟨rfl,rfl,rfl,rfl,rfl,trivial⟩ (by omega) ⟨by omega,hw,hE,ax,hM,hP.snoc rX (by rwa [← ku]) ET fun p hp => ?_⟩;obtain ⟨i,hi,rfl⟩:=List.getElem_of_mem hp;exact hZ i hi (by omega)
  ·have lc : ¬ iY h.bt z0.To h.ak:=fun hh=>Bz (by have:=hh.head k rX;rwa [← ku] at this)
   have EU : ¬ (((0≤ls[k].dq∧ls[k].dq<r.bt)∧(0≤ls[k].ay∧ls[k].ay≤1)∧(0≤ls[k].Ty∧ls[k].Ty≤2)∧(1≤ls[k].aw.n∧ls[k].aw.n≤8))):=fun hh=>Bz (by unfold ko;omega)
   have fK:ls[k].dq<0∨(0≤ls[k].dq∧(r.bt≤ls[k].dq∨(ls[k].dq<r.bt∧(ls[k].ay<0∨(0≤ls[k].ay∧(1<ls[k].ay∨(ls[k].ay≤1∧(ls[k].Ty<0∨(0≤ls[k].Ty∧(3≤ls[k].Ty∨(ls[k].Ty<3∧(ls[k].aw.n=0∨(0<ls[k].aw.n∧8<ls[k].aw.n))))))))))))):=by omega
   rcases fK with d|⟨d1,d|⟨d2,d|⟨d3,d|⟨d4,d|⟨d5,d|⟨d6,d|⟨d7,d⟩⟩⟩⟩⟩⟩⟩
   repeat' (first|refine Wz ?_|((apply CW.aM mixed;(· kernel_rfl);rotate_left;intro w1 ab;replace hw:=Ext.trans hw ab;replace ax:=ax.ext ab;replace aB:=aB.ext ab;replace hM:=hM.ext ab;replace hE:=hE.ext ab;clear ab;rotate_right))|exact SW.br rfl)
   all_goals exact ae.aF rfl rfl ⟨_,rfl,hw,hE.g,.inr ⟨rfl,fun hh=>lc hh.1⟩⟩
 ·obtain rfl:k=r.ak.n:=by omega
  rw [List.take_of_length_le (l:=h.ak) (by omega)] at hM;refine Wz ?_;exact ae.aF rfl rfl ⟨_,rfl,hw,hE.g,.inl ⟨rfl,hP.all (by omega),hM⟩⟩
open Go.RowKit
theorem nA {l:List Block}:∀ {s:Option (List Block)},(aY s l).isSome=true → ∀ b∈l,0≤b.At∧b.At+pw b.Order≤256:=by
 induction l with
 | nil=>intro s _ b hb;simp at hb
 | cons x l ih =>
   intro s h b hb;have h':(aY (ig s x) l).isSome=true:=h
   rcases List.mem_cons.1 hb with rfl|hb
   ·cases e:ig s b with
    | none=>rw [e,ed] at h';cases h'
    | some bs=>obtain ⟨cs,_,hf,_⟩:=jw e;exact ⟨hf.1,hf.2.1⟩
   ·exact ih h' b hb
def qW (b:Block) : Prop:=(0≤b.Order∧b.Order≤4)∧0≤b.At∧b.At % pw b.Order=0∧j3 b.Ty
structure pn (l:List Block) (k:Nat) : Prop where
 each:∀ (i:Nat) (h:i<l.length),i<k→qW l[i]
 next:∀ (i:Nat) (h:i+1<l.length),i+1<k→l[i].At<l[i+1].At
theorem pn.nil (l:List Block) : pn l 0:=⟨fun i _ h=>by omega,fun i _ h=>by omega⟩
theorem pn.snoc {l:List Block} {k:Nat} (h:pn l k) (hk:k<l.length) (h1:qW l[k]) (h2:∀ (h : 0<k),l[k-1].At<l[k].At) : pn l (k+1):=by
 refine ⟨fun i hi vx => ?_,fun i hi vx => ?_⟩
 ·by_cases e:i=k
  ·subst e;exact h1
  ·exact h.each i hi (by omega)
 ·by_cases e:i+1=k
  ·subst e;exact h2 (by omega)
  ·exact h.next i hi (by omega)
theorem pn.ok {l:List Block} {k:Nat} {s:Option (List Block)} (h:pn l k) (hk:l.length≤k) (hf:(aY s l).isSome=true) : kq l:=by
 refine ⟨fun i hi => ?_,fun i hi=>h.next i hi (by omega)⟩;obtain ⟨h1,h2,h3,h4⟩:=h.each i hi (by omega);have h5:=nA hf _ (List.getElem_mem hi);have h6:=cu h1.1 h1.2;exact ⟨h1,⟨h2,by omega⟩,h3,h4⟩
def qv (n:Int) : Bool:=decide (n<0) || decide (256<n)
theorem yg (x:Int) (w:World) : a9 Tryz.prog 177 ([.int .i64 x]++[]) w fun v _=>v = .bool (qv x):=by
 refine aC Tryz.func177 rfl Tryz.ntmps177 rfl ?_;have hw:=Ext.refl w;have fK:x<0∨(0≤x∧(256<x∨x≤256)):=by omega
 rcases fK with d|⟨d1,d|d⟩
 repeat' (first|refine Wz ?_|fail);all_goals exact ae.aF rfl rfl ⟨_,rfl,hw,by unfold qv;simp;omega⟩
end Go.Proofs.YtbidkghlpijecaaGreatDoor
