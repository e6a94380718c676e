/-
  Texts of the claim KmemAllocs, part 5: what its theorem leans on.
-/
import Derived.Test.YtbidkghlpijecaaGreatDoorPackKmemAllocs4
import Derived.Test.YtbidkghlpijecaaGreatDoorPackKmemAllocs3
import Derived.Test.YtbidkghlpijecaaGreatDoorPackKmemAllocs2
set_option linter.unusedVariables false
set_option linter.unusedSimpArgs false
namespace Go.Proofs.YtbidkghlpijecaaGreatDoor
open Go.RowKit
set_option maxHeartbeats 4000000 in
theorem ms (A:Option Addr) (n c lo:Nat) (l:List Block) (w:World) (hO:Own w lo 165 3 aA A n c l) (i:Nat) (hi:i<n) (hn:n≤1000000000000000000) (fy:lo≤w.heap.size) :
 gX Tryz.prog 108 [.slice A n c,.int .i64 (i:Int),.int .i64 ((i+1:Nat) : Int)] w fun v w'=>v = .slice A (n-1) c∧Own w' lo 165 3 aA A (n-1) c (l.eraseIdx i)∧w.grownBy w' (aU A c):=by
 refine dB Tryz.func108 rfl Tryz.ntmps108 rfl ?_;have hle:=hO.le;have mn:=hO.len;have hA:=hO.sl.base;have yq:w.grownBy w (aU A c):=World.grownBy.refl _ _
 repeat' (first|refine Wz ?_|(refine SW.st (uN (i:=i) (j:=i+1) (k:=n) rfl rfl rfl rfl (by omega) (by omega) (by omega)) rfl ?_))
 all_goals try omega
 have hw:=Ext.refl w;have e0:i+(n-(i+1))=n-1:=by omega
 have el:l.take i++l.drop (i+1)=l.eraseIdx i:=by rw [List.eraseIdx_eq_take_drop_succ]
 refine CW.any 6 mixed (cj (by kernel_rfl)) rfl fun w1 ab aG => ?_
 replace hw:=Ext.trans hw ab;replace hO:=hO.ext ab;clear ab;refine Wa ?_;refine SA.take 2 aG rfl (by kernel_rfl) (by kernel_rfl) rfl ?_;repeat ((refine SW.st (dg (k:=i) rfl rfl (by omega)) rfl ?_))
 refine SW.ah ?_;refine Wa ?_;refine SA.take 5 aG rfl (by kernel_rfl) (by kernel_rfl) rfl ?_;repeat ((refine SW.st (bh (k:=i+1) rfl rfl (by omega) (by omega)) rfl ?_))
 refine SW.ah ?_;refine SA.done (by kernel_rfl) ?_;refine SW.wS (hO.pre (i:=i) (by omega)) (hO.sl.drop (i+1) c (by omega) (by omega)) (by omega) rfl rfl rfl fun w2 gB hg => ?_
 rw [e0,el] at gB;rw [e0];have EL:=(hw.gr (aU A c));repeat' (first|refine Wz ?_|(refine SW.st (su (i:=n-1) (j:=n) rfl rfl rfl (by omega) (by omega)) rfl ?_))
 obtain ⟨g,rest,rfl,h1,h2,h3,h4,h5,h6⟩:=gB.opened (by omega);have oQ:((l.eraseIdx i).flatMap aA).length=(n-1)*3:=by rw [a9,gB.len]
 refine SW.clear ((n-1)*3) h2 rfl (by rw [List.length_append,oQ];omega) (fun h0 => ?_) (by decide) fun w3 cs gG hB tW => ?_
 ·rw [if_neg (by omega)];simp [c7]
 ·have e7:=eR ((l.eraseIdx i).flatMap aA) (rest.take ((n-(n-1))*3)) (rest.drop ((n-(n-1))*3)) cs (by rw [gG];simp;omega) (o:=(n-1)*3) oQ.symm;rw [List.append_assoc (List.flatMap _ _),List.take_append_drop] at e7;rw [e7,List.append_assoc] at hB;have HT:=Own.closed (l:=l.eraseIdx i) gB.len hB (by rw [List.length_append,gG];simp;omega) h4 (by omega) h5 h1;rw [← h6] at tW;have wT:=bQ (bQ EL hg (.inl rfl)) tW (.inl rfl);refine Wz ?_;exact ae.aO rfl rfl ⟨_,rfl,rfl,HT,wT⟩
set_option maxHeartbeats 4000000 in
theorem fA (A:Option Addr) (n c lo:Nat) (l:List Block) (w:World) (hO:Own w lo 165 3 aA A n c l) (i:Nat) (hi:i≤n) (x:Block) (b:Nat) (hB:aJ w b 165 (aA x)) (cG:aU A c≠some b) (hn:(n+1)*24≤140737488355328) (fy:lo≤w.heap.size) :
 gX Tryz.prog 155 [.slice A n c,.int .i64 (i:Int),.slice (some ⟨b,0,none⟩) 1 1] w fun v w' => ∃ A' c',v = .slice A' (n+1) c'∧Own w' lo 165 3 aA A' (n+1) c' (aV l i x)∧w.grownBy w' (aU A c):=by
 refine dB Tryz.func155 rfl Tryz.ntmps155 rfl ?_;have hle:=hO.le;have mn:=hO.len;have hA:=hO.sl.base;have hw:=Ext.refl w;have jx:Sl w 3 aA (some ⟨b,0,none⟩) 1 [x]:=aJ.mo hB
 have jO:(aA x).length=3:=rfl
 have oQ:∀ q:List Block,(q.flatMap aA).length=q.length*3:=fun q=>a9 q
 have nO:∀ (q:List Block) (v:Value),v∈q.flatMap aA→v.oneCell'=true:=fun q v hv=>by
  obtain ⟨u,_,hu⟩:=List.mem_flatMap.1 hv;exact fw.one (enc:=aA) u v hu
 by_cases cf:i=n
 ·subst cf;repeat' (first|refine Wz ?_|(refine SW.st (bh (k:=i) rfl rfl (by omega) (by omega)) rfl ?_))
  all_goals try omega
  refine SW.append hO jx fy rfl rfl rfl (by omega) (by omega) fun A2 c2 w2 gB hg => ?_
  refine Wz ?_;refine ae.aO rfl rfl ⟨_,rfl,A2,c2,rfl,?_,hg⟩;have e:aV l i x=l++[x]:=by unfold aV;rw [List.take_of_length_le (by omega),List.drop_eq_nil_of_le (by omega)];simp
  rw [e];exact gB
 ·by_cases jq:n+1≤c
  ·obtain ⟨g,rest,rfl,h1,h2,h3,h4,h5,h6⟩:=hO.opened (by omega);have AM:g≠b:=fun e=>cG (by rw [h6,e])
   have es:l.flatMap aA++rest=(l.take i).flatMap aA++((l.drop i).flatMap aA++rest):=by rw [← List.append_assoc,← List.flatMap_append,List.take_append_drop]
   have e1:((l.take i).flatMap aA).length=i*3:=by rw [oQ];simp;omega
   have e2:((l.drop i).flatMap aA).length=(n-i)*3:=by rw [oQ];simp [mn]
   have lT:=hO.sl.drop i c (by omega) (by omega);rw [if_neg (by omega)] at lT;rw [es] at h2
   have wU:∀ w',Ext w w'→(Extern.SlicesOverlaps.overlaps #[39,39] #[4] #[.slice (some ⟨b,0,none⟩) 1 1,.slice (if c=i+1 then (some ⟨g,0,none⟩) else (some (⟨g,0,none⟩ : Addr)).map (·.add ((i+1)*3))) (n+1-(i+1)) (c-(i+1))]).run Tryz.prog w' = .ok (.bool false) w':=fun w' hx=>by
    rw [if_neg (by omega),Option.map_some,c7];have b1:=hB.ext hx;have b2:=h2.ext hx;unfold aJ at b1 b2
    exact Lib.run_overlaps_apart w' 39 4 165 (bu.j3 (t:=39)) 3 (fun w0=>run_sizeOf (bu.size (t:=39)) w0) ⟨b,0,none⟩ ⟨g,(i+1)*3,none⟩ 1 1 _ _ (fun e=>AM e.symm) 165 165 (aA x).toArray.size ((l.take i).flatMap aA++((l.drop i).flatMap aA++rest)).toArray.size
     (by simp only [World.shape?,b1]) (by simp only [World.shape?,b2]) (by simp [e1,e2];omega) (by simp [World.frozen?,b1]) (by simp [World.frozen?,b1])
   repeat' (first|refine Wz ?_|(refine CW.bO rfl ?_)|(refine SW.st (bh (k:=i) rfl rfl (by omega) (by omega)) rfl ?_)|(refine SW.st (dg (k:=n+1) rfl rfl (by omega)) rfl ?_)|(refine SW.st (bh (k:=i+1) rfl rfl (by omega) (by omega)) rfl ?_)|(refine SW.entry Tryz.func215 (by kernel_rfl) (by kernel_rfl) (by kernel_rfl) (e:=Extern.SlicesOverlaps.overlaps #[39,39] #[4]) (by kernel_rfl) rfl rfl (wU _ hw) ?_))
   all_goals try omega
   have vt:((n-i)+1)*3≤((l.drop i).flatMap aA++rest).length:=by rw [List.length_append,e2];omega
   have e4:(l.drop i).flatMap aA++rest=((l.drop i).flatMap aA++rest).take 3++(((l.drop i).flatMap aA++rest).drop 3).take ((n-i)*3)++((l.drop i).flatMap aA++rest).drop (3+(n-i)*3):=by
    rw [List.append_assoc,← List.drop_drop,List.take_append_drop,List.take_append_drop]
   generalize CE:((l.drop i).flatMap aA++rest).take 3=D1 at e4
   generalize CF:(((l.drop i).flatMap aA++rest).drop 3).take ((n-i)*3)=D2 at e4
   generalize CG:((l.drop i).flatMap aA++rest).drop (3+(n-i)*3)=D3 at e4
   have f1:D1.length=3:=by rw [← CE];simp only [List.length_take];omega
   have f2:D2.length=(n-i)*3:=by rw [← CF];simp only [List.length_take,List.length_drop];omega
   have f3:D3.length+3=rest.length:=by rw [← CG];simp only [List.length_drop,List.length_append,e2];omega
   rw [e4] at h2;refine CW.any 8 mixed (cj (by kernel_rfl)) rfl fun w1 ab aG => ?_
   replace hw:=Ext.trans hw ab;replace hO:=hO.ext ab;replace hB:=hB.ext ab;replace h2:=h2.ext ab;clear ab;refine Wa ?_;refine SA.take 4 aG rfl (by kernel_rfl) (by kernel_rfl) rfl ?_;repeat ((refine SW.st (bh (k:=i+1) rfl rfl (by omega) (by omega)) rfl ?_))
   refine SW.ah ?_;refine Wa ?_;refine SA.take 7 aG rfl (by kernel_rfl) (by kernel_rfl) rfl ?_;repeat ((refine SW.st (bh (k:=i) rfl rfl (by omega) (by omega)) rfl ?_))
   refine SW.ah ?_;refine SA.done (by kernel_rfl) ?_;refine SW.copy (k:=n-i) ((i+1)*3) ((l.drop i).flatMap aA) h2 rfl rfl rfl (by omega) e2 (by simp only [List.length_append,e1,e2,f1,f2];omega) (fun h0=>⟨by rw [if_neg (by omega)];simp [c7],(⟨g,0,none⟩ : Addr).add (i*3),by rw [if_neg (by omega)];rfl,fun j v hv=>dq (by omega) (lT.ext hw) j v hv⟩) (nO _) fun w3 mx tW => ?_
   have g1:=eR ((l.take i).flatMap aA++D1) D2 D3 ((l.drop i).flatMap aA) (by rw [e2,f2]) (o:=(i+1)*3) (by rw [List.length_append,e1,f1];omega);have g0:(l.take i).flatMap aA++(D1++D2++D3)=(l.take i).flatMap aA++D1++D2++D3:=by simp only [List.append_assoc]
   rw [g0,g1] at mx;have EL:=bQ (hw.gr (aU (some ⟨g,0,none⟩) c)) tW (.inl h6.symm);have IF:=hB.grown tW (by simpa using fun e=>AM e.symm);repeat' (first|refine Wz ?_|(refine SW.st (bh (k:=i) rfl rfl (by omega) (by omega)) rfl ?_))
   refine SW.copy (k:=1) (i*3) (aA x) mx rfl rfl rfl (by omega) jO (by simp only [List.length_append,e1,e2,f1,jO];omega) (fun h0=>⟨by rw [if_neg (by omega)];simp [c7],⟨b,0,none⟩,rfl,fun j v hv=>IF.cell hv⟩) (fw.one (enc:=aA) x) fun w4 mT vv => ?_
   have g2:=eR ((l.take i).flatMap aA) D1 ((l.drop i).flatMap aA++D3) (aA x) (by rw [jO,f1]) (o:=i*3) e1.symm;have g3:(l.take i).flatMap aA++D1++(l.drop i).flatMap aA++D3=(l.take i).flatMap aA++D1++((l.drop i).flatMap aA++D3):=by simp only [List.append_assoc]
   have g4:(l.take i).flatMap aA++aA x++((l.drop i).flatMap aA++D3)=(aV l i x).flatMap aA++D3:=by unfold aV;simp only [List.flatMap_append,List.flatMap_cons,List.flatMap_nil,List.append_nil,List.append_assoc]
   rw [g3,g2,g4] at mT;have CH:=Own.closed (n:=n+1) (c:=c) (l:=aV l i x) (by unfold aV;simp;omega) mT (by omega) jq (by omega) h5 h1;have CI:=bQ EL vv (.inl h6.symm);refine Wz ?_;exact ae.aO rfl rfl ⟨_,rfl,_,_,rfl,CH,CI⟩
  ·have FJ:c=n:=by omega
   have lT:=hO.sl.drop i c (by omega) (by omega);have qb:=hO.sl.pre (i:=i) (by omega);repeat' (first|refine Wz ?_|(refine SW.st (bh (k:=i) rfl rfl (by omega) (by omega)) rfl ?_)|(refine SW.st (dg (k:=i) rfl rfl (by omega)) rfl ?_))
   all_goals try omega
   refine SW.vE (k:=n+1-i) qb Tryz.underlying3 rfl rfl (by omega) rfl (by omega) (by omega) (by omega) (by omega) fun g rest c2 w2 cq tV h2 h3 h4 h5 => ?_
   have e1:((l.take i).flatMap aA).length=i*3:=by rw [oQ];simp;omega
   have e2:((l.drop i).flatMap aA).length=(n-i)*3:=by rw [oQ];simp [mn]
   have vt:((n-i)+1)*3≤rest.length:=by omega
   have e4:rest=rest.take 3++(rest.drop 3).take ((n-i)*3)++rest.drop (3+(n-i)*3):=by
    rw [List.append_assoc,← List.drop_drop,List.take_append_drop,List.take_append_drop]
   generalize CE:rest.take 3=D1 at e4
   generalize CF:(rest.drop 3).take ((n-i)*3)=D2 at e4
   generalize CG:rest.drop (3+(n-i)*3)=D3 at e4
   have f1:D1.length=3:=by rw [← CE];simp only [List.length_take];omega
   have f2:D2.length=(n-i)*3:=by rw [← CF];simp only [List.length_take,List.length_drop];omega
   have f3:D3.length+((n-i)+1)*3=rest.length:=by rw [← CG];simp only [List.length_drop];omega
   rw [e4] at h2;have dw:aU A c≠some g:=fun e=>by have:=hO.lt_size _ e;omega
   have AM:b≠g:=by have:=hB.lt;omega
   replace lT:=lT.ext cq;replace hB:=hB.ext cq;replace hw:=Ext.trans hw cq;repeat' (first|refine Wz ?_|(refine SW.st (bh (k:=i) rfl rfl (by omega) (by omega)) rfl ?_))
   refine SW.copy (k:=1) (i*3) (aA x) h2 rfl rfl rfl (by omega) jO (by simp only [List.length_append,e1,f1,f2,jO];omega) (fun h0=>⟨by rw [if_neg (by omega)];simp [c7],⟨b,0,none⟩,rfl,fun j v hv=>hB.cell hv⟩) (fw.one (enc:=aA) x) fun w3 mx tW => ?_
   have g2:=eR ((l.take i).flatMap aA) D1 (D2++D3) (aA x) (by rw [jO,f1]) (o:=i*3) e1.symm;have g3:(l.take i).flatMap aA++(D1++D2++D3)=(l.take i).flatMap aA++D1++(D2++D3):=by simp only [List.append_assoc]
   rw [g3,g2] at mx;have tX:Ext w w3:=hw.own tV tW
   have kF:Sl w3 3 aA (if c=i then A else A.map (·.add (i*3))) (n-i) (l.drop i):=(hO.sl.drop i c (by omega) (by omega)).ext tX
   replace hw:=tX;refine Wz ?_;refine CW.any 8 mixed (cj (by kernel_rfl)) rfl fun w1 ab aG => ?_
   replace hw:=Ext.trans hw ab;replace mx:=mx.ext ab;replace kF:=kF.ext ab;clear ab;refine Wa ?_;refine SA.take 4 aG rfl (by kernel_rfl) (by kernel_rfl) rfl ?_;repeat ((refine SW.st (bh (k:=i+1) rfl rfl (by omega) (by omega)) rfl ?_))
   refine SW.ah ?_;refine Wa ?_;refine SA.take 7 aG rfl (by kernel_rfl) (by kernel_rfl) rfl ?_;repeat ((refine SW.st (bh (k:=i) rfl rfl (by omega) (by omega)) rfl ?_))
   refine SW.ah ?_;refine SA.done (by kernel_rfl) ?_;refine SW.copy (k:=n-i) ((i+1)*3) ((l.drop i).flatMap aA) mx rfl rfl rfl (by omega) e2 (by simp only [List.length_append,e1,e2,f2,jO];omega) (fun h0=>⟨by rw [if_neg (by omega)];simp [c7],(if c=i then A else A.map (·.add (i*3))).getD default,?_,fun j v hv=>dq (by omega) kF j v hv⟩) (nO _) fun w4 mT vv => ?_
   ·obtain ⟨a,ha⟩:=Option.isSome_iff_exists.1 (kF.base h0);rw [ha];rfl
   ·have g4:=eR ((l.take i).flatMap aA++aA x) D2 D3 ((l.drop i).flatMap aA) (by rw [e2,f2]) (o:=(i+1)*3) (by rw [List.length_append,e1,jO];omega);have g5:(l.take i).flatMap aA++aA x++(D2++D3)=(l.take i).flatMap aA++aA x++D2++D3:=by simp only [List.append_assoc]
    have g6:(l.take i).flatMap aA++aA x++(l.drop i).flatMap aA++D3=(aV l i x).flatMap aA++D3:=by unfold aV;simp only [List.flatMap_append,List.flatMap_cons,List.flatMap_nil,List.append_nil,List.append_assoc]
    rw [g5,g4,g6] at mT;have CH:=Own.closed (n:=n+1) (c:=c2) (lo:=lo) (l:=aV l i x) (by unfold aV;simp;omega) mT (by omega) (by omega) (by omega) h5 (by omega);have iK:Ext w w4:=hw.own tV vv
    have e9:i+(n+1-i)=n+1:=by omega
    refine Wz ?_;rw [e9];exact ae.aO rfl rfl ⟨_,rfl,_,_,rfl,CH,iK.gr _⟩
open Go.RowKit
theorem pd:Tryz.prog.underlying 236=some (.int .u64):=by kernel_rfl
theorem wrap_u64 {z:Int} (h0 : 0≤z) (h1:z≤9223372036854775807) : IntKind.u64.wrap z=z:=by
 simp [IntKind.wrap,IntKind.bits,IntKind.signed];omega
section
variable {P:Program} {L:Env} {w:World} {d:Option Nat} {T:TypeId} {pos:String} {af:Array Edge} {g:Option (Nat×Bool)}
theorem pe {ft tt:TypeId} {x:Operand} {k k':IntKind} {i:Int} (hf:P.underlying ft=some (.int k)) (ht:P.underlying tt=some (.int k')) (hx:bR L x=some (.int k i)) :
 St P ⟨d,.convert ft tt x,T,pos,af,g⟩ L w (.int k' (k'.wrap i)) :=
 ⟨fun n a ha w' _=>by
  have e1:=ha.eval hx;generalize a.eval = ρ at *
  simp [go_sem,e1,convert,run_underlying hf,run_underlying ht,Conv.intToInt]⟩
theorem Ae {t ty:TypeId} {x y:Operand} {yk:IntKind} {i:Int} (hx:bR L x=some (.int .u64 i)) (hy:bR L y=some (.int yk 1)) :
 St P ⟨d,.binOp .shr t x y ty,T,pos,af,g⟩ L w (.int .u64 (i / 2)) :=
 ⟨fun n a ha w' _=>by
  have e1:=ha.eval hx;have e2:=ha.eval hy;generalize a.eval = ρ at *
  simp [go_sem,e1,e2]⟩
end
def cc (l:List Block) (a:Int) : Bool:=if h:bG l a<l.length then decide ((l[bG l a]).At=a) else false
theorem jA (A:Option Addr) (n c:Nat) (l:List Block) (a:Int) (w:World) (hl:Sl w 3 aA A n l) (f:FuncId) [Body Tryz.prog f] (hf:∀ x∈l,∀ w',Ext w w'→bo Tryz.prog f ([.agg (aA x).toArray,.int .i64 a]++[]) w' fun v _=>v = .int .i64 (x.At-a))
 (hu:l.Pairwise fun x y=>x.At<y.At) (hn:n≤1000000000000000000) : bo Tryz.prog 105 [.slice A n c,.int .i64 a,.func (.func f) #[] #[]] w fun v _=>v = .tuple #[.int .i64 (bG l a:Int),.bool (cc l a)]:=by
 refine aI Tryz.func105 rfl Tryz.ntmps105 rfl ?_;have hw:=Ext.refl w;have hA:=hl.base;have mn:=hl.len;rw [List.pairwise_iff_getElem] at hu;refine Wz ?_
 refine CW.loop (fun s:Nat×Nat=>[(0,.slice A n c),(1,.int .i64 a),(2,.func (.func f) #[] #[]),(8,.int .i64 (n:Int)),(9,.int .i64 (s.1:Int)),(10,.int .i64 (s.2:Int))])
  (fun s w'=>s.1≤s.2∧s.2≤n∧Ext w w'∧(∀ (k:Nat) (h:k<l.length),k<s.1→l[k].At<a)∧(∀ (k:Nat) (h:k<l.length),s.2≤k→a≤l[k].At)) (fun s=>s.2-s.1) (0,n)
  ⟨rfl,rfl,rfl,rfl,rfl,rfl,trivial⟩ ⟨by omega,by omega,hw,fun k h h'=>by omega,fun k h h'=>by omega⟩ ?_
 clear hw;rintro ⟨i,j⟩ w' ⟨kW,je,hw,hI,hJ⟩
 simp only at kW je hI hJ ⊢;by_cases de:i<j
 ·have hk:(i+j) / 2<n:=by omega
  have dk:=hl.lt hk;have pa:=fun w1 h1=>hf (l[(i+j) / 2]) (List.getElem_mem dk) w1 h1
  repeat' (first|refine Wz ?_|refine SW.st (aH hw rfl rfl ((hl.all hk))) rfl ?_|(refine SW.st ((pe Tryz.underlying3 pd rfl).eq (congrArg (Value.int .u64) (wrap_u64 (by omega) (by omega)))) rfl ?_)|(refine SW.st ((pe pd Tryz.underlying3 rfl).eq (congrArg (Value.int .i64) (iw (by omega) (by omega)))) rfl ?_)|(refine SW.st (Ae rfl rfl) rfl ?_))
  refine SW.oY (cap:=[]) rfl rfl rfl (pa _ hw) fun v w1 ab hv => ?_
  subst hv;replace hw:=Ext.trans hw ab;by_cases IG:l[(i+j) / 2].At<a
  ·refine Wz ?_;refine ae.again ((i+j) / 2+1,j) ⟨rfl,rfl,rfl,rfl,congrArg (fun z=>some (Value.int .i64 z)) (by omega),rfl,trivial⟩ (by simp only;omega) ⟨by simp only;omega,je,hw,fun k h h' => ?_,hJ⟩;simp only at h';by_cases e:k=(i+j) / 2
   ·subst e;exact IG
   ·have:=hu k ((i+j) / 2) h dk (by omega)
    omega
  ·refine Wz ?_;refine ae.again (i,(i+j) / 2) ⟨rfl,rfl,rfl,rfl,rfl,congrArg (fun z=>some (Value.int .i64 z)) (by omega),trivial⟩ (by simp only;omega) ⟨by simp only;omega,by simp only;omega,hw,hI,fun k h h' => ?_⟩;simp only at h';by_cases e:k=(i+j) / 2
   ·subst e;omega
   ·have:=hu ((i+j) / 2) k dk h (by omega)
    omega
 ·obtain rfl:i=j:=by omega
  have sw:bG l a=i:=z9 (by omega) hI (fun h=>hJ i h (by omega))
  by_cases cf:i<n
  ·have dk:=hl.lt cf;have pa:=fun w1 h1=>hf (l[i]) (List.getElem_mem dk) w1 h1
   have EM:cc l a=decide (l[i].At=a):=by unfold cc;simp only [sw,dk,dif_pos]
   rw [sw,EM];repeat' (first|refine Wz ?_|refine SW.st (aH hw rfl rfl ((hl.all cf))) rfl ?_)
   refine SW.oY (cap:=[]) rfl rfl rfl (pa _ hw) fun v w1 ab hv => ?_
   subst hv;replace hw:=Ext.trans hw ab;by_cases he:l[i].At=a
   ·refine Wz ?_;refine ae.cx rfl rfl rfl ⟨_,rfl,hw,?_⟩;rw [decide_eq_true he,decide_eq_true (by omega)]
   ·refine Wz ?_;refine ae.cx rfl rfl rfl ⟨_,rfl,hw,?_⟩;rw [decide_eq_false he,decide_eq_false (by omega)]
  ·have EM:cc l a=false:=by unfold cc;rw [dif_neg (by omega)]
   rw [sw,EM];refine Wz ?_;exact ae.cx rfl rfl rfl ⟨_,rfl,hw,rfl⟩
theorem GC {f t:Int} {l:List Block} (h:nQ l) (hb:∀ b∈l,dE f t b) : l.Pairwise fun x y=>x.At<y.At:=by
 unfold nQ at h;rw [List.pairwise_iff_getElem] at h ⊢;intro i j hi hj kW;have h1:=h i j hi hj kW;have hp:=hb _ (List.getElem_mem hi);have:=bE hp.1.1 hp.1.2.1
 omega
theorem vF (x:Block) (a:Int) (w:World) (hx : -4000000000000000000≤x.At∧x.At≤4000000000000000000) (ha : -4000000000000000000≤a∧a≤4000000000000000000) : bo Tryz.prog 255 ([.agg (aA x).toArray,.int .i64 a]++[]) w fun v _=>v = .int .i64 (x.At-a):=by
 refine aI Tryz.func255 rfl Tryz.ntmps255 rfl ?_;refine CW.seq (CW.region (SW.box rfl rfl fun b1 w1 hw gV aB => ?_));refine Wz ?_;exact ae.aO rfl rfl ⟨_,rfl,hw,rfl⟩
theorem qd (r:cy) (l:List Block) (f t a:Int) (w:World) (hl:Sl w 3 aA r.ag.A r.ag.n l) (hu:nQ l) (hb:∀ b∈l,dE f t b) (h0 : 0≤f) (ht:t≤256) (hn:r.ag.n≤1000000000000000000) (ha : -1000≤a∧a≤1000) :
 bo Tryz.prog 234 [.agg (bp r).toArray,.int .i64 a] w fun v _=>v = .tuple #[.int .i64 (bG l a:Int),.bool (cc l a)]:=by
 refine aI Tryz.func234 rfl Tryz.ntmps234 rfl ?_;refine CW.seq (CW.region (SW.box rfl rfl fun b1 w1 hw gV aB => ?_))
 have cB:∀ w',Ext w w'→bo Tryz.prog 105 [.slice r.ag.A r.ag.n r.ag.c,.int .i64 a,.func (.func 255) #[] #[]] w' fun v _=>v = .tuple #[.int .i64 (bG l a:Int),.bool (cc l a)]:=fun w' h =>
  jA _ _ _ _ _ _ (hl.ext h) _ (fun x hx w1 _=>vF x a w1 (by have:=(hb x hx).1;unfold eX at this;omega) (by omega)) (GC hu hb) hn
 repeat' (first|refine Wz ?_|(refine SW.call rfl rfl (cB _ hw) ?_;intro v w1 ab hv;subst hv;replace hw:=Ext.trans hw ab;replace aB:=aB.ext ab;clear ab))
 exact ae.cx rfl rfl rfl ⟨_,rfl,hw,rfl⟩
theorem qN (A:Option Addr) (n c:Nat) (l:List Block) (a o:Int) (w:World) (hl:Sl w 3 aA A n l) (hn:n*24≤140737488355328) :
 bo Tryz.prog 124 [.slice A n c,.int .i64 a,.int .i64 o] w fun v w' => ∃ B c',v = .tuple #[.slice B (dc l a o).length c',.bool (l.any (rv a o))]∧Own w' w.heap.size 165 3 aA B (dc l a o).length c' (dc l a o):=by
 refine aI Tryz.func124 rfl Tryz.ntmps124 rfl ?_;have hw:=Ext.refl w;have hA:=hl.base;have mn:=hl.len;refine Wz ?_
 refine CW.loop (fun s:Nat×Option Addr×Nat=>[(0,.slice A n c),(1,.int .i64 a),(2,.int .i64 o),(8,.slice s.2.1 (dc (l.take s.1) a o).length s.2.2),(9,.bool ((l.take s.1).any (rv a o))),(10,.int .i64 (s.1:Int))])
  (fun s w'=>s.1≤n∧Ext w w'∧Own w' w.heap.size 165 3 aA s.2.1 (dc (l.take s.1) a o).length s.2.2 (dc (l.take s.1) a o)) (fun s=>n-s.1) (0,none,0) ⟨rfl,rfl,rfl,rfl,rfl,rfl,trivial⟩ ⟨by omega,hw,Own.eJ _ _ _ _ _ _⟩ ?_
 clear hw;rintro ⟨k,B,c'⟩ w' ⟨hk,hw,hO⟩
 simp only at hk hO ⊢;by_cases cb:k<n
 ·have dk:=hl.lt cb;have et:=List.take_succ_eq_append_getElem dk;have hlen:(dc (l.take k) a o).length≤k:=Nat.le_trans (List.length_filter_le _ _) (by simp;omega)
  cases hi:rv a o l[k]
  ·have e1:dc (l.take (k+1)) a o=dc (l.take k) a o++[l[k]]:=by unfold dc;rw [et,List.filter_append];simp [hi]
   have e2:(l.take (k+1)).any (rv a o)=(l.take k).any (rv a o):=by rw [et,List.any_append];simp [hi]
   have zZ : ¬ (l[k].At=a∧l[k].Order=o):=fun h=>by rw [gH.2 h] at hi;cases hi
   by_cases ha:l[k].At=a
   all_goals
    repeat' (first|refine Wz ?_|refine SW.st (aH hw rfl rfl ((hl.all cb))) rfl ?_|refine SW.st (ap hw rfl (hl.dA cb rfl)) rfl ?_)
    all_goals try omega
    refine SW.bK rfl rfl rfl rfl rfl fun b w1 ab hb hB => ?_
    replace hw:=Ext.trans hw ab;replace hO:=hO.ext ab;refine SW.append hO (aJ.mo (enc:=aA) hB) hw.size rfl rfl rfl (by omega) (by omega) fun A2 c2 w2 fU hg => ?_
    replace hw:=aF hw hg (Nat.le_refl _) hO.aM;refine Wz ?_;have e3:(dc (l.take (k+1)) a o).length=(dc (l.take k) a o).length+1:=by rw [e1];simp
    refine ae.again (k+1,A2,c2) ⟨rfl,rfl,rfl,by simp only;rw [e3];rfl,by simp only;rw [e2];rfl,rfl,trivial⟩ (by simp only;omega) ⟨by simp only;omega,hw,?_⟩;simp only;rw [e3,e1];exact fU
  ·have e1:dc (l.take (k+1)) a o=dc (l.take k) a o:=by unfold dc;rw [et,List.filter_append];simp [hi]
   have e2:(l.take (k+1)).any (rv a o)=true:=by rw [et,List.any_append];simp [hi]
   obtain ⟨h1,h2⟩:=gH.1 hi;repeat' (first|refine Wz ?_|refine SW.st (ap hw rfl (hl.dA cb rfl)) rfl ?_)
   refine ae.again (k+1,B,c') ⟨rfl,rfl,rfl,by simp only;rw [e1];rfl,by simp only;rw [e2];rfl,rfl,trivial⟩ (by simp only;omega) ⟨by simp only;omega,hw,?_⟩;simp only;rw [e1];exact hO
 ·refine Wz ?_;have et:l.take k=l:=List.take_of_length_le (by omega)
  rw [et] at hO;refine ae.cx rfl rfl rfl ⟨_,rfl,hw,B,c',?_,hO⟩;rw [et]
def CJ (l:List Block) (a:Int) : Nat:=l.findIdx fun b=>decide (a<b.At)
theorem CK {l:List Block} {a:Int} (h:∀ x∈l,x.At≠a) : CJ l a=bG l a:=by
 unfold CJ bG
 have:∀ q:List Block,(∀ x∈q,x.At≠a)→q.findIdx (fun b=>decide (a<b.At))=q.findIdx (fun b=>decide (a≤b.At)):=by
  intro q;induction q with
  | nil=>intro _;rfl
  | cons x r ih =>
    intro hq;have h1:=hq x (by simp);have h2:=ih (fun y hy=>hq y (by simp [hy]));simp only [List.findIdx_cons,h2];by_cases e:a<x.At
    ·rw [decide_eq_true e,decide_eq_true (by omega)]
    ·rw [decide_eq_false e,decide_eq_false (by omega)]
 exact this l h
open Go.RowKit
set_option maxHeartbeats 4000000 in
theorem kX (A:Option Addr) (n c:Nat) (l:List Block) (x:Block) (w:World) (hl:Sl w 3 aA A n l) (hn:(n+1)*24≤140737488355328) :
 bo Tryz.prog 160 [.slice A n c,.agg (aA x).toArray] w fun v w' => ∃ B c',v = .slice B (n+1) c'∧Own w' w.heap.size 165 3 aA B (n+1) c' (aV l (CJ l x.At) x):=by
 refine aI Tryz.func160 rfl Tryz.ntmps160 rfl ?_;refine CW.seq (CW.region (SW.box rfl rfl fun b3 w1 hw bH aq => ?_));have cw:=bH;have HV:∀ m,m≤n→(m+1)*24≤140737488355328:=fun m h=>Nat.le_trans (Nat.mul_le_mul_right 24 (Nat.succ_le_succ h)) hn
 clear hn;have hn:n≤1000000000000000000:=by have:=HV n (Nat.le_refl _);omega
 have hA:=hl.base;have mn:=hl.len;obtain ⟨g,yq⟩ : ∃ g,CJ l x.At=g:=⟨_,rfl⟩;have AN:g≤l.length:=by rw [← yq];exact List.findIdx_le_length
 have J4:∀ h:g<l.length,x.At<l[g].At:=fun h=>by
  subst yq;have:=List.findIdx_getElem (w:=h)
  exact of_decide_eq_true this
 have tV:∀ (j:Nat) (h:j<g),(l[j]'(by omega)).At≤x.At:=fun j h=>by
  subst yq;have:=List.not_of_lt_findIdx h
  simpa using this
 rw [yq];clear yq;refine Wz ?_
 refine CW.loop (fun s:Nat×Option Addr×Nat=>[(0,.slice A n c),(3,.pointer (some ⟨b3,0,none⟩)),(5,.slice s.2.1 (if g<s.1 then s.1+1 else s.1) s.2.2),(6,.bool (decide (g<s.1))),(7,.int .i64 (s.1:Int))])
  (fun s w'=>s.1≤n∧Ext w w'∧aJ w' b3 165 (aA x)∧Own w' (b3+1) 165 3 aA s.2.1 (if g<s.1 then s.1+1 else s.1) s.2.2 (if g<s.1 then aV (l.take s.1) (g) x else l.take s.1)) (fun s=>n-s.1) (0,none,0)
  ⟨rfl,rfl,rfl,rfl,rfl,trivial⟩ ⟨by omega,hw,aq,by simpa using Own.eJ _ _ _ _ _ _⟩ ?_
 clear hw aq;rintro ⟨k,B,c'⟩ w' ⟨hk,hw,aq,hO⟩
 simp only at hk hO ⊢;have fy:b3+1≤w'.heap.size:=aq.lt
 by_cases cb:k<n
 ·have dk:=hl.lt cb;have et:=List.take_succ_eq_append_getElem dk;by_cases hd:g<k
  ·rw [if_pos hd,if_pos hd] at hO;rw [if_pos hd,decide_eq_true hd];repeat' (first|refine Wz ?_|((apply CW.aP mixed;(· kernel_rfl);rotate_left;intro w1 ab;replace hw:=Ext.trans hw ab;replace aq:=aq.ext ab;replace hO:=hO.ext ab;clear ab;rotate_right))|refine SW.skip rfl rfl rfl rfl ?_|refine SW.st (aH hw rfl rfl ((hl.all cb))) rfl ?_|exact SW.bx rfl)
   refine SW.bK rfl rfl rfl rfl rfl fun b w1 aj hb hB => ?_
   (replace hw:=Ext.trans hw aj;replace aq:=aq.ext aj;replace hO:=hO.ext aj);refine SW.append hO (aJ.mo (enc:=aA) hB) (by have:=aq.lt;omega) rfl rfl rfl (HV _ (by omega)) (by omega) fun A2 c2 w2 fU pR => ?_
   replace hw:=aF hw pR (Nat.le_trans cw (Nat.le_succ _)) hO.aM;replace aq:=aq.grown pR (fun e=>by have:=hO.aM b3 e.symm;omega);refine Wz ?_;refine ae.again (k+1,A2,c2) ⟨rfl,rfl,by simp only;rw [if_pos (show g<k+1 by omega)];rfl,by simp only;rw [decide_eq_true (show g<k+1 by omega)];rfl,rfl,trivial⟩ (by simp only;omega) ⟨by simp only;omega,hw,aq,?_⟩;simp only;rw [if_pos (by omega),if_pos (by omega)]
   have e:aV (l.take (k+1)) (g) x=aV (l.take k) (g) x++[l[k]]:=by
    unfold aV;rw [et,List.take_append_of_le_length (by simp;omega),List.drop_append_of_le_length (by simp;omega)];simp only [List.append_assoc]
   rw [e];exact fU
  ·rw [if_neg hd,if_neg hd] at hO;rw [if_neg hd,decide_eq_false hd];by_cases ym:g=k
   ·have Mq:x.At<l[k].At:=by subst ym;exact J4 dk
    repeat' (first|refine Wz ?_|((apply CW.aP mixed;(· kernel_rfl);rotate_left;intro w1 ab;replace hw:=Ext.trans hw ab;replace aq:=aq.ext ab;replace hO:=hO.ext ab;clear ab;rotate_right))|refine SW.want rfl rfl ?_|refine SW.st (ap hw rfl (hl.dA cb rfl)) rfl ?_|exact SW.bx rfl)
    refine SW.bK rfl rfl rfl rfl rfl fun b w1 aj hb hB => ?_
    (replace hw:=Ext.trans hw aj;replace aq:=aq.ext aj;replace hO:=hO.ext aj);refine SW.append hO (aJ.mo (enc:=aA) hB) (by have:=aq.lt;omega) rfl rfl rfl (HV _ (by omega)) (by omega) fun A2 c2 w2 fU pR => ?_
    replace hw:=aF hw pR (Nat.le_trans cw (Nat.le_succ _)) hO.aM;replace aq:=aq.grown pR (fun e=>by have:=hO.aM b3 e.symm;omega);repeat' (first|refine Wz ?_|refine SW.st (aH hw rfl rfl ((hl.all cb))) rfl ?_)
    refine SW.bK rfl rfl rfl rfl rfl fun b w1 aj hb hB => ?_
    (replace hw:=Ext.trans hw aj;replace aq:=aq.ext aj;replace fU:=fU.ext aj);refine SW.append fU (aJ.mo (enc:=aA) hB) (by have:=aq.lt;omega) rfl rfl rfl (HV _ (by omega)) (by omega) fun A3 c3 w3 gB pR => ?_
    replace hw:=aF hw pR (Nat.le_trans cw (Nat.le_succ _)) fU.aM;replace aq:=aq.grown pR (fun e=>by have:=fU.aM b3 e.symm;omega);refine Wz ?_;refine ae.again (k+1,A3,c3) ⟨rfl,rfl,by simp only;rw [if_pos (show g<k+1 by omega)];rfl,by simp only;rw [decide_eq_true (show g<k+1 by omega)];rfl,rfl,trivial⟩ (by simp only;omega) ⟨by simp only;omega,hw,aq,?_⟩;simp only;rw [if_pos (by omega),if_pos (by omega)]
    have e:aV (l.take (k+1)) (g) x=l.take k++[x]++[l[k]]:=by
     unfold aV;rw [ym,et,List.take_append_of_le_length (by simp;omega),List.drop_append_of_le_length (by simp;omega),List.take_of_length_le (by simp;omega),List.drop_eq_nil_of_le (by simp;omega)];simp
    rw [e];exact gB
   ·have hle:l[k].At≤x.At:=tV k (by omega)
    repeat' (first|refine Wz ?_|((apply CW.aP mixed;(· kernel_rfl);rotate_left;intro w1 ab;replace hw:=Ext.trans hw ab;replace aq:=aq.ext ab;replace hO:=hO.ext ab;clear ab;rotate_right))|refine SW.want rfl rfl ?_|refine SW.st (aH hw rfl rfl ((hl.all cb))) rfl ?_|refine SW.st (ap hw rfl (hl.dA cb rfl)) rfl ?_|exact SW.bx rfl)
    refine SW.bK rfl rfl rfl rfl rfl fun b w1 aj hb hB => ?_
    (replace hw:=Ext.trans hw aj;replace aq:=aq.ext aj;replace hO:=hO.ext aj);refine SW.append hO (aJ.mo (enc:=aA) hB) (by have:=aq.lt;omega) rfl rfl rfl (HV _ (by omega)) (by omega) fun A2 c2 w2 fU pR => ?_
    replace hw:=aF hw pR (Nat.le_trans cw (Nat.le_succ _)) hO.aM;replace aq:=aq.grown pR (fun e=>by have:=hO.aM b3 e.symm;omega);refine Wz ?_;refine ae.again (k+1,A2,c2) ⟨rfl,rfl,by simp only;rw [if_neg (show ¬ g<k+1 by omega)];rfl,by simp only;rw [decide_eq_false (show ¬ g<k+1 by omega)];rfl,rfl,trivial⟩ (by simp only;omega) ⟨by simp only;omega,hw,aq,?_⟩;simp only;rw [if_neg (by omega),if_neg (by omega),et];exact fU
 ·obtain rfl:k=n:=by omega
  rw [List.take_of_length_le (by omega)] at hO;by_cases hd:g<k
  ·rw [if_pos hd,if_pos hd] at hO;rw [if_pos hd,decide_eq_true hd];repeat' (first|refine Wz ?_|(refine CW.bB rfl ?_))
   exact ae.aO rfl rfl ⟨_,rfl,hw,_,_,rfl,hO.low (by omega)⟩
  ·rw [if_neg hd,if_neg hd] at hO;rw [if_neg hd,decide_eq_false hd];repeat' (first|refine Wz ?_|(refine CW.bO rfl ?_))
   refine SW.bK rfl rfl rfl rfl rfl fun b w1 aj hb hB => ?_
   (replace hw:=Ext.trans hw aj;replace aq:=aq.ext aj;replace hO:=hO.ext aj);refine SW.append hO (aJ.mo (enc:=aA) hB) (by have:=aq.lt;omega) rfl rfl rfl (HV _ (by omega)) (by omega) fun A2 c2 w2 fU pR => ?_
   replace hw:=aF hw pR (Nat.le_trans cw (Nat.le_succ _)) hO.aM;refine Wz ?_;refine ae.aO rfl rfl ⟨_,rfl,hw,_,_,rfl,?_⟩
   have e:aV l (g) x=l++[x]:=by
    unfold aV;rw [List.take_of_length_le (by omega),List.drop_eq_nil_of_le (by omega)];simp
   rw [e];exact fU.low (by omega)
theorem AO (a o:Int) (b9:Nat) (x:Block) (w:World) (h9:aJ w b9 165 (aA ⟨a,o,0⟩)) (ho : 0≤o∧o≤4) (ha : 0≤a∧a≤256) (hx : 0≤x.At∧x.At≤256) (hy : 0≤x.Order∧x.Order≤4) :
 bo Tryz.prog 233 ([.agg (aA x).toArray]++[.pointer (some ⟨b9,0,none⟩)]) w fun v _=>v = .bool (decide (x.At<a+pw o) && decide (a<x.At+pw x.Order)):=by
 refine aI Tryz.func233 rfl Tryz.ntmps233 rfl ?_;refine CW.seq (CW.region (SW.box rfl rfl fun b2 w1 hw g7 aL => ?_));replace h9:=h9.ext hw;have c1:∀ w',bo Tryz.prog 230 [.agg (aA ⟨a,o,0⟩).toArray] w' fun v _=>v = .int .i64 (a+pw o):=fun w'=>ll ⟨a,o,0⟩ w' ho ha
 have c2:∀ w',bo Tryz.prog 230 [.agg (aA x).toArray] w' fun v _=>v = .int .i64 (x.At+pw x.Order):=fun w'=>ll x w' hy hx
 by_cases h1:x.At<a+pw o
 ·repeat' (first|refine Wz ?_|((apply CW.aP mixed;(· kernel_rfl);rotate_left;intro w1 ab;replace hw:=Ext.trans hw ab;replace aL:=aL.ext ab;replace h9:=h9.ext ab;clear ab;rotate_right))|refine SW.br rfl rfl (fun w1 ab=>(c1 _)) ?_|refine SW.br rfl rfl (fun w1 ab=>(c2 _)) ?_|exact SW.bx rfl)
  exact ae.aO rfl rfl ⟨_,rfl,hw,by simp [h1]⟩
 ·repeat' (first|refine Wz ?_|((apply CW.aP mixed;(· kernel_rfl);rotate_left;intro w1 ab;replace hw:=Ext.trans hw ab;replace aL:=aL.ext ab;replace h9:=h9.ext ab;clear ab;rotate_right))|refine SW.br rfl rfl (fun w1 ab=>(c1 _)) ?_|exact SW.bx rfl)
  exact ae.aO rfl rfl ⟨_,rfl,hw,by simp [h1]⟩
theorem lU (r:cy) (z:ar) (w:World) (hr:uj w r z) (hn:r.ag.n*24≤140737488355328) (hm:r.Types.n*8≤140737488355328) :
 bo Tryz.prog 87 [.agg (bp r).toArray] w fun v w' => ∃ s,v = .agg (bp s).toArray∧eY w' w.heap.size s z:=by
 refine aI Tryz.func87 rfl Tryz.ntmps87 rfl ?_;refine CW.seq (CW.region (SW.box rfl rfl fun b w1 hw hb hB => ?_));refine SW.alloc rfl fun b2 w2 cq g7 aL => ?_
 have pY:w.heap.size≤b2:=Nat.le_trans hw.size g7
 (replace hw:=Ext.trans hw cq;replace hB:=hB.ext cq);refine Wz ?_;refine CW.any 10 mixed (cj (by kernel_rfl)) rfl fun w1 ab aG => ?_
 replace hw:=Ext.trans hw ab;replace hB:=hB.ext ab;replace aL:=aL.ext ab;clear ab;refine Wa ?_;refine SA.one 6 rfl (by kernel_rfl) rfl ?_;refine SW.call rfl rfl (lP _ _ _ _ _ (hr.free.ext hw) hn) fun v w4 aj hv => ?_
 obtain ⟨X,c4,rfl,hX⟩:=hv;replace hX:=hX.low hw.size;(replace hw:=Ext.trans hw aj;replace hB:=hB.ext aj;replace aL:=aL.ext aj);refine SW.nil (ae.sa aj ?_);refine SA.one 9 rfl (by kernel_rfl) rfl ?_;refine SW.call rfl rfl (gf _ _ _ _ _ (hr.types.ext hw) hm) fun v w4 aj hv => ?_
 obtain ⟨Y,d4,rfl,hY⟩:=hv;replace hY:=hY.low hw.size;(replace hw:=Ext.trans hw aj;replace hB:=hB.ext aj;replace aL:=aL.ext aj;replace hX:=hX.ext aj);refine SW.nil (ae.sa aj ?_);refine SA.done (by kernel_rfl) ?_;refine Wz ?_;refine SW.ak aL rfl rfl rfl rfl (cJ ⟨r.aX,r.To,⟨X,r.ag.n,c4⟩,⟨Y,r.Types.n,d4⟩⟩) fun w7 bF hg => ?_
 have hG:=aL.gr hg;replace hw:=hw.own pY hg;(replace hX:=hX.ay hG rfl;replace hY:=hY.ay hG rfl);refine Wz ?_;exact ae.mr rfl rfl bF rfl ⟨_,rfl,hw,⟨r.aX,r.To,⟨X,r.ag.n,c4⟩,⟨Y,r.Types.n,d4⟩⟩,rfl,⟨hr.from_,hr.j6,hX,hY⟩⟩
theorem Af {z:ar} {a o:Int} (h:ed z=false) : iM z a o=(8,.zero):=by simp [iM,h,ar.zero]
theorem Ag {z:ar} {a o:Int} (h:ed z=true) (hf : ¬ eX z.aX z.To a o) : iM z a o=(1,.zero):=by simp [iM,h,hf,ar.zero]
theorem Ah {z:ar} {a o:Int} (h:ed z=true) (hf:eX z.aX z.To a o) (ho:e8 z.ag a o=true) : iM z a o=(5,.zero):=by simp [iM,h,hf,ho,ar.zero]
theorem vG {z:ar} {a o:Int} (h:ed z=true) (hf:eX z.aX z.To a o) (ho:e8 z.ag a o=false) {l:List Block} {a' o':Int} (hj:ic 5 z.ag a o=(l,a',o')) {t:Int} (ht:z.Types.getD ((a'-z.aX) / 8).toNat 0=t) :
 iM z a o=(0,⟨z.aX,z.To,aV l (bG l a') ⟨a',o',t⟩,z.Types⟩):=by simp [iM,h,hf,ho,hj,← ht]
theorem ka {z:ar} (h:bU z) : z.ag.length≤256∧z.Types.length≤32:=by
 have hu:=ln h;have jh:=h.ok;unfold jz at jh
 have key:∀ (i:Nat) (hi:i<z.ag.length),(i:Int)≤(z.ag[i]).At:=by
  intro i;induction i with
  | zero =>
    intro hi;have:=(h.c8 0 hi).1
    unfold eX at this;omega
  | succ i ih =>
    intro hi;have h1:=ih (by omega);have h2:=fr hu hi (Nat.lt_succ_self i);have h3:=(h.c8 i (by omega)).1;have:=bE h3.1 h3.2.1
    omega
 refine ⟨?_,by have:=h.len;omega⟩;rcases Nat.eq_zero_or_pos z.ag.length with h0|h0
 ·omega
 ·have h1:=key (z.ag.length-1) (by omega);have h2:=(h.c8 (z.ag.length-1) (by omega)).1;unfold eX at h2;omega
open Go.RowKit
structure yG (z:ar) (a o:Int) (f:Nat) (l:List Block) (a' o':Int) : Prop where
 ok:vC z.aX z.To l a' o'
 eq:ic 5 z.ag a o=ic f l a' o'
 fuel : 5≤(f:Int)+o'
 len:l.length≤z.ag.length
theorem yG.stop {z:ar} {a o:Int} {f:Nat} {l:List Block} {a' o':Int} (h:yG z a o f l a' o') (ho : ¬ o'<4∨l.any (rv (beside a' o') o')=false) : ic 5 z.ag a o=(l,a',o'):=by
 rw [h.eq];cases f with
 | zero=>rfl
 | succ f =>
   simp only [ic];rcases ho with h1|h1
   ·rw [if_neg h1]
   ·simp [h1]
theorem yG.next {z:ar} {a o:Int} {f:Nat} {l:List Block} {a' o':Int} (h:yG z a o f l a' o') (h0 : 0≤z.aX) (ho:o'<4) (dU:l.any (rv (beside a' o') o')=true) : ∃ f',yG z a o f' (dc l (beside a' o') o') (min a' (beside a' o')) (o'+1):=by
 have hf:=h.fuel;obtain ⟨g,rfl⟩ : ∃ g,f=g+1:=⟨f-1,by omega⟩;refine ⟨g,h.ok.step h0 ho dU,?_,by omega,Nat.le_trans (List.length_filter_le _ _) h.len⟩;rw [h.eq];simp only [ic,if_pos ho,dU,if_true]
set_option maxHeartbeats 8000000 in
theorem uO (r:cy) (z:ar) (a o:Int) (w:World) (hr:uj w r z) (hf:(r.ag.n+1)*24≤140737488355328) (ht:r.Types.n*8≤140737488355328) (h1 : -9223372036854775808≤r.aX∧r.aX≤9223372036854775807) (h2 : -9223372036854775808≤r.To∧r.To≤9223372036854775807) :
 bo Tryz.prog 192 [.agg (bp r).toArray,.int .i64 a,.int .i64 o] w (rQ w.heap.size (iM z a o)):=by
 refine aI Tryz.func192 rfl Tryz.ntmps192 rfl ?_;refine CW.seq (CW.region (SW.box rfl rfl fun b3 w1 hw bH aq => ?_));refine SW.alloc rfl fun b6 w2 cq eg aw => ?_
 have cu:w.heap.size≤b6:=Nat.le_trans hw.size eg
 have pf:b3≠b6:=by have:=aq.lt;omega
 (replace hw:=Ext.trans hw cq;replace aq:=aq.ext cq);have eF:=hr.from_;have eT:=hr.j6;have CA:=hr.free.len;have HU:=hr.types.len;obtain ⟨q,hq⟩ : ∃ q,ed z=q:=⟨_,rfl⟩
 have c1:∀ w',Ext w w'→bo Tryz.prog 176 [.agg (bp r).toArray] w' fun v _=>v = .int .i64 (if q then 0 else 8):=fun w' h=>by
  have:=j8 r z w' (hr.ext h) (by omega) (by omega) h1 h2
  rwa [hq] at this
 cases q
 ·simp only [Bool.false_eq_true,if_false] at c1;rw [Af hq];repeat' (first|refine Wz ?_|(refine SW.call rfl rfl (c1 _ hw) ?_;intro v w1 ab hv;subst hv;replace hw:=Ext.trans hw ab;replace aq:=aq.ext ab;replace aw:=aw.ext ab;clear ab))
  refine SW.ak aw rfl rfl rfl rfl (cJ .zero) fun w5 bF hg => ?_
  replace hw:=hw.own cu hg;refine Wz ?_;exact ae.fI rfl rfl rfl bF rfl ⟨_,rfl,hw,.zero,rfl,eY.zero _ _⟩
 ·simp only [if_true] at c1;have hz:=dH.1 hq;obtain ⟨o1,o2,o3,o4,o5⟩:=hz.ok;repeat' (first|refine Wz ?_|(refine SW.call rfl rfl (c1 _ hw) ?_;intro v w1 ab hv;subst hv;replace hw:=Ext.trans hw ab;replace aq:=aq.ext ab;replace aw:=aw.ext ab;clear ab))
  clear c1;refine SW.alloc rfl fun b9 w1 ab ox bk => ?_
  skip;refine SW.ak bk rfl rfl rfl rfl (fw.one (enc:=aA) ⟨a,o,0⟩) fun w2 gi hg => ?_
  have aj:=ab.own ox hg;have ry:w.heap.size≤b9:=Nat.le_trans hw.size ox
  replace hw:=Ext.trans hw aj;replace aq:=aq.ext aj;replace aw:=aw.ext aj;replace bk:=gi;clear gi ab hg aj
  have cF:∀ w',bo Tryz.prog 229 [.agg (bp r).toArray,.agg (aA ⟨a,o,0⟩).toArray] w' fun v _=>v = .bool (decide (eX z.aX z.To a o)):=fun w'=>by
   have:=nB r ⟨a,o,0⟩ w' (by omega)
   rwa [eF,eT] at this
  by_cases iT:eX z.aX z.To a o
  ·rw [decide_eq_true iT] at cF;obtain ⟨f1,f2,f3,f4,f5⟩:=id iT
   have cC:∀ w',Ext w w'→aJ w' b9 165 (aA ⟨a,o,0⟩)→bo Tryz.prog 226 [.slice r.ag.A r.ag.n r.ag.c,.func (.func 233) #[] [.pointer (some ⟨b9,0,none⟩)].toArray] w' fun v _=>v = .bool (e8 z.ag a o):=fun w' hx h9 =>
    mB _ _ _ _ _ (hr.free.ext hx) _ [.pointer (some ⟨b9,0,none⟩)] (fun x=>decide (x.At<a+pw o) && decide (a<x.At+pw x.Order)) (fun x => .agg (aA x).toArray) (fun x=>rfl)
     (fun x ND w1 jx=>by
       obtain ⟨i,hi,rfl⟩:=List.getElem_of_mem ND;obtain ⟨g1,g2,g3,g4,g5⟩:=(hz.c8 i hi).1;exact AO a o b9 _ w1 (h9.ext jx) ⟨f1,f2⟩ ⟨by omega,by omega⟩ ⟨by omega,by omega⟩ ⟨g1,g2⟩) (by omega)
   cases wU:e8 z.ag a o
   ·rw [wU] at cC;have GD:=ss (f:=0) (t:=0) hz iT wU;repeat' (first|refine Wz ?_|(refine CW.bB rfl ?_)|((first|refine SW.call rfl rfl (cF _) ?_|refine SW.call rfl rfl (cC _ hw bk) ?_);intro v w1 ab hv;subst hv;replace hw:=Ext.trans hw ab;replace aq:=aq.ext ab;replace aw:=aw.ext ab;replace bk:=bk.ext ab;clear ab)|(refine SW.st (iz (vs:=[.pointer (some ⟨b9,0,none⟩)]) rfl) rfl ?_))
    have IH:b9+1≤_:=bk.lt
    refine SW.call rfl rfl (pX r z _ (hr.ext hw) (by omega) ht) fun v w4 iK hv => ?_
    obtain ⟨s,rfl,hs,e1,e2⟩:=hv;replace hs:=hs.low IH;(replace hw:=Ext.trans hw iK;replace aq:=aq.ext iK;replace aw:=aw.ext iK;replace bk:=bk.ext iK);clear IH cC cF;skip;refine SW.ak aq rfl rfl rfl rfl (cJ s) fun w5 cK hg => ?_
    have hG:=aq.gr hg;replace hw:=hw.own bH hg;(replace bk:=bk.ay hG rfl);have hX:=hs.free.ay hG rfl;have hT:=hs.types.ay hG rfl;replace aw:=aw.grown hg (by simpa using pf.symm);replace aq:=cK;have es:s.ag.n=z.ag.length:=by rw [e1,CA]
    have KH:s=⟨s.aX,s.To,⟨s.ag.A,z.ag.length,s.ag.c⟩,s.Types⟩:=by rw [← es]
    have sF:=hs.from_;have sT:=hs.j6;rw [es] at hX;rw [KH] at aq;clear cK hg hG hs;refine Wz ?_
    obtain ⟨K,hK⟩ : ∃ K:Env→World→Prop,K=fun L' w' => ∃ l a' o' A c,ez L' [(3,.pointer (some ⟨b3,0,none⟩)),(6,.pointer (some ⟨b6,0,none⟩)),(9,.pointer (some ⟨b9,0,none⟩))]∧Ext w w'∧aJ w' b3 139 [.int .i64 s.aX,.int .i64 s.To,.slice A l.length c,.slice s.Types.A s.Types.n s.Types.c]∧aJ w' b6 139 (bp .zero)∧aJ w' b9 165 [.int .i64 a',.int .i64 o',.int .i64 0] ∧
     Own w' (b9+1) 165 3 aA A l.length c l∧Own w' (b9+1) 3 1 bd s.Types.A s.Types.n s.Types.c z.Types∧vC z.aX z.To l a' o'∧ic 5 z.ag a o=(l,a',o')∧l.length≤z.ag.length:=⟨_,rfl⟩
    refine CW.wR K ?_ ?_
    ·refine CW.loop (fun u:Nat×List Block×Int×Int×Option Addr×Nat=>[(3,.pointer (some ⟨b3,0,none⟩)),(6,.pointer (some ⟨b6,0,none⟩)),(9,.pointer (some ⟨b9,0,none⟩))])
      (fun u w'=>Ext w w'∧aJ w' b3 139 [.int .i64 s.aX,.int .i64 s.To,.slice u.2.2.2.2.1 u.2.1.length u.2.2.2.2.2,.slice s.Types.A s.Types.n s.Types.c]∧aJ w' b6 139 (bp .zero)∧aJ w' b9 165 [.int .i64 u.2.2.1,.int .i64 u.2.2.2.1,.int .i64 0] ∧
        Own w' (b9+1) 165 3 aA u.2.2.2.2.1 u.2.1.length u.2.2.2.2.2 u.2.1∧Own w' (b9+1) 3 1 bd s.Types.A s.Types.n s.Types.c z.Types∧yG z a o u.1 u.2.1 u.2.2.1 u.2.2.2.1) (fun u=>(5-u.2.2.2.1).toNat) (5,z.ag,a,o,s.ag.A,s.ag.c)
      ⟨rfl,rfl,rfl,trivial⟩ ⟨hw,aq,aw,bk,hX,hT,⟨GD,rfl,by simp only;omega,Nat.le_refl _⟩⟩ ?_
     clear hw aq aw bk hX hT GD;rintro ⟨f,l,a',o',A,c⟩ w' ⟨hw,aq,aw,bk,hX,hT,hJ⟩
     simp only at aq bk hX hJ ⊢;obtain ⟨k1,k2,k3,k4,k5⟩:=hJ.ok.fit;have hlen:=hJ.len;have hp:=bE k1 k2;by_cases Cd:o'<4
     ·obtain ⟨m1,m2,m3⟩:=ow (by omega) k1 Cd k5;generalize oy:beside a' o'=mC at m1 m2 m3
      have EM:=AK hJ.ok.nQ hJ.ok.c8 mC o'
      have cD:∀ w1,Ext w' w1→bo Tryz.prog 234 [.agg (bp ⟨s.aX,s.To,⟨A,l.length,c⟩,s.Types⟩).toArray,.int .i64 mC] w1 fun v _=>v = .tuple #[.int .i64 (bG l mC:Int),.bool (cc l mC)]:=fun w1 hx =>
       qd ⟨s.aX,s.To,⟨A,l.length,c⟩,s.Types⟩ l z.aX z.To mC w1 (hX.sl.ext hx) hJ.ok.nQ hJ.ok.c8 o1 (by omega) (by simp only;omega) ⟨by omega,by omega⟩
      by_cases sw:bG l mC<l.length∧(∀ h:bG l mC<l.length,(l[bG l mC]).At=mC∧(l[bG l mC]).Order=o')
      ·obtain ⟨sw,hh⟩:=sw;obtain ⟨qO,rz⟩:=hh sw;have GF:cc l mC=true:=by unfold cc;rw [dif_pos sw];exact decide_eq_true qO
       have GG:p9 l mC o'=true:=by unfold p9;rw [dif_pos sw];exact decide_eq_true ⟨qO,rz⟩
       rw [GG] at EM;rw [GF] at cD;have HW:=n9 hJ.ok.nQ hJ.ok.c8 sw qO rz;have hA:=hX.sl.base;generalize AN:bG l mC=lb at *
       have HX:∀ x,x=beside a' o'→x=mC:=fun x e=>e.trans oy
       refine Wz ?_;(apply CW.aP mixed;(· kernel_rfl);rotate_left;intro w1 ab;replace hw:=Ext.trans hw ab;replace aq:=aq.ext ab;replace aw:=aw.ext ab;replace bk:=bk.ext ab;replace hX:=hX.ext ab;replace hT:=hT.ext ab;clear ab;rotate_right);repeat' (first|refine Wz ?_|refine SW.br rfl rfl (fun w1 ab=>(cD _ ab)) ?_|(refine SW.st (eW (r:=pw o') rfl rfl (by omega) (by omega) (by simp [pw]) (by omega) (by omega)) rfl ?_)|(refine SW.st ((jX a' o' rfl rfl rfl rfl ⟨by omega,by omega,k1,Cd,k5⟩).eq (congrArg (Value.int .i64) oy)) rfl ?_)|exact SW.bx rfl)
       (apply CW.aP mixed;(· kernel_rfl);rotate_left;intro w1 ab;replace hw:=Ext.trans hw ab;replace aq:=aq.ext ab;replace aw:=aw.ext ab;replace bk:=bk.ext ab;replace hX:=hX.ext ab;replace hT:=hT.ext ab;clear ab;rotate_right);repeat' (first|refine Wz ?_|refine SW.want rfl rfl ?_|refine SW.st (ao rfl (hX.sl.dA sw rfl)) rfl ?_|exact SW.bx rfl)
       refine CW.any 8 mixed (cj (by kernel_rfl)) rfl fun w1 ab aG => ?_
       replace hw:=Ext.trans hw ab;replace aq:=aq.ext ab;replace aw:=aw.ext ab;replace bk:=bk.ext ab;replace hX:=hX.ext ab;replace hT:=hT.ext ab;clear ab;refine Wa ?_;refine SA.take 7 aG rfl (by kernel_rfl) (by kernel_rfl) rfl ?_;repeat ((show SW _ _ _ _ (⟨_,Op.load _ _,_,_,_,none⟩::_) _ _;refine SW.st (ao rfl (hX.sl.dA sw rfl)) rfl ?_))
       refine SW.ah ?_;refine SA.done (by kernel_rfl) ?_;repeat' (first|refine Wz ?_|(refine SW.st (Gr rfl rfl) rfl ?_))
       refine SW.bA (i:=0) bk rfl rfl rfl rfl fun w5 gi hg => ?_
       have hG:=bk.gr hg;replace hw:=hw.own ry hg;replace hX:=hX.grown hg (.inr (fun e=>by have:=hX.aM _ e;omega));(replace aq:=aq.ay hG rfl;replace aw:=aw.ay hG rfl;replace hT:=hT.ay hG rfl);replace bk:=gi;clear gi hg hG;refine Wz ?_;refine SW.bA (i:=1) bk rfl rfl rfl rfl fun w5 gi hg => ?_
       have hG:=bk.gr hg;replace hw:=hw.own ry hg;replace hX:=hX.grown hg (.inr (fun e=>by have:=hX.aM _ e;omega));(replace aq:=aq.ay hG rfl;replace aw:=aw.ay hG rfl;replace hT:=hT.ay hG rfl);replace bk:=gi;clear gi hg hG;refine Wz ?_;refine SW.da rfl rfl (ms A l.length c _ l _ hX lb sw (by omega) (by have:=bk.lt;omega)) fun v w6 hv => ?_
       obtain ⟨rfl,tY,hg⟩:=hv;have hG:=hX.gr hg;replace hw:=aF hw hg (Nat.le_trans ry (Nat.le_succ _)) hX.aM;replace bk:=bk.grown hg (fun e=>by have:=hX.aM _ e.symm;omega);(replace aq:=aq.ay hG rfl;replace aw:=aw.ay hG rfl;replace hT:=hT.ay hG rfl);clear hg hG;have wV:l.length-1=(l.eraseIdx lb).length:=by rw [List.length_eraseIdx_of_lt sw]
       rw [wV] at tY;rw [wV];refine Wz ?_;refine SW.bA (i:=2) aq rfl rfl rfl rfl fun w7 cK hg => ?_
       have hG:=aq.gr hg;replace hw:=hw.own bH hg;replace aw:=aw.grown hg (by simpa using pf.symm);(replace bk:=bk.ay hG rfl;replace tY:=tY.ay hG rfl;replace hT:=hT.ay hG rfl);refine Wz ?_;obtain ⟨f',tZ⟩:=hJ.next o1 Cd (by rw [oy];exact EM)
       rw [oy,← HW] at tZ;refine ae.again (f',l.eraseIdx lb,min a' mC,o'+1,A,c) ⟨rfl,rfl,rfl,trivial⟩ (by simp only;omega) ⟨hw,cK,aw,?_,tY,hT,tZ⟩;rw [qO] at bk;exact bk
      ·have GG:p9 l mC o'=false:=by
        unfold p9;by_cases h:bG l mC<l.length
        ·rw [dif_pos h];exact decide_eq_false (fun hh=>sw ⟨h,fun _=>hh⟩)
        ·rw [dif_neg h]
       rw [GG] at EM;have rO:=hJ.stop (.inr (by rw [oy];exact EM))
       have KI:∀ w1,Ext w w1→aJ w1 b3 139 [.int .i64 s.aX,.int .i64 s.To,.slice A l.length c,.slice s.Types.A s.Types.n s.Types.c]→aJ w1 b6 139 (bp .zero)→aJ w1 b9 165 [.int .i64 a',.int .i64 o',.int .i64 0]→Own w1 (b9+1) 165 3 aA A l.length c l→Own w1 (b9+1) 3 1 bd s.Types.A s.Types.n s.Types.c z.Types → ∀ L',ez L' [(3,.pointer (some ⟨b3,0,none⟩)),(6,.pointer (some ⟨b6,0,none⟩)),(9,.pointer (some ⟨b9,0,none⟩))]→K L' w1:=fun w1 x1 x2 x3 x4 x5 x6 L' x7=>by
        rw [hK];exact ⟨l,a',o',A,c,x7,x1,x2,x3,x4,x5,x6,hJ.ok,rO,hJ.len⟩
       by_cases wV:bG l mC<l.length
       ·have hA:=hX.sl.base;by_cases qO:(l[bG l mC]).At=mC
        ·have rz : ¬ (l[bG l mC]).Order=o':=fun h=>sw ⟨wV,fun _=>⟨qO,h⟩⟩
         have GF:cc l mC=true:=by unfold cc;rw [dif_pos wV];exact decide_eq_true qO
         rw [GF] at cD;generalize AN:bG l mC=lb at *
         repeat' (first|refine Wz ?_|((apply CW.aP mixed;(· kernel_rfl);rotate_left;intro w1 ab;replace hw:=Ext.trans hw ab;replace aq:=aq.ext ab;replace aw:=aw.ext ab;replace bk:=bk.ext ab;replace hX:=hX.ext ab;replace hT:=hT.ext ab;clear ab;rotate_right))|refine SW.want rfl rfl ?_|refine SW.st (ao rfl (hX.sl.dA wV rfl)) rfl ?_|refine SW.br rfl rfl (fun w1 ab=>(cD _ ab)) ?_|(refine SW.st (eW (r:=pw o') rfl rfl (by omega) (by omega) (by simp [pw]) (by omega) (by omega)) rfl ?_)|(refine SW.st ((jX a' o' rfl rfl rfl rfl ⟨by omega,by omega,k1,Cd,k5⟩).eq (congrArg (Value.int .i64) oy)) rfl ?_)|exact SW.bx rfl)
         exact ae.kx (K:=K) (KI _ hw aq aw bk hX hT _ ⟨rfl,rfl,rfl,trivial⟩)
        ·have GF:cc l mC=false:=by unfold cc;rw [dif_pos wV];exact decide_eq_false qO
         rw [GF] at cD;generalize AN:bG l mC=lb at *
         repeat' (first|refine Wz ?_|((apply CW.aP mixed;(· kernel_rfl);rotate_left;intro w1 ab;replace hw:=Ext.trans hw ab;replace aq:=aq.ext ab;replace aw:=aw.ext ab;replace bk:=bk.ext ab;replace hX:=hX.ext ab;replace hT:=hT.ext ab;clear ab;rotate_right))|refine SW.skip rfl rfl rfl rfl ?_|refine SW.br rfl rfl (fun w1 ab=>(cD _ ab)) ?_|(refine SW.st (eW (r:=pw o') rfl rfl (by omega) (by omega) (by simp [pw]) (by omega) (by omega)) rfl ?_)|(refine SW.st ((jX a' o' rfl rfl rfl rfl ⟨by omega,by omega,k1,Cd,k5⟩).eq (congrArg (Value.int .i64) oy)) rfl ?_)|exact SW.bx rfl)
         exact ae.kx (K:=K) (KI _ hw aq aw bk hX hT _ ⟨rfl,rfl,rfl,trivial⟩)
       ·have GF:cc l mC=false:=by unfold cc;rw [dif_neg wV]
        rw [GF] at cD;generalize AN:bG l mC=lb at *
        repeat' (first|refine Wz ?_|((apply CW.aP mixed;(· kernel_rfl);rotate_left;intro w1 ab;replace hw:=Ext.trans hw ab;replace aq:=aq.ext ab;replace aw:=aw.ext ab;replace bk:=bk.ext ab;replace hX:=hX.ext ab;replace hT:=hT.ext ab;clear ab;rotate_right))|refine SW.skip rfl rfl rfl rfl ?_|refine SW.br rfl rfl (fun w1 ab=>(cD _ ab)) ?_|(refine SW.st (eW (r:=pw o') rfl rfl (by omega) (by omega) (by simp [pw]) (by omega) (by omega)) rfl ?_)|(refine SW.st ((jX a' o' rfl rfl rfl rfl ⟨by omega,by omega,k1,Cd,k5⟩).eq (congrArg (Value.int .i64) oy)) rfl ?_)|exact SW.bx rfl)
        exact ae.kx (K:=K) (KI _ hw aq aw bk hX hT _ ⟨rfl,rfl,rfl,trivial⟩)
     ·refine Wz ?_;exact ae.kx (K:=K) (by rw [hK];exact ⟨l,a',o',A,c,⟨rfl,rfl,rfl,trivial⟩,hw,aq,aw,bk,hX,hT,hJ.ok,hJ.stop (.inl Cd),hJ.len⟩)
    ·clear hw aq aw bk hX hT GD;subst hK;rintro L' w' ⟨l,a',o',A,c,fv,hw,aq,aw,bk,hX,hT,hJ,CL,hlen⟩
     refine ae.sub fv ?_;obtain ⟨k1,k2,k3,k4,k5⟩:=hJ.fit;obtain ⟨k,hk,dk⟩:=z6 hz k3 k4;have cb:k<s.Types.n:=by omega
     have KJ:=vG hq iT wU CL (t:=z.Types[k]) (by rw [hk];simp [List.getD_eq_getElem?_getD,List.getElem?_eq_getElem dk]);rw [KJ];have KK:l.length≤1000000000000000000:=by omega
     have hA:=hT.sl.base;have Pq:s.aX=z.aX:=sF
     repeat' (first|refine Wz ?_|refine SW.st (bc (k) rfl rfl (by assumption) (by omega) (by omega)) rfl ?_|refine SW.st (ao rfl (hT.sl.one cb rfl)) rfl ?_)
     refine SW.bA (i:=2) bk rfl rfl rfl rfl fun w5 gi hg => ?_
     have hG:=bk.gr hg;replace hw:=hw.own ry hg;replace hX:=hX.grown hg (.inr (fun e=>by have:=hX.aM _ e;omega));(replace aq:=aq.ay hG rfl;replace aw:=aw.ay hG rfl;replace hT:=hT.ay hG rfl);replace bk:=gi;clear gi hg hG;repeat' (first|refine Wz ?_|(refine SW.call rfl rfl (qd ⟨s.aX,s.To,⟨A,l.length,c⟩,s.Types⟩ l z.aX z.To a' _ hX.sl hJ.nQ hJ.c8 o1 (by omega) KK ⟨by omega,by omega⟩) ?_;intro v w1 ab hv;subst hv;replace hw:=Ext.trans hw ab;replace aq:=aq.ext ab;replace aw:=aw.ext ab;replace bk:=bk.ext ab;replace hX:=hX.ext ab;replace hT:=hT.ext ab;clear ab))
     have de:=hX.lt_size;refine SW.bK rfl rfl rfl rfl rfl fun vb w6 aj II NE => ?_
     (replace hw:=Ext.trans hw aj;replace aq:=aq.ext aj;replace aw:=aw.ext aj;replace bk:=bk.ext aj;replace hX:=hX.ext aj;replace hT:=hT.ext aj);skip;refine SW.da rfl rfl (fA A l.length c _ l _ hX (bG l a') (Aa l a') ⟨a',o',z.Types[k]⟩ vb NE (fun e=>by have:=de _ e;omega) (Nat.le_trans (Nat.mul_le_mul_right 24 (by omega)) hf) (by have:=bk.lt;omega)) fun v w7 hv => ?_
     obtain ⟨A2,c2,rfl,tY,hg⟩:=hv;have hG:=hX.gr hg;replace hw:=aF hw hg (Nat.le_trans ry (Nat.le_succ _)) hX.aM;replace bk:=bk.grown hg (fun e=>by have:=hX.aM _ e.symm;omega);(replace aq:=aq.ay hG rfl;replace aw:=aw.ay hG rfl;replace hT:=hT.ay hG rfl);clear hg hG;refine Wz ?_;refine SW.bA (i:=2) aq rfl rfl rfl rfl fun w8 cK hg => ?_
     have hG:=aq.gr hg;replace hw:=hw.own bH hg;replace aw:=aw.grown hg (by simpa using pf.symm);(replace bk:=bk.ay hG rfl;replace tY:=tY.ay hG rfl;replace hT:=hT.ay hG rfl);clear hg hG;refine Wz ?_;refine SW.ak aw rfl rfl rfl rfl (cJ ⟨s.aX,s.To,⟨A2,l.length+1,c2⟩,s.Types⟩) fun w9 bF hg => ?_
     have hG:=aw.gr hg;replace hw:=hw.own cu hg;(replace tY:=tY.ay hG rfl;replace hT:=hT.ay hG rfl);refine Wz ?_;exact ae.fI rfl rfl rfl bF rfl ⟨_,rfl,hw,⟨s.aX,s.To,⟨A2,l.length+1,c2⟩,s.Types⟩,rfl,sF,sT,tY.low (by omega),hT.low (by omega)⟩
   ·rw [wU] at cC;rw [Ah hq iT wU];repeat' (first|refine Wz ?_|(refine CW.bB rfl ?_)|((first|refine SW.call rfl rfl (cF _) ?_|refine SW.call rfl rfl (cC _ hw bk) ?_);intro v w1 ab hv;subst hv;replace hw:=Ext.trans hw ab;replace aq:=aq.ext ab;replace aw:=aw.ext ab;replace bk:=bk.ext ab;clear ab)|(refine SW.st (iz (vs:=[.pointer (some ⟨b9,0,none⟩)]) rfl) rfl ?_))
    refine SW.ak aw rfl rfl rfl rfl (cJ .zero) fun w5 bF hg => ?_
    replace hw:=hw.own cu hg;refine Wz ?_;exact ae.fI rfl rfl rfl bF rfl ⟨_,rfl,hw,.zero,rfl,eY.zero _ _⟩
  ·rw [decide_eq_false iT] at cF;rw [Ag hq iT];repeat' (first|refine Wz ?_|(refine CW.bO rfl ?_)|(refine SW.call rfl rfl (cF _) ?_;intro v w1 ab hv;subst hv;replace hw:=Ext.trans hw ab;replace aq:=aq.ext ab;replace aw:=aw.ext ab;replace bk:=bk.ext ab;clear ab))
   refine SW.ak aw rfl rfl rfl rfl (cJ .zero) fun w5 bF hg => ?_
   replace hw:=hw.own cu hg;refine Wz ?_;exact ae.fI rfl rfl rfl bF rfl ⟨_,rfl,hw,.zero,rfl,eY.zero _ _⟩
end Go.Proofs.YtbidkghlpijecaaGreatDoor
