/-
  Texts of the claim SlabBulks, part 5: what its theorem leans on.
-/
import Derived.Test.YtjimadiidbkohaaGreatDoorPackSlabBulks4
import Derived.Test.YtjimadiidbkohaaGreatDoorPackSlabBulks3
import Derived.Test.YtjimadiidbkohaaGreatDoorPackSlabBulks2
set_option linter.unusedVariables false
set_option linter.unusedSimpArgs false
namespace Go.Proofs.YtjimadiidbkohaaGreatDoor
open Go.RowKit
set_option maxHeartbeats 4000000 in
theorem mo (A:Option Addr) (n c lo:Nat) (l:List Block) (w:World) (hO:Own w lo 77 3 az A n c l) (i:Nat) (hi:i<n) (hn:n≤1000000000000000000) (fG:lo≤w.heap.size) :
 il Tryz.prog 140 [.slice A n c,.int .i64 (i:Int),.int .i64 ((i+1:Nat) : Int)] w fun v w'=>v = .slice A (n-1) c∧Own w' lo 77 3 az A (n-1) c (l.eraseIdx i)∧w.grownBy w' (aQ A c):=by
 refine dC Tryz.func140 rfl Tryz.ntmps140 rfl ?_;have hle:=hO.le;have kB:=hO.len;have hA:=hO.sl.base;have AG:w.grownBy w (aQ A c):=World.grownBy.refl _ _
 repeat' (first|refine Wz ?_|(refine SW.st (uG (i:=i) (j:=i+1) (k:=n) rfl rfl rfl rfl (by omega) (by omega) (by omega)) rfl ?_))
 all_goals try omega
 have hw:=Ext.refl w;have e0:i+(n-(i+1))=n-1:=by omega
 have el:l.take i++l.drop (i+1)=l.eraseIdx i:=by rw [List.eraseIdx_eq_take_drop_succ]
 refine CW.any 6 mixed (cq (by kernel_rfl)) rfl fun w1 ab aG => ?_
 replace hw:=Ext.trans hw ab;replace hO:=hO.ext ab;clear ab;refine Wa ?_;refine SA.take 2 aG rfl (by kernel_rfl) (by kernel_rfl) rfl ?_;repeat ((refine SW.st (dc (k:=i) rfl rfl (by omega)) rfl ?_))
 refine SW.ai ?_;refine Wa ?_;refine SA.take 5 aG rfl (by kernel_rfl) (by kernel_rfl) rfl ?_;repeat ((refine SW.st (bi (k:=i+1) rfl rfl (by omega) (by omega)) rfl ?_))
 refine SW.ai ?_;refine SA.done (by kernel_rfl) ?_;refine SW.wS (hO.pre (i:=i) (by omega)) (hO.sl.drop (i+1) c (by omega) (by omega)) (by omega) rfl rfl rfl fun w2 gf hg => ?_
 rw [e0,el] at gf;rw [e0];have Es:=(hw.gr (aQ A c));repeat' (first|refine Wz ?_|(refine SW.st (sb (i:=n-1) (j:=n) rfl rfl rfl (by omega) (by omega)) rfl ?_))
 obtain ⟨g,rest,rfl,h1,h2,h3,h4,h5,h6⟩:=gf.opened (by omega);have oI:((l.eraseIdx i).flatMap az).length=(n-1)*3:=by rw [bc,gf.len]
 refine SW.clear ((n-1)*3) h2 rfl (by rw [List.length_append,oI];omega) (fun h0 => ?_) (by decide) fun w3 cs gU hB tH => ?_
 ·rw [if_neg (by omega)];simp [c9]
 ·have e7:=eW ((l.eraseIdx i).flatMap az) (rest.take ((n-(n-1))*3)) (rest.drop ((n-(n-1))*3)) cs (by rw [gU];simp;omega) (o:=(n-1)*3) oI.symm;rw [List.append_assoc (List.flatMap _ _),List.take_append_drop] at e7;rw [e7,List.append_assoc] at hB;have Hq:=Own.closed (l:=l.eraseIdx i) gf.len hB (by rw [List.length_append,gU];simp;omega) h4 (by omega) h5 h1;rw [← h6] at tH;have wT:=bP (bP Es hg (.inl rfl)) tH (.inl rfl);refine Wz ?_;exact ae.aO rfl rfl ⟨_,rfl,rfl,Hq,wT⟩
set_option maxHeartbeats 4000000 in
theorem fI (A:Option Addr) (n c lo:Nat) (l:List Block) (w:World) (hO:Own w lo 77 3 az A n c l) (i:Nat) (hi:i≤n) (x:Block) (b:Nat) (hB:aI w b 77 (az x)) (cG:aQ A c≠some b) (hn:(n+1)*24≤140737488355328) (fG:lo≤w.heap.size) :
 il Tryz.prog 106 [.slice A n c,.int .i64 (i:Int),.slice (some ⟨b,0,none⟩) 1 1] w fun v w' => ∃ A' c',v = .slice A' (n+1) c'∧Own w' lo 77 3 az A' (n+1) c' (aU l i x)∧w.grownBy w' (aQ A c):=by
 refine dC Tryz.func106 rfl Tryz.ntmps106 rfl ?_;have hle:=hO.le;have kB:=hO.len;have hA:=hO.sl.base;have hw:=Ext.refl w;have kH:Sl w 3 az (some ⟨b,0,none⟩) 1 [x]:=aI.lj hB
 have jV:(az x).length=3:=rfl
 have oI:∀ q:List Block,(q.flatMap az).length=q.length*3:=fun q=>bc q
 have nL:∀ (q:List Block) (v:Value),v∈q.flatMap az→v.oneCell'=true:=fun q v hv=>by
  obtain ⟨u,_,hu⟩:=List.mem_flatMap.1 hv;exact fO.one (enc:=az) u v hu
 by_cases ck:i=n
 ·subst ck;repeat' (first|refine Wz ?_|(refine SW.st (bi (k:=i) rfl rfl (by omega) (by omega)) rfl ?_))
  all_goals try omega
  refine SW.append hO kH fG rfl rfl rfl (by omega) (by omega) fun A2 c2 w2 gf hg => ?_
  refine Wz ?_;refine ae.aO rfl rfl ⟨_,rfl,A2,c2,rfl,?_,hg⟩;have e:aU l i x=l++[x]:=by unfold aU;rw [List.take_of_length_le (by omega),List.drop_eq_nil_of_le (by omega)];simp
  rw [e];exact gf
 ·by_cases jz:n+1≤c
  ·obtain ⟨g,rest,rfl,h1,h2,h3,h4,h5,h6⟩:=hO.opened (by omega);have AH:g≠b:=fun e=>cG (by rw [h6,e])
   have es:l.flatMap az++rest=(l.take i).flatMap az++((l.drop i).flatMap az++rest):=by rw [← List.append_assoc,← List.flatMap_append,List.take_append_drop]
   have e1:((l.take i).flatMap az).length=i*3:=by rw [oI];simp;omega
   have e2:((l.drop i).flatMap az).length=(n-i)*3:=by rw [oI];simp [kB]
   have lV:=hO.sl.drop i c (by omega) (by omega);rw [if_neg (by omega)] at lV;rw [es] at h2
   have wU:∀ w',Ext w w'→(Extern.SlicesOverlaps.overlaps #[25,25] #[4] #[.slice (some ⟨b,0,none⟩) 1 1,.slice (if c=i+1 then (some ⟨g,0,none⟩) else (some (⟨g,0,none⟩ : Addr)).map (·.add ((i+1)*3))) (n+1-(i+1)) (c-(i+1))]).run Tryz.prog w' = .ok (.bool false) w':=fun w' hx=>by
    rw [if_neg (by omega),Option.map_some,c9];have b1:=hB.ext hx;have b2:=h2.ext hx;unfold aI at b1 b2
    exact Lib.run_overlaps_apart w' 25 4 77 (bw.ky (t:=25)) 3 (fun w0=>run_sizeOf (bw.size (t:=25)) w0) ⟨b,0,none⟩ ⟨g,(i+1)*3,none⟩ 1 1 _ _ (fun e=>AH e.symm) 77 77 (az x).toArray.size ((l.take i).flatMap az++((l.drop i).flatMap az++rest)).toArray.size
     (by simp only [World.shape?,b1]) (by simp only [World.shape?,b2]) (by simp [e1,e2];omega) (by simp [World.frozen?,b1]) (by simp [World.frozen?,b1])
   repeat' (first|refine Wz ?_|(refine CW.bG rfl ?_)|(refine SW.st (bi (k:=i) rfl rfl (by omega) (by omega)) rfl ?_)|(refine SW.st (dc (k:=n+1) rfl rfl (by omega)) rfl ?_)|(refine SW.st (bi (k:=i+1) rfl rfl (by omega) (by omega)) rfl ?_)|(refine SW.entry Tryz.func125 (by kernel_rfl) (by kernel_rfl) (by kernel_rfl) (e:=Extern.SlicesOverlaps.overlaps #[25,25] #[4]) (by kernel_rfl) rfl rfl (wU _ hw) ?_))
   all_goals try omega
   have uB:((n-i)+1)*3≤((l.drop i).flatMap az++rest).length:=by rw [List.length_append,e2];omega
   have e4:(l.drop i).flatMap az++rest=((l.drop i).flatMap az++rest).take 3++(((l.drop i).flatMap az++rest).drop 3).take ((n-i)*3)++((l.drop i).flatMap az++rest).drop (3+(n-i)*3):=by
    rw [List.append_assoc,← List.drop_drop,List.take_append_drop,List.take_append_drop]
   generalize Cs:((l.drop i).flatMap az++rest).take 3=D1 at e4
   generalize Ct:(((l.drop i).flatMap az++rest).drop 3).take ((n-i)*3)=D2 at e4
   generalize Cu:((l.drop i).flatMap az++rest).drop (3+(n-i)*3)=D3 at e4
   have f1:D1.length=3:=by rw [← Cs];simp only [List.length_take];omega
   have f2:D2.length=(n-i)*3:=by rw [← Ct];simp only [List.length_take,List.length_drop];omega
   have f3:D3.length+3=rest.length:=by rw [← Cu];simp only [List.length_drop,List.length_append,e2];omega
   rw [e4] at h2;refine CW.any 8 mixed (cq (by kernel_rfl)) rfl fun w1 ab aG => ?_
   replace hw:=Ext.trans hw ab;replace hO:=hO.ext ab;replace hB:=hB.ext ab;replace h2:=h2.ext ab;clear ab;refine Wa ?_;refine SA.take 4 aG rfl (by kernel_rfl) (by kernel_rfl) rfl ?_;repeat ((refine SW.st (bi (k:=i+1) rfl rfl (by omega) (by omega)) rfl ?_))
   refine SW.ai ?_;refine Wa ?_;refine SA.take 7 aG rfl (by kernel_rfl) (by kernel_rfl) rfl ?_;repeat ((refine SW.st (bi (k:=i) rfl rfl (by omega) (by omega)) rfl ?_))
   refine SW.ai ?_;refine SA.done (by kernel_rfl) ?_;refine SW.copy (k:=n-i) ((i+1)*3) ((l.drop i).flatMap az) h2 rfl rfl rfl (by omega) e2 (by simp only [List.length_append,e1,e2,f1,f2];omega) (fun h0=>⟨by rw [if_neg (by omega)];simp [c9],(⟨g,0,none⟩ : Addr).add (i*3),by rw [if_neg (by omega)];rfl,fun j v hv=>dq (by omega) (lV.ext hw) j v hv⟩) (nL _) fun w3 mx tH => ?_
   have g1:=eW ((l.take i).flatMap az++D1) D2 D3 ((l.drop i).flatMap az) (by rw [e2,f2]) (o:=(i+1)*3) (by rw [List.length_append,e1,f1];omega);have g0:(l.take i).flatMap az++(D1++D2++D3)=(l.take i).flatMap az++D1++D2++D3:=by simp only [List.append_assoc]
   rw [g0,g1] at mx;have Es:=bP (hw.gr (aQ (some ⟨g,0,none⟩) c)) tH (.inl h6.symm);have Ia:=hB.grown tH (by simpa using fun e=>AH e.symm);repeat' (first|refine Wz ?_|(refine SW.st (bi (k:=i) rfl rfl (by omega) (by omega)) rfl ?_))
   refine SW.copy (k:=1) (i*3) (az x) mx rfl rfl rfl (by omega) jV (by simp only [List.length_append,e1,e2,f1,jV];omega) (fun h0=>⟨by rw [if_neg (by omega)];simp [c9],⟨b,0,none⟩,rfl,fun j v hv=>Ia.cell hv⟩) (fO.one (enc:=az) x) fun w4 mQ vo => ?_
   have g2:=eW ((l.take i).flatMap az) D1 ((l.drop i).flatMap az++D3) (az x) (by rw [jV,f1]) (o:=i*3) e1.symm;have g3:(l.take i).flatMap az++D1++(l.drop i).flatMap az++D3=(l.take i).flatMap az++D1++((l.drop i).flatMap az++D3):=by simp only [List.append_assoc]
   have g4:(l.take i).flatMap az++az x++((l.drop i).flatMap az++D3)=(aU l i x).flatMap az++D3:=by unfold aU;simp only [List.flatMap_append,List.flatMap_cons,List.flatMap_nil,List.append_nil,List.append_assoc]
   rw [g3,g2,g4] at mQ;have Cv:=Own.closed (n:=n+1) (c:=c) (l:=aU l i x) (by unfold aU;simp;omega) mQ (by omega) jz (by omega) h5 h1;have Cw:=bP Es vo (.inl h6.symm);refine Wz ?_;exact ae.aO rfl rfl ⟨_,rfl,_,_,rfl,Cv,Cw⟩
  ·have Fm:c=n:=by omega
   have lV:=hO.sl.drop i c (by omega) (by omega);have pU:=hO.sl.pre (i:=i) (by omega);repeat' (first|refine Wz ?_|(refine SW.st (bi (k:=i) rfl rfl (by omega) (by omega)) rfl ?_)|(refine SW.st (dc (k:=i) rfl rfl (by omega)) rfl ?_))
   all_goals try omega
   refine SW.vy (k:=n+1-i) pU Tryz.underlying3 rfl rfl (by omega) rfl (by omega) (by omega) (by omega) (by omega) fun g rest c2 w2 cJ tT h2 h3 h4 h5 => ?_
   have e1:((l.take i).flatMap az).length=i*3:=by rw [oI];simp;omega
   have e2:((l.drop i).flatMap az).length=(n-i)*3:=by rw [oI];simp [kB]
   have uB:((n-i)+1)*3≤rest.length:=by omega
   have e4:rest=rest.take 3++(rest.drop 3).take ((n-i)*3)++rest.drop (3+(n-i)*3):=by
    rw [List.append_assoc,← List.drop_drop,List.take_append_drop,List.take_append_drop]
   generalize Cs:rest.take 3=D1 at e4
   generalize Ct:(rest.drop 3).take ((n-i)*3)=D2 at e4
   generalize Cu:rest.drop (3+(n-i)*3)=D3 at e4
   have f1:D1.length=3:=by rw [← Cs];simp only [List.length_take];omega
   have f2:D2.length=(n-i)*3:=by rw [← Ct];simp only [List.length_take,List.length_drop];omega
   have f3:D3.length+((n-i)+1)*3=rest.length:=by rw [← Cu];simp only [List.length_drop];omega
   rw [e4] at h2;have dz:aQ A c≠some g:=fun e=>by have:=hO.lt_size _ e;omega
   have AH:b≠g:=by have:=hB.lt;omega
   replace lV:=lV.ext cJ;replace hB:=hB.ext cJ;replace hw:=Ext.trans hw cJ;repeat' (first|refine Wz ?_|(refine SW.st (bi (k:=i) rfl rfl (by omega) (by omega)) rfl ?_))
   refine SW.copy (k:=1) (i*3) (az x) h2 rfl rfl rfl (by omega) jV (by simp only [List.length_append,e1,f1,f2,jV];omega) (fun h0=>⟨by rw [if_neg (by omega)];simp [c9],⟨b,0,none⟩,rfl,fun j v hv=>hB.cell hv⟩) (fO.one (enc:=az) x) fun w3 mx tH => ?_
   have g2:=eW ((l.take i).flatMap az) D1 (D2++D3) (az x) (by rw [jV,f1]) (o:=i*3) e1.symm;have g3:(l.take i).flatMap az++(D1++D2++D3)=(l.take i).flatMap az++D1++(D2++D3):=by simp only [List.append_assoc]
   rw [g3,g2] at mx;have tI:Ext w w3:=hw.own tT tH
   have kI:Sl w3 3 az (if c=i then A else A.map (·.add (i*3))) (n-i) (l.drop i):=(hO.sl.drop i c (by omega) (by omega)).ext tI
   replace hw:=tI;refine Wz ?_;refine CW.any 8 mixed (cq (by kernel_rfl)) rfl fun w1 ab aG => ?_
   replace hw:=Ext.trans hw ab;replace mx:=mx.ext ab;replace kI:=kI.ext ab;clear ab;refine Wa ?_;refine SA.take 4 aG rfl (by kernel_rfl) (by kernel_rfl) rfl ?_;repeat ((refine SW.st (bi (k:=i+1) rfl rfl (by omega) (by omega)) rfl ?_))
   refine SW.ai ?_;refine Wa ?_;refine SA.take 7 aG rfl (by kernel_rfl) (by kernel_rfl) rfl ?_;repeat ((refine SW.st (bi (k:=i) rfl rfl (by omega) (by omega)) rfl ?_))
   refine SW.ai ?_;refine SA.done (by kernel_rfl) ?_;refine SW.copy (k:=n-i) ((i+1)*3) ((l.drop i).flatMap az) mx rfl rfl rfl (by omega) e2 (by simp only [List.length_append,e1,e2,f2,jV];omega) (fun h0=>⟨by rw [if_neg (by omega)];simp [c9],(if c=i then A else A.map (·.add (i*3))).getD default,?_,fun j v hv=>dq (by omega) kI j v hv⟩) (nL _) fun w4 mQ vo => ?_
   ·obtain ⟨a,ha⟩:=Option.isSome_iff_exists.1 (kI.base h0);rw [ha];rfl
   ·have g4:=eW ((l.take i).flatMap az++az x) D2 D3 ((l.drop i).flatMap az) (by rw [e2,f2]) (o:=(i+1)*3) (by rw [List.length_append,e1,jV];omega);have g5:(l.take i).flatMap az++az x++(D2++D3)=(l.take i).flatMap az++az x++D2++D3:=by simp only [List.append_assoc]
    have g6:(l.take i).flatMap az++az x++(l.drop i).flatMap az++D3=(aU l i x).flatMap az++D3:=by unfold aU;simp only [List.flatMap_append,List.flatMap_cons,List.flatMap_nil,List.append_nil,List.append_assoc]
    rw [g5,g4,g6] at mQ;have Cv:=Own.closed (n:=n+1) (c:=c2) (lo:=lo) (l:=aU l i x) (by unfold aU;simp;omega) mQ (by omega) (by omega) (by omega) h5 (by omega);have iS:Ext w w4:=hw.own tT vo
    have e9:i+(n+1-i)=n+1:=by omega
    refine Wz ?_;rw [e9];exact ae.aO rfl rfl ⟨_,rfl,_,_,rfl,Cv,iS.gr _⟩
open Go.RowKit
theorem oY:Tryz.prog.underlying 136=some (.int .u64):=by kernel_rfl
theorem wrap_u64 {z:Int} (h0 : 0≤z) (h1:z≤9223372036854775807) : IntKind.u64.wrap z=z:=by
 simp [IntKind.wrap,IntKind.bits,IntKind.signed];omega
section
variable {P:Program} {L:Env} {w:World} {d:Option Nat} {T:TypeId} {pos:String} {af:Array Edge} {g:Option (Nat×Bool)}
theorem oZ {ft tt:TypeId} {x:Operand} {k k':IntKind} {i:Int} (hf:P.underlying ft=some (.int k)) (ht:P.underlying tt=some (.int k')) (hx:cd L x=some (.int k i)) :
 St P ⟨d,.convert ft tt x,T,pos,af,g⟩ L w (.int k' (k'.wrap i)) :=
 ⟨fun n a ha w' _=>by
  have e1:=ha.eval hx;generalize a.eval = ρ at *
  simp [go_sem,e1,convert,run_underlying hf,run_underlying ht,Conv.intToInt]⟩
theorem z8 {t ty:TypeId} {x y:Operand} {yk:IntKind} {i:Int} (hx:cd L x=some (.int .u64 i)) (hy:cd L y=some (.int yk 1)) :
 St P ⟨d,.binOp .shr t x y ty,T,pos,af,g⟩ L w (.int .u64 (i / 2)) :=
 ⟨fun n a ha w' _=>by
  have e1:=ha.eval hx;have e2:=ha.eval hy;generalize a.eval = ρ at *
  simp [go_sem,e1,e2]⟩
end
def cf (l:List Block) (a:Int) : Bool:=if h:bF l a<l.length then decide ((l[bF l a]).At=a) else false
theorem jI (A:Option Addr) (n c:Nat) (l:List Block) (a:Int) (w:World) (hl:Sl w 3 az A n l) (f:FuncId) [Body Tryz.prog f] (hf:∀ x∈l,∀ w',Ext w w'→bt Tryz.prog f ([.agg (az x).toArray,.int .i64 a]++[]) w' fun v _=>v = .int .i64 (x.At-a))
 (hu:l.Pairwise fun x y=>x.At<y.At) (hn:n≤1000000000000000000) : bt Tryz.prog 65 [.slice A n c,.int .i64 a,.func (.func f) #[] #[]] w fun v _=>v = .tuple #[.int .i64 (bF l a:Int),.bool (cf l a)]:=by
 refine aM Tryz.func65 rfl Tryz.ntmps65 rfl ?_;have hw:=Ext.refl w;have hA:=hl.base;have kB:=hl.len;rw [List.pairwise_iff_getElem] at hu;refine Wz ?_
 refine CW.loop (fun s:Nat×Nat=>[(0,.slice A n c),(1,.int .i64 a),(2,.func (.func f) #[] #[]),(8,.int .i64 (n:Int)),(9,.int .i64 (s.1:Int)),(10,.int .i64 (s.2:Int))])
  (fun s w'=>s.1≤s.2∧s.2≤n∧Ext w w'∧(∀ (k:Nat) (h:k<l.length),k<s.1→l[k].At<a)∧(∀ (k:Nat) (h:k<l.length),s.2≤k→a≤l[k].At)) (fun s=>s.2-s.1) (0,n)
  ⟨rfl,rfl,rfl,rfl,rfl,rfl,trivial⟩ ⟨by omega,by omega,hw,fun k h h'=>by omega,fun k h h'=>by omega⟩ ?_
 clear hw;rintro ⟨i,j⟩ w' ⟨kX,jo,hw,hI,hJ⟩
 simp only at kX jo hI hJ ⊢;by_cases c8:i<j
 ·have hk:(i+j) / 2<n:=by omega
  have di:=hl.lt hk;have oW:=fun w1 h1=>hf (l[(i+j) / 2]) (List.getElem_mem di) w1 h1
  repeat' (first|refine Wz ?_|refine SW.st (aH hw rfl rfl ((hl.all hk))) rfl ?_|(refine SW.st ((oZ Tryz.underlying3 oY rfl).eq (congrArg (Value.int .u64) (wrap_u64 (by omega) (by omega)))) rfl ?_)|(refine SW.st ((oZ oY Tryz.underlying3 rfl).eq (congrArg (Value.int .i64) (iH (by omega) (by omega)))) rfl ?_)|(refine SW.st (z8 rfl rfl) rfl ?_))
  refine SW.oP (cap:=[]) rfl rfl rfl (oW _ hw) fun v w1 ab hv => ?_
  subst hv;replace hw:=Ext.trans hw ab;by_cases Ib:l[(i+j) / 2].At<a
  ·refine Wz ?_;refine ae.again ((i+j) / 2+1,j) ⟨rfl,rfl,rfl,rfl,congrArg (fun z=>some (Value.int .i64 z)) (by omega),rfl,trivial⟩ (by simp only;omega) ⟨by simp only;omega,jo,hw,fun k h h' => ?_,hJ⟩;simp only at h';by_cases e:k=(i+j) / 2
   ·subst e;exact Ib
   ·have:=hu k ((i+j) / 2) h di (by omega)
    omega
  ·refine Wz ?_;refine ae.again (i,(i+j) / 2) ⟨rfl,rfl,rfl,rfl,rfl,congrArg (fun z=>some (Value.int .i64 z)) (by omega),trivial⟩ (by simp only;omega) ⟨by simp only;omega,by simp only;omega,hw,hI,fun k h h' => ?_⟩;simp only at h';by_cases e:k=(i+j) / 2
   ·subst e;omega
   ·have:=hu ((i+j) / 2) k di h (by omega)
    omega
 ·obtain rfl:i=j:=by omega
  have sd:bF l a=i:=zY (by omega) hI (fun h=>hJ i h (by omega))
  by_cases ck:i<n
  ·have di:=hl.lt ck;have oW:=fun w1 h1=>hf (l[i]) (List.getElem_mem di) w1 h1
   have Et:cf l a=decide (l[i].At=a):=by unfold cf;simp only [sd,di,dif_pos]
   rw [sd,Et];repeat' (first|refine Wz ?_|refine SW.st (aH hw rfl rfl ((hl.all ck))) rfl ?_)
   refine SW.oP (cap:=[]) rfl rfl rfl (oW _ hw) fun v w1 ab hv => ?_
   subst hv;replace hw:=Ext.trans hw ab;by_cases he:l[i].At=a
   ·refine Wz ?_;refine ae.cy rfl rfl rfl ⟨_,rfl,hw,?_⟩;rw [decide_eq_true he,decide_eq_true (by omega)]
   ·refine Wz ?_;refine ae.cy rfl rfl rfl ⟨_,rfl,hw,?_⟩;rw [decide_eq_false he,decide_eq_false (by omega)]
  ·have Et:cf l a=false:=by unfold cf;rw [dif_neg (by omega)]
   rw [sd,Et];refine Wz ?_;exact ae.cy rfl rfl rfl ⟨_,rfl,hw,rfl⟩
theorem Gf {f t:Int} {l:List Block} (h:nO l) (hb:∀ b∈l,dG f t b) : l.Pairwise fun x y=>x.At<y.At:=by
 unfold nO at h;rw [List.pairwise_iff_getElem] at h ⊢;intro i j hi hj kX;have h1:=h i j hi hj kX;have hp:=hb _ (List.getElem_mem hi);have:=bH hp.1.1 hp.1.2.1
 omega
theorem vz (x:Block) (a:Int) (w:World) (hx : -4000000000000000000≤x.At∧x.At≤4000000000000000000) (ha : -4000000000000000000≤a∧a≤4000000000000000000) : bt Tryz.prog 149 ([.agg (az x).toArray,.int .i64 a]++[]) w fun v _=>v = .int .i64 (x.At-a):=by
 refine aM Tryz.func149 rfl Tryz.ntmps149 rfl ?_;refine CW.seq (CW.region (SW.box rfl rfl fun b1 w1 hw ik aB => ?_));refine Wz ?_;exact ae.aO rfl rfl ⟨_,rfl,hw,rfl⟩
theorem pV (r:ct) (l:List Block) (f t a:Int) (w:World) (hl:Sl w 3 az r.ag.A r.ag.n l) (hu:nO l) (hb:∀ b∈l,dG f t b) (h0 : 0≤f) (ht:t≤256) (hn:r.ag.n≤1000000000000000000) (ha : -1000≤a∧a≤1000) :
 bt Tryz.prog 141 [.agg (bo r).toArray,.int .i64 a] w fun v _=>v = .tuple #[.int .i64 (bF l a:Int),.bool (cf l a)]:=by
 refine aM Tryz.func141 rfl Tryz.ntmps141 rfl ?_;refine CW.seq (CW.region (SW.box rfl rfl fun b1 w1 hw ik aB => ?_))
 have cB:∀ w',Ext w w'→bt Tryz.prog 65 [.slice r.ag.A r.ag.n r.ag.c,.int .i64 a,.func (.func 149) #[] #[]] w' fun v _=>v = .tuple #[.int .i64 (bF l a:Int),.bool (cf l a)]:=fun w' h =>
  jI _ _ _ _ _ _ (hl.ext h) _ (fun x hx w1 _=>vz x a w1 (by have:=(hb x hx).1;unfold e8 at this;omega) (by omega)) (Gf hu hb) hn
 repeat' (first|refine Wz ?_|(refine SW.call rfl rfl (cB _ hw) ?_;intro v w1 ab hv;subst hv;replace hw:=Ext.trans hw ab;replace aB:=aB.ext ab;clear ab))
 exact ae.cy rfl rfl rfl ⟨_,rfl,hw,rfl⟩
theorem qE (A:Option Addr) (n c:Nat) (l:List Block) (a o:Int) (w:World) (hl:Sl w 3 az A n l) (hn:n*24≤140737488355328) :
 bt Tryz.prog 120 [.slice A n c,.int .i64 a,.int .i64 o] w fun v w' => ∃ B c',v = .tuple #[.slice B (da l a o).length c',.bool (l.any (rb a o))]∧Own w' w.heap.size 77 3 az B (da l a o).length c' (da l a o):=by
 refine aM Tryz.func120 rfl Tryz.ntmps120 rfl ?_;have hw:=Ext.refl w;have hA:=hl.base;have kB:=hl.len;refine Wz ?_
 refine CW.loop (fun s:Nat×Option Addr×Nat=>[(0,.slice A n c),(1,.int .i64 a),(2,.int .i64 o),(8,.slice s.2.1 (da (l.take s.1) a o).length s.2.2),(9,.bool ((l.take s.1).any (rb a o))),(10,.int .i64 (s.1:Int))])
  (fun s w'=>s.1≤n∧Ext w w'∧Own w' w.heap.size 77 3 az s.2.1 (da (l.take s.1) a o).length s.2.2 (da (l.take s.1) a o)) (fun s=>n-s.1) (0,none,0) ⟨rfl,rfl,rfl,rfl,rfl,rfl,trivial⟩ ⟨by omega,hw,Own.dS _ _ _ _ _ _⟩ ?_
 clear hw;rintro ⟨k,B,c'⟩ w' ⟨hk,hw,hO⟩
 simp only at hk hO ⊢;by_cases cb:k<n
 ·have di:=hl.lt cb;have et:=List.take_succ_eq_append_getElem di;have hlen:(da (l.take k) a o).length≤k:=Nat.le_trans (List.length_filter_le _ _) (by simp;omega)
  cases hi:rb a o l[k]
  ·have e1:da (l.take (k+1)) a o=da (l.take k) a o++[l[k]]:=by unfold da;rw [et,List.filter_append];simp [hi]
   have e2:(l.take (k+1)).any (rb a o)=(l.take k).any (rb a o):=by rw [et,List.any_append];simp [hi]
   have BY : ¬ (l[k].At=a∧l[k].Order=o):=fun h=>by rw [ib.2 h] at hi;cases hi
   by_cases ha:l[k].At=a
   all_goals
    repeat' (first|refine Wz ?_|refine SW.st (aH hw rfl rfl ((hl.all cb))) rfl ?_|refine SW.st (ao hw rfl (hl.dA cb rfl)) rfl ?_)
    all_goals try omega
    refine SW.bD rfl rfl rfl rfl rfl fun b w1 ab hb hB => ?_
    replace hw:=Ext.trans hw ab;replace hO:=hO.ext ab;refine SW.append hO (aI.lj (enc:=az) hB) hw.size rfl rfl rfl (by omega) (by omega) fun A2 c2 w2 gi hg => ?_
    replace hw:=aF hw hg (Nat.le_refl _) hO.aL;refine Wz ?_;have e3:(da (l.take (k+1)) a o).length=(da (l.take k) a o).length+1:=by rw [e1];simp
    refine ae.again (k+1,A2,c2) ⟨rfl,rfl,rfl,by simp only;rw [e3];rfl,by simp only;rw [e2];rfl,rfl,trivial⟩ (by simp only;omega) ⟨by simp only;omega,hw,?_⟩;simp only;rw [e3,e1];exact gi
  ·have e1:da (l.take (k+1)) a o=da (l.take k) a o:=by unfold da;rw [et,List.filter_append];simp [hi]
   have e2:(l.take (k+1)).any (rb a o)=true:=by rw [et,List.any_append];simp [hi]
   obtain ⟨h1,h2⟩:=ib.1 hi;repeat' (first|refine Wz ?_|refine SW.st (ao hw rfl (hl.dA cb rfl)) rfl ?_)
   refine ae.again (k+1,B,c') ⟨rfl,rfl,rfl,by simp only;rw [e1];rfl,by simp only;rw [e2];rfl,rfl,trivial⟩ (by simp only;omega) ⟨by simp only;omega,hw,?_⟩;simp only;rw [e1];exact hO
 ·refine Wz ?_;have et:l.take k=l:=List.take_of_length_le (by omega)
  rw [et] at hO;refine ae.cy rfl rfl rfl ⟨_,rfl,hw,B,c',?_,hO⟩;rw [et]
def Cx (l:List Block) (a:Int) : Nat:=l.findIdx fun b=>decide (a<b.At)
theorem Cy {l:List Block} {a:Int} (h:∀ x∈l,x.At≠a) : Cx l a=bF l a:=by
 unfold Cx bF
 have:∀ q:List Block,(∀ x∈q,x.At≠a)→q.findIdx (fun b=>decide (a<b.At))=q.findIdx (fun b=>decide (a≤b.At)):=by
  intro q;induction q with
  | nil=>intro _;rfl
  | cons x r ih =>
    intro hq;have h1:=hq x (by simp);have h2:=ih (fun y hy=>hq y (by simp [hy]));simp only [List.findIdx_cons,h2];by_cases e:a<x.At
    ·rw [decide_eq_true e,decide_eq_true (by omega)]
    ·rw [decide_eq_false e,decide_eq_false (by omega)]
 exact this l h
open Go.RowKit
set_option maxHeartbeats 4000000 in
theorem kY (A:Option Addr) (n c:Nat) (l:List Block) (x:Block) (w:World) (hl:Sl w 3 az A n l) (hn:(n+1)*24≤140737488355328) :
 bt Tryz.prog 57 [.slice A n c,.agg (az x).toArray] w fun v w' => ∃ B c',v = .slice B (n+1) c'∧Own w' w.heap.size 77 3 az B (n+1) c' (aU l (Cx l x.At) x):=by
 refine aM Tryz.func57 rfl Tryz.ntmps57 rfl ?_;refine CW.seq (CW.region (SW.box rfl rfl fun b3 w1 hw bM ar => ?_));have cr:=bM;have Gg:∀ m,m≤n→(m+1)*24≤140737488355328:=fun m h=>Nat.le_trans (Nat.mul_le_mul_right 24 (Nat.succ_le_succ h)) hn
 clear hn;have hn:n≤1000000000000000000:=by have:=Gg n (Nat.le_refl _);omega
 have hA:=hl.base;have kB:=hl.len;obtain ⟨g,AG⟩ : ∃ g,Cx l x.At=g:=⟨_,rfl⟩;have AI:g≤l.length:=by rw [← AG];exact List.findIdx_le_length
 have J4:∀ h:g<l.length,x.At<l[g].At:=fun h=>by
  subst AG;have:=List.findIdx_getElem (w:=h)
  exact of_decide_eq_true this
 have tT:∀ (j:Nat) (h:j<g),(l[j]'(by omega)).At≤x.At:=fun j h=>by
  subst AG;have:=List.not_of_lt_findIdx h
  simpa using this
 rw [AG];clear AG;refine Wz ?_
 refine CW.loop (fun s:Nat×Option Addr×Nat=>[(0,.slice A n c),(3,.pointer (some ⟨b3,0,none⟩)),(5,.slice s.2.1 (if g<s.1 then s.1+1 else s.1) s.2.2),(6,.bool (decide (g<s.1))),(7,.int .i64 (s.1:Int))])
  (fun s w'=>s.1≤n∧Ext w w'∧aI w' b3 77 (az x)∧Own w' (b3+1) 77 3 az s.2.1 (if g<s.1 then s.1+1 else s.1) s.2.2 (if g<s.1 then aU (l.take s.1) (g) x else l.take s.1)) (fun s=>n-s.1) (0,none,0)
  ⟨rfl,rfl,rfl,rfl,rfl,trivial⟩ ⟨by omega,hw,ar,by simpa using Own.dS _ _ _ _ _ _⟩ ?_
 clear hw ar;rintro ⟨k,B,c'⟩ w' ⟨hk,hw,ar,hO⟩
 simp only at hk hO ⊢;have fG:b3+1≤w'.heap.size:=ar.lt
 by_cases cb:k<n
 ·have di:=hl.lt cb;have et:=List.take_succ_eq_append_getElem di;by_cases hd:g<k
  ·rw [if_pos hd,if_pos hd] at hO;rw [if_pos hd,decide_eq_true hd];repeat' (first|refine Wz ?_|((apply CW.aP mixed;(· kernel_rfl);rotate_left;intro w1 ab;replace hw:=Ext.trans hw ab;replace ar:=ar.ext ab;replace hO:=hO.ext ab;clear ab;rotate_right))|refine SW.skip rfl rfl rfl rfl ?_|refine SW.st (aH hw rfl rfl ((hl.all cb))) rfl ?_|exact SW.bx rfl)
   refine SW.bD rfl rfl rfl rfl rfl fun b w1 aj hb hB => ?_
   (replace hw:=Ext.trans hw aj;replace ar:=ar.ext aj;replace hO:=hO.ext aj);refine SW.append hO (aI.lj (enc:=az) hB) (by have:=ar.lt;omega) rfl rfl rfl (Gg _ (by omega)) (by omega) fun A2 c2 w2 gi pJ => ?_
   replace hw:=aF hw pJ (Nat.le_trans cr (Nat.le_succ _)) hO.aL;replace ar:=ar.grown pJ (fun e=>by have:=hO.aL b3 e.symm;omega);refine Wz ?_;refine ae.again (k+1,A2,c2) ⟨rfl,rfl,by simp only;rw [if_pos (show g<k+1 by omega)];rfl,by simp only;rw [decide_eq_true (show g<k+1 by omega)];rfl,rfl,trivial⟩ (by simp only;omega) ⟨by simp only;omega,hw,ar,?_⟩;simp only;rw [if_pos (by omega),if_pos (by omega)]
   have e:aU (l.take (k+1)) (g) x=aU (l.take k) (g) x++[l[k]]:=by
    unfold aU;rw [et,List.take_append_of_le_length (by simp;omega),List.drop_append_of_le_length (by simp;omega)];simp only [List.append_assoc]
   rw [e];exact gi
  ·rw [if_neg hd,if_neg hd] at hO;rw [if_neg hd,decide_eq_false hd];by_cases yj:g=k
   ·have LV:x.At<l[k].At:=by subst yj;exact J4 di
    repeat' (first|refine Wz ?_|((apply CW.aP mixed;(· kernel_rfl);rotate_left;intro w1 ab;replace hw:=Ext.trans hw ab;replace ar:=ar.ext ab;replace hO:=hO.ext ab;clear ab;rotate_right))|refine SW.want rfl rfl ?_|refine SW.st (ao hw rfl (hl.dA cb rfl)) rfl ?_|exact SW.bx rfl)
    refine SW.bD rfl rfl rfl rfl rfl fun b w1 aj hb hB => ?_
    (replace hw:=Ext.trans hw aj;replace ar:=ar.ext aj;replace hO:=hO.ext aj);refine SW.append hO (aI.lj (enc:=az) hB) (by have:=ar.lt;omega) rfl rfl rfl (Gg _ (by omega)) (by omega) fun A2 c2 w2 gi pJ => ?_
    replace hw:=aF hw pJ (Nat.le_trans cr (Nat.le_succ _)) hO.aL;replace ar:=ar.grown pJ (fun e=>by have:=hO.aL b3 e.symm;omega);repeat' (first|refine Wz ?_|refine SW.st (aH hw rfl rfl ((hl.all cb))) rfl ?_)
    refine SW.bD rfl rfl rfl rfl rfl fun b w1 aj hb hB => ?_
    (replace hw:=Ext.trans hw aj;replace ar:=ar.ext aj;replace gi:=gi.ext aj);refine SW.append gi (aI.lj (enc:=az) hB) (by have:=ar.lt;omega) rfl rfl rfl (Gg _ (by omega)) (by omega) fun A3 c3 w3 gf pJ => ?_
    replace hw:=aF hw pJ (Nat.le_trans cr (Nat.le_succ _)) gi.aL;replace ar:=ar.grown pJ (fun e=>by have:=gi.aL b3 e.symm;omega);refine Wz ?_;refine ae.again (k+1,A3,c3) ⟨rfl,rfl,by simp only;rw [if_pos (show g<k+1 by omega)];rfl,by simp only;rw [decide_eq_true (show g<k+1 by omega)];rfl,rfl,trivial⟩ (by simp only;omega) ⟨by simp only;omega,hw,ar,?_⟩;simp only;rw [if_pos (by omega),if_pos (by omega)]
    have e:aU (l.take (k+1)) (g) x=l.take k++[x]++[l[k]]:=by
     unfold aU;rw [yj,et,List.take_append_of_le_length (by simp;omega),List.drop_append_of_le_length (by simp;omega),List.take_of_length_le (by simp;omega),List.drop_eq_nil_of_le (by simp;omega)];simp
    rw [e];exact gf
   ·have hle:l[k].At≤x.At:=tT k (by omega)
    repeat' (first|refine Wz ?_|((apply CW.aP mixed;(· kernel_rfl);rotate_left;intro w1 ab;replace hw:=Ext.trans hw ab;replace ar:=ar.ext ab;replace hO:=hO.ext ab;clear ab;rotate_right))|refine SW.want rfl rfl ?_|refine SW.st (aH hw rfl rfl ((hl.all cb))) rfl ?_|refine SW.st (ao hw rfl (hl.dA cb rfl)) rfl ?_|exact SW.bx rfl)
    refine SW.bD rfl rfl rfl rfl rfl fun b w1 aj hb hB => ?_
    (replace hw:=Ext.trans hw aj;replace ar:=ar.ext aj;replace hO:=hO.ext aj);refine SW.append hO (aI.lj (enc:=az) hB) (by have:=ar.lt;omega) rfl rfl rfl (Gg _ (by omega)) (by omega) fun A2 c2 w2 gi pJ => ?_
    replace hw:=aF hw pJ (Nat.le_trans cr (Nat.le_succ _)) hO.aL;replace ar:=ar.grown pJ (fun e=>by have:=hO.aL b3 e.symm;omega);refine Wz ?_;refine ae.again (k+1,A2,c2) ⟨rfl,rfl,by simp only;rw [if_neg (show ¬ g<k+1 by omega)];rfl,by simp only;rw [decide_eq_false (show ¬ g<k+1 by omega)];rfl,rfl,trivial⟩ (by simp only;omega) ⟨by simp only;omega,hw,ar,?_⟩;simp only;rw [if_neg (by omega),if_neg (by omega),et];exact gi
 ·obtain rfl:k=n:=by omega
  rw [List.take_of_length_le (by omega)] at hO;by_cases hd:g<k
  ·rw [if_pos hd,if_pos hd] at hO;rw [if_pos hd,decide_eq_true hd];repeat' (first|refine Wz ?_|(refine CW.bA rfl ?_))
   exact ae.aO rfl rfl ⟨_,rfl,hw,_,_,rfl,hO.low (by omega)⟩
  ·rw [if_neg hd,if_neg hd] at hO;rw [if_neg hd,decide_eq_false hd];repeat' (first|refine Wz ?_|(refine CW.bG rfl ?_))
   refine SW.bD rfl rfl rfl rfl rfl fun b w1 aj hb hB => ?_
   (replace hw:=Ext.trans hw aj;replace ar:=ar.ext aj;replace hO:=hO.ext aj);refine SW.append hO (aI.lj (enc:=az) hB) (by have:=ar.lt;omega) rfl rfl rfl (Gg _ (by omega)) (by omega) fun A2 c2 w2 gi pJ => ?_
   replace hw:=aF hw pJ (Nat.le_trans cr (Nat.le_succ _)) hO.aL;refine Wz ?_;refine ae.aO rfl rfl ⟨_,rfl,hw,_,_,rfl,?_⟩
   have e:aU l (g) x=l++[x]:=by
    unfold aU;rw [List.take_of_length_le (by omega),List.drop_eq_nil_of_le (by omega)];simp
   rw [e];exact gi.low (by omega)
theorem AJ (a o:Int) (b9:Nat) (x:Block) (w:World) (h9:aI w b9 77 (az ⟨a,o,0⟩)) (ho : 0≤o∧o≤4) (ha : 0≤a∧a≤256) (hx : 0≤x.At∧x.At≤256) (hy : 0≤x.Order∧x.Order≤4) :
 bt Tryz.prog 143 ([.agg (az x).toArray]++[.pointer (some ⟨b9,0,none⟩)]) w fun v _=>v = .bool (decide (x.At<a+pw o) && decide (a<x.At+pw x.Order)):=by
 refine aM Tryz.func143 rfl Tryz.ntmps143 rfl ?_;refine CW.seq (CW.region (SW.box rfl rfl fun b2 w1 hw im aK => ?_));replace h9:=h9.ext hw;have c1:∀ w',bt Tryz.prog 94 [.agg (az ⟨a,o,0⟩).toArray] w' fun v _=>v = .int .i64 (a+pw o):=fun w'=>lq ⟨a,o,0⟩ w' ho ha
 have c2:∀ w',bt Tryz.prog 94 [.agg (az x).toArray] w' fun v _=>v = .int .i64 (x.At+pw x.Order):=fun w'=>lq x w' hy hx
 by_cases h1:x.At<a+pw o
 ·repeat' (first|refine Wz ?_|((apply CW.aP mixed;(· kernel_rfl);rotate_left;intro w1 ab;replace hw:=Ext.trans hw ab;replace aK:=aK.ext ab;replace h9:=h9.ext ab;clear ab;rotate_right))|refine SW.bq rfl rfl (fun w1 ab=>(c1 _)) ?_|refine SW.bq rfl rfl (fun w1 ab=>(c2 _)) ?_|exact SW.bx rfl)
  exact ae.aO rfl rfl ⟨_,rfl,hw,by simp [h1]⟩
 ·repeat' (first|refine Wz ?_|((apply CW.aP mixed;(· kernel_rfl);rotate_left;intro w1 ab;replace hw:=Ext.trans hw ab;replace aK:=aK.ext ab;replace h9:=h9.ext ab;clear ab;rotate_right))|refine SW.bq rfl rfl (fun w1 ab=>(c1 _)) ?_|exact SW.bx rfl)
  exact ae.aO rfl rfl ⟨_,rfl,hw,by simp [h1]⟩
theorem lW (r:ct) (z:aq) (w:World) (hr:tY w r z) (hn:r.ag.n*24≤140737488355328) (hm:r.Types.n*8≤140737488355328) :
 bt Tryz.prog 22 [.agg (bo r).toArray] w fun v w' => ∃ s,v = .agg (bo s).toArray∧fa w' w.heap.size s z:=by
 refine aM Tryz.func22 rfl Tryz.ntmps22 rfl ?_;refine CW.seq (CW.region (SW.box rfl rfl fun b w1 hw hb hB => ?_));refine SW.alloc rfl fun b2 w2 cJ im aK => ?_
 have pQ:w.heap.size≤b2:=Nat.le_trans hw.size im
 (replace hw:=Ext.trans hw cJ;replace hB:=hB.ext cJ);refine Wz ?_;refine CW.any 10 mixed (cq (by kernel_rfl)) rfl fun w1 ab aG => ?_
 replace hw:=Ext.trans hw ab;replace hB:=hB.ext ab;replace aK:=aK.ext ab;clear ab;refine Wa ?_;refine SA.one 6 rfl (by kernel_rfl) rfl ?_;refine SW.call rfl rfl (lR _ _ _ _ _ (hr.free.ext hw) hn) fun v w4 aj hv => ?_
 obtain ⟨X,c4,rfl,hX⟩:=hv;replace hX:=hX.low hw.size;(replace hw:=Ext.trans hw aj;replace hB:=hB.ext aj;replace aK:=aK.ext aj);refine SW.nil (ae.sa aj ?_);refine SA.one 9 rfl (by kernel_rfl) rfl ?_;refine SW.call rfl rfl (gw _ _ _ _ _ (hr.types.ext hw) hm) fun v w4 aj hv => ?_
 obtain ⟨Y,d4,rfl,hY⟩:=hv;replace hY:=hY.low hw.size;(replace hw:=Ext.trans hw aj;replace hB:=hB.ext aj;replace aK:=aK.ext aj;replace hX:=hX.ext aj);refine SW.nil (ae.sa aj ?_);refine SA.done (by kernel_rfl) ?_;refine Wz ?_;refine SW.ap aK rfl rfl rfl rfl (cw ⟨r.aV,r.To,⟨X,r.ag.n,c4⟩,⟨Y,r.Types.n,d4⟩⟩) fun w7 bL hg => ?_
 have hG:=aK.gr hg;replace hw:=hw.own pQ hg;(replace hX:=hX.ay hG rfl;replace hY:=hY.ay hG rfl);refine Wz ?_;exact ae.mn rfl rfl bL rfl ⟨_,rfl,hw,⟨r.aV,r.To,⟨X,r.ag.n,c4⟩,⟨Y,r.Types.n,d4⟩⟩,rfl,⟨hr.from_,hr.ka,hX,hY⟩⟩
theorem z9 {z:aq} {a o:Int} (h:ev z=false) : iZ z a o=(8,.zero):=by simp [iZ,h,aq.zero]
theorem Aa {z:aq} {a o:Int} (h:ev z=true) (hf : ¬ e8 z.aV z.To a o) : iZ z a o=(1,.zero):=by simp [iZ,h,hf,aq.zero]
theorem Ab {z:aq} {a o:Int} (h:ev z=true) (hf:e8 z.aV z.To a o) (ho:fc z.ag a o=true) : iZ z a o=(5,.zero):=by simp [iZ,h,hf,ho,aq.zero]
theorem vA {z:aq} {a o:Int} (h:ev z=true) (hf:e8 z.aV z.To a o) (ho:fc z.ag a o=false) {l:List Block} {a' o':Int} (hj:iy 5 z.ag a o=(l,a',o')) {t:Int} (ht:z.Types.getD ((a'-z.aV) / 8).toNat 0=t) :
 iZ z a o=(0,⟨z.aV,z.To,aU l (bF l a') ⟨a',o',t⟩,z.Types⟩):=by simp [iZ,h,hf,ho,hj,← ht]
theorem kf {z:aq} (h:bT z) : z.ag.length≤256∧z.Types.length≤32:=by
 have hu:=lx h;have iT:=h.ok;unfold jH at iT
 have key:∀ (i:Nat) (hi:i<z.ag.length),(i:Int)≤(z.ag[i]).At:=by
  intro i;induction i with
  | zero =>
    intro hi;have:=(h.cV 0 hi).1
    unfold e8 at this;omega
  | succ i ih =>
    intro hi;have h1:=ih (by omega);have h2:=fB hu hi (Nat.lt_succ_self i);have h3:=(h.cV i (by omega)).1;have:=bH h3.1 h3.2.1
    omega
 refine ⟨?_,by have:=h.len;omega⟩;rcases Nat.eq_zero_or_pos z.ag.length with h0|h0
 ·omega
 ·have h1:=key (z.ag.length-1) (by omega);have h2:=(h.cV (z.ag.length-1) (by omega)).1;unfold e8 at h2;omega
open Go.RowKit
structure yC (z:aq) (a o:Int) (f:Nat) (l:List Block) (a' o':Int) : Prop where
 ok:vw z.aV z.To l a' o'
 eq:iy 5 z.ag a o=iy f l a' o'
 fuel : 5≤(f:Int)+o'
 len:l.length≤z.ag.length
theorem yC.stop {z:aq} {a o:Int} {f:Nat} {l:List Block} {a' o':Int} (h:yC z a o f l a' o') (ho : ¬ o'<4∨l.any (rb (beside a' o') o')=false) : iy 5 z.ag a o=(l,a',o'):=by
 rw [h.eq];cases f with
 | zero=>rfl
 | succ f =>
   simp only [iy];rcases ho with h1|h1
   ·rw [if_neg h1]
   ·simp [h1]
theorem yC.next {z:aq} {a o:Int} {f:Nat} {l:List Block} {a' o':Int} (h:yC z a o f l a' o') (h0 : 0≤z.aV) (ho:o'<4) (dO:l.any (rb (beside a' o') o')=true) : ∃ f',yC z a o f' (da l (beside a' o') o') (min a' (beside a' o')) (o'+1):=by
 have hf:=h.fuel;obtain ⟨g,rfl⟩ : ∃ g,f=g+1:=⟨f-1,by omega⟩;refine ⟨g,h.ok.step h0 ho dO,?_,by omega,Nat.le_trans (List.length_filter_le _ _) h.len⟩;rw [h.eq];simp only [iy,if_pos ho,dO,if_true]
set_option maxHeartbeats 8000000 in
theorem uH (r:ct) (z:aq) (a o:Int) (w:World) (hr:tY w r z) (hf:(r.ag.n+1)*24≤140737488355328) (ht:r.Types.n*8≤140737488355328) (h1 : -9223372036854775808≤r.aV∧r.aV≤9223372036854775807) (h2 : -9223372036854775808≤r.To∧r.To≤9223372036854775807) :
 bt Tryz.prog 134 [.agg (bo r).toArray,.int .i64 a,.int .i64 o] w (rB w.heap.size (iZ z a o)):=by
 refine aM Tryz.func134 rfl Tryz.ntmps134 rfl ?_;refine CW.seq (CW.region (SW.box rfl rfl fun b3 w1 hw bM ar => ?_));refine SW.alloc rfl fun b6 w2 cJ fb ax => ?_
 have dr:w.heap.size≤b6:=Nat.le_trans hw.size fb
 have o6:b3≠b6:=by have:=ar.lt;omega
 (replace hw:=Ext.trans hw cJ;replace ar:=ar.ext cJ);have eF:=hr.from_;have eT:=hr.ka;have Co:=hr.free.len;have Hs:=hr.types.len;obtain ⟨q,hq⟩ : ∃ q,ev z=q:=⟨_,rfl⟩
 have c1:∀ w',Ext w w'→bt Tryz.prog 59 [.agg (bo r).toArray] w' fun v _=>v = .int .i64 (if q then 0 else 8):=fun w' h=>by
  have:=kd r z w' (hr.ext h) (by omega) (by omega) h1 h2
  rwa [hq] at this
 cases q
 ·simp only [Bool.false_eq_true,if_false] at c1;rw [z9 hq];repeat' (first|refine Wz ?_|(refine SW.call rfl rfl (c1 _ hw) ?_;intro v w1 ab hv;subst hv;replace hw:=Ext.trans hw ab;replace ar:=ar.ext ab;replace ax:=ax.ext ab;clear ab))
  refine SW.ap ax rfl rfl rfl rfl (cw .zero) fun w5 bL hg => ?_
  replace hw:=hw.own dr hg;refine Wz ?_;exact ae.fU rfl rfl rfl bL rfl ⟨_,rfl,hw,.zero,rfl,fa.zero _ _⟩
 ·simp only [if_true] at c1;have hz:=dw.1 hq;obtain ⟨o1,o2,o3,o4,o5⟩:=hz.ok;repeat' (first|refine Wz ?_|(refine SW.call rfl rfl (c1 _ hw) ?_;intro v w1 ab hv;subst hv;replace hw:=Ext.trans hw ab;replace ar:=ar.ext ab;replace ax:=ax.ext ab;clear ab))
  clear c1;refine SW.alloc rfl fun b9 w1 ab om bl => ?_
  skip;refine SW.ap bl rfl rfl rfl rfl (fO.one (enc:=az) ⟨a,o,0⟩) fun w2 gz hg => ?_
  have aj:=ab.own om hg;have rc:w.heap.size≤b9:=Nat.le_trans hw.size om
  replace hw:=Ext.trans hw aj;replace ar:=ar.ext aj;replace ax:=ax.ext aj;replace bl:=gz;clear gz ab hg aj
  have cF:∀ w',bt Tryz.prog 93 [.agg (bo r).toArray,.agg (az ⟨a,o,0⟩).toArray] w' fun v _=>v = .bool (decide (e8 z.aV z.To a o)):=fun w'=>by
   have:=ny r ⟨a,o,0⟩ w' (by omega)
   rwa [eF,eT] at this
  by_cases jg:e8 z.aV z.To a o
  ·rw [decide_eq_true jg] at cF;obtain ⟨f1,f2,f3,f4,f5⟩:=id jg
   have cC:∀ w',Ext w w'→aI w' b9 77 (az ⟨a,o,0⟩)→bt Tryz.prog 142 [.slice r.ag.A r.ag.n r.ag.c,.func (.func 143) #[] [.pointer (some ⟨b9,0,none⟩)].toArray] w' fun v _=>v = .bool (fc z.ag a o):=fun w' hx h9 =>
    mA _ _ _ _ _ (hr.free.ext hx) _ [.pointer (some ⟨b9,0,none⟩)] (fun x=>decide (x.At<a+pw o) && decide (a<x.At+pw x.Order)) (fun x => .agg (az x).toArray) (fun x=>rfl)
     (fun x M6 w1 kH=>by
       obtain ⟨i,hi,rfl⟩:=List.getElem_of_mem M6;obtain ⟨g1,g2,g3,g4,g5⟩:=(hz.cV i hi).1;exact AJ a o b9 _ w1 (h9.ext kH) ⟨f1,f2⟩ ⟨by omega,by omega⟩ ⟨by omega,by omega⟩ ⟨g1,g2⟩) (by omega)
   cases wU:fc z.ag a o
   ·rw [wU] at cC;have Gh:=r9 (f:=0) (t:=0) hz jg wU;repeat' (first|refine Wz ?_|(refine CW.bA rfl ?_)|((first|refine SW.call rfl rfl (cF _) ?_|refine SW.call rfl rfl (cC _ hw bl) ?_);intro v w1 ab hv;subst hv;replace hw:=Ext.trans hw ab;replace ar:=ar.ext ab;replace ax:=ax.ext ab;replace bl:=bl.ext ab;clear ab)|(refine SW.st (iJ (vs:=[.pointer (some ⟨b9,0,none⟩)]) rfl) rfl ?_))
    have Ic:b9+1≤_:=bl.lt
    refine SW.call rfl rfl (pP r z _ (hr.ext hw) (by omega) ht) fun v w4 iS hv => ?_
    obtain ⟨s,rfl,hs,e1,e2⟩:=hv;replace hs:=hs.low Ic;(replace hw:=Ext.trans hw iS;replace ar:=ar.ext iS;replace ax:=ax.ext iS;replace bl:=bl.ext iS);clear Ic cC cF;skip;refine SW.ap ar rfl rfl rfl rfl (cw s) fun w5 cU hg => ?_
    have hG:=ar.gr hg;replace hw:=hw.own bM hg;(replace bl:=bl.ay hG rfl);have hX:=hs.free.ay hG rfl;have hT:=hs.types.ay hG rfl;replace ax:=ax.grown hg (by simpa using o6.symm);replace ar:=cU;have es:s.ag.n=z.ag.length:=by rw [e1,Co]
    have Kd:s=⟨s.aV,s.To,⟨s.ag.A,z.ag.length,s.ag.c⟩,s.Types⟩:=by rw [← es]
    have sF:=hs.from_;have sT:=hs.ka;rw [es] at hX;rw [Kd] at ar;clear cU hg hG hs;refine Wz ?_
    obtain ⟨K,hK⟩ : ∃ K:Env→World→Prop,K=fun L' w' => ∃ l a' o' A c,eE L' [(3,.pointer (some ⟨b3,0,none⟩)),(6,.pointer (some ⟨b6,0,none⟩)),(9,.pointer (some ⟨b9,0,none⟩))]∧Ext w w'∧aI w' b3 59 [.int .i64 s.aV,.int .i64 s.To,.slice A l.length c,.slice s.Types.A s.Types.n s.Types.c]∧aI w' b6 59 (bo .zero)∧aI w' b9 77 [.int .i64 a',.int .i64 o',.int .i64 0] ∧
     Own w' (b9+1) 77 3 az A l.length c l∧Own w' (b9+1) 3 1 bf s.Types.A s.Types.n s.Types.c z.Types∧vw z.aV z.To l a' o'∧iy 5 z.ag a o=(l,a',o')∧l.length≤z.ag.length:=⟨_,rfl⟩
    refine CW.wR K ?_ ?_
    ·refine CW.loop (fun u:Nat×List Block×Int×Int×Option Addr×Nat=>[(3,.pointer (some ⟨b3,0,none⟩)),(6,.pointer (some ⟨b6,0,none⟩)),(9,.pointer (some ⟨b9,0,none⟩))])
      (fun u w'=>Ext w w'∧aI w' b3 59 [.int .i64 s.aV,.int .i64 s.To,.slice u.2.2.2.2.1 u.2.1.length u.2.2.2.2.2,.slice s.Types.A s.Types.n s.Types.c]∧aI w' b6 59 (bo .zero)∧aI w' b9 77 [.int .i64 u.2.2.1,.int .i64 u.2.2.2.1,.int .i64 0] ∧
        Own w' (b9+1) 77 3 az u.2.2.2.2.1 u.2.1.length u.2.2.2.2.2 u.2.1∧Own w' (b9+1) 3 1 bf s.Types.A s.Types.n s.Types.c z.Types∧yC z a o u.1 u.2.1 u.2.2.1 u.2.2.2.1) (fun u=>(5-u.2.2.2.1).toNat) (5,z.ag,a,o,s.ag.A,s.ag.c)
      ⟨rfl,rfl,rfl,trivial⟩ ⟨hw,ar,ax,bl,hX,hT,⟨Gh,rfl,by simp only;omega,Nat.le_refl _⟩⟩ ?_
     clear hw ar ax bl hX hT Gh;rintro ⟨f,l,a',o',A,c⟩ w' ⟨hw,ar,ax,bl,hX,hT,hJ⟩
     simp only at ar bl hX hJ ⊢;obtain ⟨k1,k2,k3,k4,k5⟩:=hJ.ok.fit;have hlen:=hJ.len;have hp:=bH k1 k2;by_cases B1:o'<4
     ·obtain ⟨m1,m2,m3⟩:=oh (by omega) k1 B1 k5;generalize oo:beside a' o'=mB at m1 m2 m3
      have Et:=AE hJ.ok.nO hJ.ok.cV mB o'
      have cD:∀ w1,Ext w' w1→bt Tryz.prog 141 [.agg (bo ⟨s.aV,s.To,⟨A,l.length,c⟩,s.Types⟩).toArray,.int .i64 mB] w1 fun v _=>v = .tuple #[.int .i64 (bF l mB:Int),.bool (cf l mB)]:=fun w1 hx =>
       pV ⟨s.aV,s.To,⟨A,l.length,c⟩,s.Types⟩ l z.aV z.To mB w1 (hX.sl.ext hx) hJ.ok.nO hJ.ok.cV o1 (by omega) (by simp only;omega) ⟨by omega,by omega⟩
      by_cases sd:bF l mB<l.length∧(∀ h:bF l mB<l.length,(l[bF l mB]).At=mB∧(l[bF l mB]).Order=o')
      ·obtain ⟨sd,hh⟩:=sd;obtain ⟨o7,re⟩:=hh sd;have Gi:cf l mB=true:=by unfold cf;rw [dif_pos sd];exact decide_eq_true o7
       have Gj:pT l mB o'=true:=by unfold pT;rw [dif_pos sd];exact decide_eq_true ⟨o7,re⟩
       rw [Gj] at Et;rw [Gi] at cD;have Ht:=nX hJ.ok.nO hJ.ok.cV sd o7 re;have hA:=hX.sl.base;generalize AI:bF l mB=lb at *
       have Hu:∀ x,x=beside a' o'→x=mB:=fun x e=>e.trans oo
       refine Wz ?_;(apply CW.aP mixed;(· kernel_rfl);rotate_left;intro w1 ab;replace hw:=Ext.trans hw ab;replace ar:=ar.ext ab;replace ax:=ax.ext ab;replace bl:=bl.ext ab;replace hX:=hX.ext ab;replace hT:=hT.ext ab;clear ab;rotate_right);repeat' (first|refine Wz ?_|refine SW.bq rfl rfl (fun w1 ab=>(cD _ ab)) ?_|(refine SW.st (fQ (r:=pw o') rfl rfl (by omega) (by omega) (by simp [pw]) (by omega) (by omega)) rfl ?_)|(refine SW.st ((j3 a' o' rfl rfl rfl rfl ⟨by omega,by omega,k1,B1,k5⟩).eq (congrArg (Value.int .i64) oo)) rfl ?_)|exact SW.bx rfl)
       (apply CW.aP mixed;(· kernel_rfl);rotate_left;intro w1 ab;replace hw:=Ext.trans hw ab;replace ar:=ar.ext ab;replace ax:=ax.ext ab;replace bl:=bl.ext ab;replace hX:=hX.ext ab;replace hT:=hT.ext ab;clear ab;rotate_right);repeat' (first|refine Wz ?_|refine SW.want rfl rfl ?_|refine SW.st (ak rfl (hX.sl.dA sd rfl)) rfl ?_|exact SW.bx rfl)
       refine CW.any 8 mixed (cq (by kernel_rfl)) rfl fun w1 ab aG => ?_
       replace hw:=Ext.trans hw ab;replace ar:=ar.ext ab;replace ax:=ax.ext ab;replace bl:=bl.ext ab;replace hX:=hX.ext ab;replace hT:=hT.ext ab;clear ab;refine Wa ?_;refine SA.take 7 aG rfl (by kernel_rfl) (by kernel_rfl) rfl ?_;repeat ((show SW _ _ _ _ (⟨_,Op.load _ _,_,_,_,none⟩::_) _ _;refine SW.st (ak rfl (hX.sl.dA sd rfl)) rfl ?_))
       refine SW.ai ?_;refine SA.done (by kernel_rfl) ?_;repeat' (first|refine Wz ?_|(refine SW.st (F5 rfl rfl) rfl ?_))
       refine SW.bB (i:=0) bl rfl rfl rfl rfl fun w5 gz hg => ?_
       have hG:=bl.gr hg;replace hw:=hw.own rc hg;replace hX:=hX.grown hg (.inr (fun e=>by have:=hX.aL _ e;omega));(replace ar:=ar.ay hG rfl;replace ax:=ax.ay hG rfl;replace hT:=hT.ay hG rfl);replace bl:=gz;clear gz hg hG;refine Wz ?_;refine SW.bB (i:=1) bl rfl rfl rfl rfl fun w5 gz hg => ?_
       have hG:=bl.gr hg;replace hw:=hw.own rc hg;replace hX:=hX.grown hg (.inr (fun e=>by have:=hX.aL _ e;omega));(replace ar:=ar.ay hG rfl;replace ax:=ax.ay hG rfl;replace hT:=hT.ay hG rfl);replace bl:=gz;clear gz hg hG;refine Wz ?_;refine SW.db rfl rfl (mo A l.length c _ l _ hX lb sd (by omega) (by have:=bl.lt;omega)) fun v w6 hv => ?_
       obtain ⟨rfl,tJ,hg⟩:=hv;have hG:=hX.gr hg;replace hw:=aF hw hg (Nat.le_trans rc (Nat.le_succ _)) hX.aL;replace bl:=bl.grown hg (fun e=>by have:=hX.aL _ e.symm;omega);(replace ar:=ar.ay hG rfl;replace ax:=ax.ay hG rfl;replace hT:=hT.ay hG rfl);clear hg hG;have pW:l.length-1=(l.eraseIdx lb).length:=by rw [List.length_eraseIdx_of_lt sd]
       rw [pW] at tJ;rw [pW];refine Wz ?_;refine SW.bB (i:=2) ar rfl rfl rfl rfl fun w7 cU hg => ?_
       have hG:=ar.gr hg;replace hw:=hw.own bM hg;replace ax:=ax.grown hg (by simpa using o6.symm);(replace bl:=bl.ay hG rfl;replace tJ:=tJ.ay hG rfl;replace hT:=hT.ay hG rfl);refine Wz ?_;obtain ⟨f',tK⟩:=hJ.next o1 B1 (by rw [oo];exact Et)
       rw [oo,← Ht] at tK;refine ae.again (f',l.eraseIdx lb,min a' mB,o'+1,A,c) ⟨rfl,rfl,rfl,trivial⟩ (by simp only;omega) ⟨hw,cU,ax,?_,tJ,hT,tK⟩;rw [o7] at bl;exact bl
      ·have Gj:pT l mB o'=false:=by
        unfold pT;by_cases h:bF l mB<l.length
        ·rw [dif_pos h];exact decide_eq_false (fun hh=>sd ⟨h,fun _=>hh⟩)
        ·rw [dif_neg h]
       rw [Gj] at Et;have rz:=hJ.stop (.inr (by rw [oo];exact Et))
       have Ke:∀ w1,Ext w w1→aI w1 b3 59 [.int .i64 s.aV,.int .i64 s.To,.slice A l.length c,.slice s.Types.A s.Types.n s.Types.c]→aI w1 b6 59 (bo .zero)→aI w1 b9 77 [.int .i64 a',.int .i64 o',.int .i64 0]→Own w1 (b9+1) 77 3 az A l.length c l→Own w1 (b9+1) 3 1 bf s.Types.A s.Types.n s.Types.c z.Types → ∀ L',eE L' [(3,.pointer (some ⟨b3,0,none⟩)),(6,.pointer (some ⟨b6,0,none⟩)),(9,.pointer (some ⟨b9,0,none⟩))]→K L' w1:=fun w1 x1 x2 x3 x4 x5 x6 L' x7=>by
        rw [hK];exact ⟨l,a',o',A,c,x7,x1,x2,x3,x4,x5,x6,hJ.ok,rz,hJ.len⟩
       by_cases pW:bF l mB<l.length
       ·have hA:=hX.sl.base;by_cases o7:(l[bF l mB]).At=mB
        ·have re : ¬ (l[bF l mB]).Order=o':=fun h=>sd ⟨pW,fun _=>⟨o7,h⟩⟩
         have Gi:cf l mB=true:=by unfold cf;rw [dif_pos pW];exact decide_eq_true o7
         rw [Gi] at cD;generalize AI:bF l mB=lb at *
         repeat' (first|refine Wz ?_|((apply CW.aP mixed;(· kernel_rfl);rotate_left;intro w1 ab;replace hw:=Ext.trans hw ab;replace ar:=ar.ext ab;replace ax:=ax.ext ab;replace bl:=bl.ext ab;replace hX:=hX.ext ab;replace hT:=hT.ext ab;clear ab;rotate_right))|refine SW.want rfl rfl ?_|refine SW.st (ak rfl (hX.sl.dA pW rfl)) rfl ?_|refine SW.bq rfl rfl (fun w1 ab=>(cD _ ab)) ?_|(refine SW.st (fQ (r:=pw o') rfl rfl (by omega) (by omega) (by simp [pw]) (by omega) (by omega)) rfl ?_)|(refine SW.st ((j3 a' o' rfl rfl rfl rfl ⟨by omega,by omega,k1,B1,k5⟩).eq (congrArg (Value.int .i64) oo)) rfl ?_)|exact SW.bx rfl)
         exact ae.kz (K:=K) (Ke _ hw ar ax bl hX hT _ ⟨rfl,rfl,rfl,trivial⟩)
        ·have Gi:cf l mB=false:=by unfold cf;rw [dif_pos pW];exact decide_eq_false o7
         rw [Gi] at cD;generalize AI:bF l mB=lb at *
         repeat' (first|refine Wz ?_|((apply CW.aP mixed;(· kernel_rfl);rotate_left;intro w1 ab;replace hw:=Ext.trans hw ab;replace ar:=ar.ext ab;replace ax:=ax.ext ab;replace bl:=bl.ext ab;replace hX:=hX.ext ab;replace hT:=hT.ext ab;clear ab;rotate_right))|refine SW.skip rfl rfl rfl rfl ?_|refine SW.bq rfl rfl (fun w1 ab=>(cD _ ab)) ?_|(refine SW.st (fQ (r:=pw o') rfl rfl (by omega) (by omega) (by simp [pw]) (by omega) (by omega)) rfl ?_)|(refine SW.st ((j3 a' o' rfl rfl rfl rfl ⟨by omega,by omega,k1,B1,k5⟩).eq (congrArg (Value.int .i64) oo)) rfl ?_)|exact SW.bx rfl)
         exact ae.kz (K:=K) (Ke _ hw ar ax bl hX hT _ ⟨rfl,rfl,rfl,trivial⟩)
       ·have Gi:cf l mB=false:=by unfold cf;rw [dif_neg pW]
        rw [Gi] at cD;generalize AI:bF l mB=lb at *
        repeat' (first|refine Wz ?_|((apply CW.aP mixed;(· kernel_rfl);rotate_left;intro w1 ab;replace hw:=Ext.trans hw ab;replace ar:=ar.ext ab;replace ax:=ax.ext ab;replace bl:=bl.ext ab;replace hX:=hX.ext ab;replace hT:=hT.ext ab;clear ab;rotate_right))|refine SW.skip rfl rfl rfl rfl ?_|refine SW.bq rfl rfl (fun w1 ab=>(cD _ ab)) ?_|(refine SW.st (fQ (r:=pw o') rfl rfl (by omega) (by omega) (by simp [pw]) (by omega) (by omega)) rfl ?_)|(refine SW.st ((j3 a' o' rfl rfl rfl rfl ⟨by omega,by omega,k1,B1,k5⟩).eq (congrArg (Value.int .i64) oo)) rfl ?_)|exact SW.bx rfl)
        exact ae.kz (K:=K) (Ke _ hw ar ax bl hX hT _ ⟨rfl,rfl,rfl,trivial⟩)
     ·refine Wz ?_;exact ae.kz (K:=K) (by rw [hK];exact ⟨l,a',o',A,c,⟨rfl,rfl,rfl,trivial⟩,hw,ar,ax,bl,hX,hT,hJ.ok,hJ.stop (.inl B1),hJ.len⟩)
    ·clear hw ar ax bl hX hT Gh;subst hK;rintro L' w' ⟨l,a',o',A,c,fe,hw,ar,ax,bl,hX,hT,hJ,Cz,hlen⟩
     refine ae.sub fe ?_;obtain ⟨k1,k2,k3,k4,k5⟩:=hJ.fit;obtain ⟨k,hk,di⟩:=zV hz k3 k4;have cb:k<s.Types.n:=by omega
     have Kf:=vA hq jg wU Cz (t:=z.Types[k]) (by rw [hk];simp [List.getD_eq_getElem?_getD,List.getElem?_eq_getElem di]);rw [Kf];have Kg:l.length≤1000000000000000000:=by omega
     have hA:=hT.sl.base;have OM:s.aV=z.aV:=sF
     repeat' (first|refine Wz ?_|refine SW.st (aZ (k) rfl rfl (by assumption) (by omega) (by omega)) rfl ?_|refine SW.st (ak rfl (hT.sl.one cb rfl)) rfl ?_)
     refine SW.bB (i:=2) bl rfl rfl rfl rfl fun w5 gz hg => ?_
     have hG:=bl.gr hg;replace hw:=hw.own rc hg;replace hX:=hX.grown hg (.inr (fun e=>by have:=hX.aL _ e;omega));(replace ar:=ar.ay hG rfl;replace ax:=ax.ay hG rfl;replace hT:=hT.ay hG rfl);replace bl:=gz;clear gz hg hG;repeat' (first|refine Wz ?_|(refine SW.call rfl rfl (pV ⟨s.aV,s.To,⟨A,l.length,c⟩,s.Types⟩ l z.aV z.To a' _ hX.sl hJ.nO hJ.cV o1 (by omega) Kg ⟨by omega,by omega⟩) ?_;intro v w1 ab hv;subst hv;replace hw:=Ext.trans hw ab;replace ar:=ar.ext ab;replace ax:=ax.ext ab;replace bl:=bl.ext ab;replace hX:=hX.ext ab;replace hT:=hT.ext ab;clear ab))
     have c8:=hX.lt_size;refine SW.bD rfl rfl rfl rfl rfl fun vb w6 aj Ie M7 => ?_
     (replace hw:=Ext.trans hw aj;replace ar:=ar.ext aj;replace ax:=ax.ext aj;replace bl:=bl.ext aj;replace hX:=hX.ext aj;replace hT:=hT.ext aj);skip;refine SW.db rfl rfl (fI A l.length c _ l _ hX (bF l a') (zZ l a') ⟨a',o',z.Types[k]⟩ vb M7 (fun e=>by have:=c8 _ e;omega) (Nat.le_trans (Nat.mul_le_mul_right 24 (by omega)) hf) (by have:=bl.lt;omega)) fun v w7 hv => ?_
     obtain ⟨A2,c2,rfl,tJ,hg⟩:=hv;have hG:=hX.gr hg;replace hw:=aF hw hg (Nat.le_trans rc (Nat.le_succ _)) hX.aL;replace bl:=bl.grown hg (fun e=>by have:=hX.aL _ e.symm;omega);(replace ar:=ar.ay hG rfl;replace ax:=ax.ay hG rfl;replace hT:=hT.ay hG rfl);clear hg hG;refine Wz ?_;refine SW.bB (i:=2) ar rfl rfl rfl rfl fun w8 cU hg => ?_
     have hG:=ar.gr hg;replace hw:=hw.own bM hg;replace ax:=ax.grown hg (by simpa using o6.symm);(replace bl:=bl.ay hG rfl;replace tJ:=tJ.ay hG rfl;replace hT:=hT.ay hG rfl);clear hg hG;refine Wz ?_;refine SW.ap ax rfl rfl rfl rfl (cw ⟨s.aV,s.To,⟨A2,l.length+1,c2⟩,s.Types⟩) fun w9 bL hg => ?_
     have hG:=ax.gr hg;replace hw:=hw.own dr hg;(replace tJ:=tJ.ay hG rfl;replace hT:=hT.ay hG rfl);refine Wz ?_;exact ae.fU rfl rfl rfl bL rfl ⟨_,rfl,hw,⟨s.aV,s.To,⟨A2,l.length+1,c2⟩,s.Types⟩,rfl,sF,sT,tJ.low (by omega),hT.low (by omega)⟩
   ·rw [wU] at cC;rw [Ab hq jg wU];repeat' (first|refine Wz ?_|(refine CW.bA rfl ?_)|((first|refine SW.call rfl rfl (cF _) ?_|refine SW.call rfl rfl (cC _ hw bl) ?_);intro v w1 ab hv;subst hv;replace hw:=Ext.trans hw ab;replace ar:=ar.ext ab;replace ax:=ax.ext ab;replace bl:=bl.ext ab;clear ab)|(refine SW.st (iJ (vs:=[.pointer (some ⟨b9,0,none⟩)]) rfl) rfl ?_))
    refine SW.ap ax rfl rfl rfl rfl (cw .zero) fun w5 bL hg => ?_
    replace hw:=hw.own dr hg;refine Wz ?_;exact ae.fU rfl rfl rfl bL rfl ⟨_,rfl,hw,.zero,rfl,fa.zero _ _⟩
  ·rw [decide_eq_false jg] at cF;rw [Aa hq jg];repeat' (first|refine Wz ?_|(refine CW.bG rfl ?_)|(refine SW.call rfl rfl (cF _) ?_;intro v w1 ab hv;subst hv;replace hw:=Ext.trans hw ab;replace ar:=ar.ext ab;replace ax:=ax.ext ab;replace bl:=bl.ext ab;clear ab))
   refine SW.ap ax rfl rfl rfl rfl (cw .zero) fun w5 bL hg => ?_
   replace hw:=hw.own dr hg;refine Wz ?_;exact ae.fU rfl rfl rfl bL rfl ⟨_,rfl,hw,.zero,rfl,fa.zero _ _⟩
end Go.Proofs.YtjimadiidbkohaaGreatDoor
