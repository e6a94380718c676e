/-
  Texts of the claim SlabAllocs, part 5: what its theorem leans on.
-/
import Derived.Test.YtjimadiidbkohaaGreatDoorPackSlabAllocs4
import Derived.Test.YtjimadiidbkohaaGreatDoorPackSlabAllocs3
import Derived.Test.YtjimadiidbkohaaGreatDoorPackSlabAllocs2
set_option linter.unusedVariables false
set_option linter.unusedSimpArgs false
namespace Go.Proofs.YtjimadiidbkohaaGreatDoor
open Go.RowKit
set_option maxHeartbeats 4000000 in
theorem mf (A:Option Addr) (n c lo:Nat) (l:List Block) (w:World) (hO:Own w lo 77 3 az A n c l) (i:Nat) (hi:i<n) (hn:n≤1000000000000000000) (fC:lo≤w.heap.size) :
 gL Tryz.prog 140 [.slice A n c,.int .i64 (i:Int),.int .i64 ((i+1:Nat) : Int)] w fun v w'=>v = .slice A (n-1) c∧Own w' lo 77 3 az A (n-1) c (l.eraseIdx i)∧w.grownBy w' (aT A c):=by
 refine dw Tryz.func140 rfl Tryz.ntmps140 rfl ?_;have hle:=hO.le;have ma:=hO.len;have hA:=hO.sl.base;have Ae:w.grownBy w (aT A c):=World.grownBy.refl _ _
 repeat' (first|refine Wz ?_|(refine SW.st (uo (i:=i) (j:=i+1) (k:=n) rfl rfl rfl rfl (by omega) (by omega) (by omega)) rfl ?_))
 all_goals try omega
 have hw:=Ext.refl w;have e0:i+(n-(i+1))=n-1:=by omega
 have el:l.take i++l.drop (i+1)=l.eraseIdx i:=by rw [List.eraseIdx_eq_take_drop_succ]
 refine CW.any 6 mixed (cl (by kernel_rfl)) rfl fun w1 ab aG => ?_
 replace hw:=Ext.trans hw ab;replace hO:=hO.ext ab;clear ab;refine Wa ?_;refine SA.take 2 aG rfl (by kernel_rfl) (by kernel_rfl) rfl ?_;repeat ((refine SW.st (da (k:=i) rfl rfl (by omega)) rfl ?_))
 refine SW.ah ?_;refine Wa ?_;refine SA.take 5 aG rfl (by kernel_rfl) (by kernel_rfl) rfl ?_;repeat ((refine SW.st (bg (k:=i+1) rfl rfl (by omega) (by omega)) rfl ?_))
 refine SW.ah ?_;refine SA.done (by kernel_rfl) ?_;refine SW.wu (hO.pre (i:=i) (by omega)) (hO.sl.drop (i+1) c (by omega) (by omega)) (by omega) rfl rfl rfl fun w2 gx hg => ?_
 rw [e0,el] at gx;rw [e0];have DZ:=(hw.gr (aT A c));repeat' (first|refine Wz ?_|(refine SW.st (rX (i:=n-1) (j:=n) rfl rfl rfl (by omega) (by omega)) rfl ?_))
 obtain ⟨g,rest,rfl,h1,h2,h3,h4,h5,h6⟩:=gx.opened (by omega);have oB:((l.eraseIdx i).flatMap az).length=(n-1)*3:=by rw [ba,gx.len]
 refine SW.clear ((n-1)*3) h2 rfl (by rw [List.length_append,oB];omega) (fun h0 => ?_) (by decide) fun w3 cs ic hB tx => ?_
 ·rw [if_neg (by omega)];simp [c7]
 ·have e7:=eJ ((l.eraseIdx i).flatMap az) (rest.take ((n-(n-1))*3)) (rest.drop ((n-(n-1))*3)) cs (by rw [ic];simp;omega) (o:=(n-1)*3) oB.symm;rw [List.append_assoc (List.flatMap _ _),List.take_append_drop] at e7;rw [e7,List.append_assoc] at hB;have G4:=Own.closed (l:=l.eraseIdx i) gx.len hB (by rw [List.length_append,ic];simp;omega) h4 (by omega) h5 h1;rw [← h6] at tx;have wv:=bO (bO DZ hg (.inl rfl)) tx (.inl rfl);refine Wz ?_;exact ae.aN rfl rfl ⟨_,rfl,rfl,G4,wv⟩
set_option maxHeartbeats 4000000 in
theorem fu (A:Option Addr) (n c lo:Nat) (l:List Block) (w:World) (hO:Own w lo 77 3 az A n c l) (i:Nat) (hi:i≤n) (x:Block) (b:Nat) (hB:aJ w b 77 (az x)) (cG:aT A c≠some b) (hn:(n+1)*24≤140737488355328) (fC:lo≤w.heap.size) :
 gL Tryz.prog 106 [.slice A n c,.int .i64 (i:Int),.slice (some ⟨b,0,none⟩) 1 1] w fun v w' => ∃ A' c',v = .slice A' (n+1) c'∧Own w' lo 77 3 az A' (n+1) c' (aV l i x)∧w.grownBy w' (aT A c):=by
 refine dw Tryz.func106 rfl Tryz.ntmps106 rfl ?_;have hle:=hO.le;have ma:=hO.len;have hA:=hO.sl.base;have hw:=Ext.refl w;have kz:Sl w 3 az (some ⟨b,0,none⟩) 1 [x]:=aJ.mb hB
 have jI:(az x).length=3:=rfl
 have oB:∀ q:List Block,(q.flatMap az).length=q.length*3:=fun q=>ba q
 have nB:∀ (q:List Block) (v:Value),v∈q.flatMap az→v.oneCell'=true:=fun q v hv=>by
  obtain ⟨u,_,hu⟩:=List.mem_flatMap.1 hv;exact fB.one (enc:=az) u v hu
 by_cases cf:i=n
 ·subst cf;repeat' (first|refine Wz ?_|(refine SW.st (bg (k:=i) rfl rfl (by omega) (by omega)) rfl ?_))
  all_goals try omega
  refine SW.append hO kz fC rfl rfl rfl (by omega) (by omega) fun A2 c2 w2 gx hg => ?_
  refine Wz ?_;refine ae.aN rfl rfl ⟨_,rfl,A2,c2,rfl,?_,hg⟩;have e:aV l i x=l++[x]:=by unfold aV;rw [List.take_of_length_le (by omega),List.drop_eq_nil_of_le (by omega)];simp
  rw [e];exact gx
 ·by_cases jk:n+1≤c
  ·obtain ⟨g,rest,rfl,h1,h2,h3,h4,h5,h6⟩:=hO.opened (by omega);have Af:g≠b:=fun e=>cG (by rw [h6,e])
   have es:l.flatMap az++rest=(l.take i).flatMap az++((l.drop i).flatMap az++rest):=by rw [← List.append_assoc,← List.flatMap_append,List.take_append_drop]
   have e1:((l.take i).flatMap az).length=i*3:=by rw [oB];simp;omega
   have e2:((l.drop i).flatMap az).length=(n-i)*3:=by rw [oB];simp [ma]
   have lK:=hO.sl.drop i c (by omega) (by omega);rw [if_neg (by omega)] at lK;rw [es] at h2
   have wx:∀ w',Ext w w'→(Extern.SlicesOverlaps.overlaps #[25,25] #[4] #[.slice (some ⟨b,0,none⟩) 1 1,.slice (if c=i+1 then (some ⟨g,0,none⟩) else (some (⟨g,0,none⟩ : Addr)).map (·.add ((i+1)*3))) (n+1-(i+1)) (c-(i+1))]).run Tryz.prog w' = .ok (.bool false) w':=fun w' hx=>by
    rw [if_neg (by omega),Option.map_some,c7];have b1:=hB.ext hx;have b2:=h2.ext hx;unfold aJ at b1 b2
    exact Lib.run_overlaps_apart w' 25 4 77 (bw.ko (t:=25)) 3 (fun w0=>run_sizeOf (bw.size (t:=25)) w0) ⟨b,0,none⟩ ⟨g,(i+1)*3,none⟩ 1 1 _ _ (fun e=>Af e.symm) 77 77 (az x).toArray.size ((l.take i).flatMap az++((l.drop i).flatMap az++rest)).toArray.size
     (by simp only [World.shape?,b1]) (by simp only [World.shape?,b2]) (by simp [e1,e2];omega) (by simp [World.frozen?,b1]) (by simp [World.frozen?,b1])
   repeat' (first|refine Wz ?_|(refine CW.bF rfl ?_)|(refine SW.st (bg (k:=i) rfl rfl (by omega) (by omega)) rfl ?_)|(refine SW.st (da (k:=n+1) rfl rfl (by omega)) rfl ?_)|(refine SW.st (bg (k:=i+1) rfl rfl (by omega) (by omega)) rfl ?_)|(refine SW.entry Tryz.func125 (by kernel_rfl) (by kernel_rfl) (by kernel_rfl) (e:=Extern.SlicesOverlaps.overlaps #[25,25] #[4]) (by kernel_rfl) rfl rfl (wx _ hw) ?_))
   all_goals try omega
   have ui:((n-i)+1)*3≤((l.drop i).flatMap az++rest).length:=by rw [List.length_append,e2];omega
   have e4:(l.drop i).flatMap az++rest=((l.drop i).flatMap az++rest).take 3++(((l.drop i).flatMap az++rest).drop 3).take ((n-i)*3)++((l.drop i).flatMap az++rest).drop (3+(n-i)*3):=by
    rw [List.append_assoc,← List.drop_drop,List.take_append_drop,List.take_append_drop]
   generalize B0:((l.drop i).flatMap az++rest).take 3=D1 at e4
   generalize B1:(((l.drop i).flatMap az++rest).drop 3).take ((n-i)*3)=D2 at e4
   generalize B3:((l.drop i).flatMap az++rest).drop (3+(n-i)*3)=D3 at e4
   have f1:D1.length=3:=by rw [← B0];simp only [List.length_take];omega
   have f2:D2.length=(n-i)*3:=by rw [← B1];simp only [List.length_take,List.length_drop];omega
   have f3:D3.length+3=rest.length:=by rw [← B3];simp only [List.length_drop,List.length_append,e2];omega
   rw [e4] at h2;refine CW.any 8 mixed (cl (by kernel_rfl)) rfl fun w1 ab aG => ?_
   replace hw:=Ext.trans hw ab;replace hO:=hO.ext ab;replace hB:=hB.ext ab;replace h2:=h2.ext ab;clear ab;refine Wa ?_;refine SA.take 4 aG rfl (by kernel_rfl) (by kernel_rfl) rfl ?_;repeat ((refine SW.st (bg (k:=i+1) rfl rfl (by omega) (by omega)) rfl ?_))
   refine SW.ah ?_;refine Wa ?_;refine SA.take 7 aG rfl (by kernel_rfl) (by kernel_rfl) rfl ?_;repeat ((refine SW.st (bg (k:=i) rfl rfl (by omega) (by omega)) rfl ?_))
   refine SW.ah ?_;refine SA.done (by kernel_rfl) ?_;refine SW.copy (k:=n-i) ((i+1)*3) ((l.drop i).flatMap az) h2 rfl rfl rfl (by omega) e2 (by simp only [List.length_append,e1,e2,f1,f2];omega) (fun h0=>⟨by rw [if_neg (by omega)];simp [c7],(⟨g,0,none⟩ : Addr).add (i*3),by rw [if_neg (by omega)];rfl,fun j v hv=>dm (by omega) (lK.ext hw) j v hv⟩) (nB _) fun w3 mi tx => ?_
   have g1:=eJ ((l.take i).flatMap az++D1) D2 D3 ((l.drop i).flatMap az) (by rw [e2,f2]) (o:=(i+1)*3) (by rw [List.length_append,e1,f1];omega);have g0:(l.take i).flatMap az++(D1++D2++D3)=(l.take i).flatMap az++D1++D2++D3:=by simp only [List.append_assoc]
   rw [g0,g1] at mi;have DZ:=bO (hw.gr (aT (some ⟨g,0,none⟩) c)) tx (.inl h6.symm);have HF:=hB.grown tx (by simpa using fun e=>Af e.symm);repeat' (first|refine Wz ?_|(refine SW.st (bg (k:=i) rfl rfl (by omega) (by omega)) rfl ?_))
   refine SW.copy (k:=1) (i*3) (az x) mi rfl rfl rfl (by omega) jI (by simp only [List.length_append,e1,e2,f1,jI];omega) (fun h0=>⟨by rw [if_neg (by omega)];simp [c7],⟨b,0,none⟩,rfl,fun j v hv=>HF.cell hv⟩) (fB.one (enc:=az) x) fun w4 mI u5 => ?_
   have g2:=eJ ((l.take i).flatMap az) D1 ((l.drop i).flatMap az++D3) (az x) (by rw [jI,f1]) (o:=i*3) e1.symm;have g3:(l.take i).flatMap az++D1++(l.drop i).flatMap az++D3=(l.take i).flatMap az++D1++((l.drop i).flatMap az++D3):=by simp only [List.append_assoc]
   have g4:(l.take i).flatMap az++az x++((l.drop i).flatMap az++D3)=(aV l i x).flatMap az++D3:=by unfold aV;simp only [List.flatMap_append,List.flatMap_cons,List.flatMap_nil,List.append_nil,List.append_assoc]
   rw [g3,g2,g4] at mI;have B4:=Own.closed (n:=n+1) (c:=c) (l:=aV l i x) (by unfold aV;simp;omega) mI (by omega) jk (by omega) h5 h1;have B5:=bO DZ u5 (.inl h6.symm);refine Wz ?_;exact ae.aN rfl rfl ⟨_,rfl,_,_,rfl,B4,B5⟩
  ·have EX:c=n:=by omega
   have lK:=hO.sl.drop i c (by omega) (by omega);have pM:=hO.sl.pre (i:=i) (by omega);repeat' (first|refine Wz ?_|(refine SW.st (bg (k:=i) rfl rfl (by omega) (by omega)) rfl ?_)|(refine SW.st (da (k:=i) rfl rfl (by omega)) rfl ?_))
   all_goals try omega
   refine SW.vg (k:=n+1-i) pM Tryz.underlying3 rfl rfl (by omega) rfl (by omega) (by omega) (by omega) (by omega) fun g rest c2 w2 cw tH h2 h3 h4 h5 => ?_
   have e1:((l.take i).flatMap az).length=i*3:=by rw [oB];simp;omega
   have e2:((l.drop i).flatMap az).length=(n-i)*3:=by rw [oB];simp [ma]
   have ui:((n-i)+1)*3≤rest.length:=by omega
   have e4:rest=rest.take 3++(rest.drop 3).take ((n-i)*3)++rest.drop (3+(n-i)*3):=by
    rw [List.append_assoc,← List.drop_drop,List.take_append_drop,List.take_append_drop]
   generalize B0:rest.take 3=D1 at e4
   generalize B1:(rest.drop 3).take ((n-i)*3)=D2 at e4
   generalize B3:rest.drop (3+(n-i)*3)=D3 at e4
   have f1:D1.length=3:=by rw [← B0];simp only [List.length_take];omega
   have f2:D2.length=(n-i)*3:=by rw [← B1];simp only [List.length_take,List.length_drop];omega
   have f3:D3.length+((n-i)+1)*3=rest.length:=by rw [← B3];simp only [List.length_drop];omega
   rw [e4] at h2;have dt:aT A c≠some g:=fun e=>by have:=hO.lt_size _ e;omega
   have Af:b≠g:=by have:=hB.lt;omega
   replace lK:=lK.ext cw;replace hB:=hB.ext cw;replace hw:=Ext.trans hw cw;repeat' (first|refine Wz ?_|(refine SW.st (bg (k:=i) rfl rfl (by omega) (by omega)) rfl ?_))
   refine SW.copy (k:=1) (i*3) (az x) h2 rfl rfl rfl (by omega) jI (by simp only [List.length_append,e1,f1,f2,jI];omega) (fun h0=>⟨by rw [if_neg (by omega)];simp [c7],⟨b,0,none⟩,rfl,fun j v hv=>hB.cell hv⟩) (fB.one (enc:=az) x) fun w3 mi tx => ?_
   have g2:=eJ ((l.take i).flatMap az) D1 (D2++D3) (az x) (by rw [jI,f1]) (o:=i*3) e1.symm;have g3:(l.take i).flatMap az++(D1++D2++D3)=(l.take i).flatMap az++D1++(D2++D3):=by simp only [List.append_assoc]
   rw [g3,g2] at mi;have tz:Ext w w3:=hw.own tH tx
   have kA:Sl w3 3 az (if c=i then A else A.map (·.add (i*3))) (n-i) (l.drop i):=(hO.sl.drop i c (by omega) (by omega)).ext tz
   replace hw:=tz;refine Wz ?_;refine CW.any 8 mixed (cl (by kernel_rfl)) rfl fun w1 ab aG => ?_
   replace hw:=Ext.trans hw ab;replace mi:=mi.ext ab;replace kA:=kA.ext ab;clear ab;refine Wa ?_;refine SA.take 4 aG rfl (by kernel_rfl) (by kernel_rfl) rfl ?_;repeat ((refine SW.st (bg (k:=i+1) rfl rfl (by omega) (by omega)) rfl ?_))
   refine SW.ah ?_;refine Wa ?_;refine SA.take 7 aG rfl (by kernel_rfl) (by kernel_rfl) rfl ?_;repeat ((refine SW.st (bg (k:=i) rfl rfl (by omega) (by omega)) rfl ?_))
   refine SW.ah ?_;refine SA.done (by kernel_rfl) ?_;refine SW.copy (k:=n-i) ((i+1)*3) ((l.drop i).flatMap az) mi rfl rfl rfl (by omega) e2 (by simp only [List.length_append,e1,e2,f2,jI];omega) (fun h0=>⟨by rw [if_neg (by omega)];simp [c7],(if c=i then A else A.map (·.add (i*3))).getD default,?_,fun j v hv=>dm (by omega) kA j v hv⟩) (nB _) fun w4 mI u5 => ?_
   ·obtain ⟨a,ha⟩:=Option.isSome_iff_exists.1 (kA.base h0);rw [ha];rfl
   ·have g4:=eJ ((l.take i).flatMap az++az x) D2 D3 ((l.drop i).flatMap az) (by rw [e2,f2]) (o:=(i+1)*3) (by rw [List.length_append,e1,jI];omega);have g5:(l.take i).flatMap az++az x++(D2++D3)=(l.take i).flatMap az++az x++D2++D3:=by simp only [List.append_assoc]
    have g6:(l.take i).flatMap az++az x++(l.drop i).flatMap az++D3=(aV l i x).flatMap az++D3:=by unfold aV;simp only [List.flatMap_append,List.flatMap_cons,List.flatMap_nil,List.append_nil,List.append_assoc]
    rw [g5,g4,g6] at mI;have B4:=Own.closed (n:=n+1) (c:=c2) (lo:=lo) (l:=aV l i x) (by unfold aV;simp;omega) mI (by omega) (by omega) (by omega) h5 (by omega);have iG:Ext w w4:=hw.own tH u5
    have e9:i+(n+1-i)=n+1:=by omega
    refine Wz ?_;rw [e9];exact ae.aN rfl rfl ⟨_,rfl,_,_,rfl,B4,iG.gr _⟩
open Go.RowKit
theorem oR:Tryz.prog.underlying 136=some (.int .u64):=by kernel_rfl
theorem wrap_u64 {z:Int} (h0 : 0≤z) (h1:z≤9223372036854775807) : IntKind.u64.wrap z=z:=by
 simp [IntKind.wrap,IntKind.bits,IntKind.signed];omega
section
variable {P:Program} {L:Env} {w:World} {d:Option Nat} {T:TypeId} {pos:String} {af:Array Edge} {g:Option (Nat×Bool)}
theorem oS {ft tt:TypeId} {x:Operand} {k k':IntKind} {i:Int} (hf:P.underlying ft=some (.int k)) (ht:P.underlying tt=some (.int k')) (hx:ca L x=some (.int k i)) :
 St P ⟨d,.convert ft tt x,T,pos,af,g⟩ L w (.int k' (k'.wrap i)) :=
 ⟨fun n a ha w' _=>by
  have e1:=ha.eval hx;generalize a.eval = ρ at *
  simp [go_sem,e1,convert,run_underlying hf,run_underlying ht,Conv.intToInt]⟩
theorem zC {t ty:TypeId} {x y:Operand} {yk:IntKind} {i:Int} (hx:ca L x=some (.int .u64 i)) (hy:ca L y=some (.int yk 1)) :
 St P ⟨d,.binOp .shr t x y ty,T,pos,af,g⟩ L w (.int .u64 (i / 2)) :=
 ⟨fun n a ha w' _=>by
  have e1:=ha.eval hx;have e2:=ha.eval hy;generalize a.eval = ρ at *
  simp [go_sem,e1,e2]⟩
end
def cc (l:List Block) (a:Int) : Bool:=if h:bE l a<l.length then decide ((l[bE l a]).At=a) else false
theorem ju (A:Option Addr) (n c:Nat) (l:List Block) (a:Int) (w:World) (hl:Sl w 3 az A n l) (f:FuncId) [Body Tryz.prog f] (hf:∀ x∈l,∀ w',Ext w w'→bt Tryz.prog f ([.agg (az x).toArray,.int .i64 a]++[]) w' fun v _=>v = .int .i64 (x.At-a))
 (hu:l.Pairwise fun x y=>x.At<y.At) (hn:n≤1000000000000000000) : bt Tryz.prog 65 [.slice A n c,.int .i64 a,.func (.func f) #[] #[]] w fun v _=>v = .tuple #[.int .i64 (bE l a:Int),.bool (cc l a)]:=by
 refine aL Tryz.func65 rfl Tryz.ntmps65 rfl ?_;have hw:=Ext.refl w;have hA:=hl.base;have ma:=hl.len;rw [List.pairwise_iff_getElem] at hu;refine Wz ?_
 refine CW.loop (fun s:Nat×Nat=>[(0,.slice A n c),(1,.int .i64 a),(2,.func (.func f) #[] #[]),(8,.int .i64 (n:Int)),(9,.int .i64 (s.1:Int)),(10,.int .i64 (s.2:Int))])
  (fun s w'=>s.1≤s.2∧s.2≤n∧Ext w w'∧(∀ (k:Nat) (h:k<l.length),k<s.1→l[k].At<a)∧(∀ (k:Nat) (h:k<l.length),s.2≤k→a≤l[k].At)) (fun s=>s.2-s.1) (0,n)
  ⟨rfl,rfl,rfl,rfl,rfl,rfl,trivial⟩ ⟨by omega,by omega,hw,fun k h h'=>by omega,fun k h h'=>by omega⟩ ?_
 clear hw;rintro ⟨i,j⟩ w' ⟨kP,iZ,hw,hI,hJ⟩
 simp only at kP iZ hI hJ ⊢;by_cases c9:i<j
 ·have hk:(i+j) / 2<n:=by omega
  have de:=hl.lt hk;have oP:=fun w1 h1=>hf (l[(i+j) / 2]) (List.getElem_mem de) w1 h1
  repeat' (first|refine Wz ?_|refine SW.st (aH hw rfl rfl ((hl.all hk))) rfl ?_|(refine SW.st ((oS Tryz.underlying3 oR rfl).eq (congrArg (Value.int .u64) (wrap_u64 (by omega) (by omega)))) rfl ?_)|(refine SW.st ((oS oR Tryz.underlying3 rfl).eq (congrArg (Value.int .i64) (ir (by omega) (by omega)))) rfl ?_)|(refine SW.st (zC rfl rfl) rfl ?_))
  refine SW.oI (cap:=[]) rfl rfl rfl (oP _ hw) fun v w1 ab hv => ?_
  subst hv;replace hw:=Ext.trans hw ab;by_cases HG:l[(i+j) / 2].At<a
  ·refine Wz ?_;refine ae.again ((i+j) / 2+1,j) ⟨rfl,rfl,rfl,rfl,congrArg (fun z=>some (Value.int .i64 z)) (by omega),rfl,trivial⟩ (by simp only;omega) ⟨by simp only;omega,iZ,hw,fun k h h' => ?_,hJ⟩;simp only at h';by_cases e:k=(i+j) / 2
   ·subst e;exact HG
   ·have:=hu k ((i+j) / 2) h de (by omega)
    omega
  ·refine Wz ?_;refine ae.again (i,(i+j) / 2) ⟨rfl,rfl,rfl,rfl,rfl,congrArg (fun z=>some (Value.int .i64 z)) (by omega),trivial⟩ (by simp only;omega) ⟨by simp only;omega,by simp only;omega,hw,hI,fun k h h' => ?_⟩;simp only at h';by_cases e:k=(i+j) / 2
   ·subst e;omega
   ·have:=hu ((i+j) / 2) k de h (by omega)
    omega
 ·obtain rfl:i=j:=by omega
  have rZ:bE l a=i:=zx (by omega) hI (fun h=>hJ i h (by omega))
  by_cases cf:i<n
  ·have de:=hl.lt cf;have oP:=fun w1 h1=>hf (l[i]) (List.getElem_mem de) w1 h1
   have D0:cc l a=decide (l[i].At=a):=by unfold cc;simp only [rZ,de,dif_pos]
   rw [rZ,D0];repeat' (first|refine Wz ?_|refine SW.st (aH hw rfl rfl ((hl.all cf))) rfl ?_)
   refine SW.oI (cap:=[]) rfl rfl rfl (oP _ hw) fun v w1 ab hv => ?_
   subst hv;replace hw:=Ext.trans hw ab;by_cases he:l[i].At=a
   ·refine Wz ?_;refine ae.cu rfl rfl rfl ⟨_,rfl,hw,?_⟩;rw [decide_eq_true he,decide_eq_true (by omega)]
   ·refine Wz ?_;refine ae.cu rfl rfl rfl ⟨_,rfl,hw,?_⟩;rw [decide_eq_false he,decide_eq_false (by omega)]
  ·have D0:cc l a=false:=by unfold cc;rw [dif_neg (by omega)]
   rw [rZ,D0];refine Wz ?_;exact ae.cu rfl rfl rfl ⟨_,rfl,hw,rfl⟩
theorem FQ {f t:Int} {l:List Block} (h:nD l) (hb:∀ b∈l,dB f t b) : l.Pairwise fun x y=>x.At<y.At:=by
 unfold nD at h;rw [List.pairwise_iff_getElem] at h ⊢;intro i j hi hj kP;have h1:=h i j hi hj kP;have hp:=hb _ (List.getElem_mem hi);have:=bG hp.1.1 hp.1.2.1
 omega
theorem vh (x:Block) (a:Int) (w:World) (hx : -4000000000000000000≤x.At∧x.At≤4000000000000000000) (ha : -4000000000000000000≤a∧a≤4000000000000000000) : bt Tryz.prog 149 ([.agg (az x).toArray,.int .i64 a]++[]) w fun v _=>v = .int .i64 (x.At-a):=by
 refine aL Tryz.func149 rfl Tryz.ntmps149 rfl ?_;refine CW.seq (CW.region (SW.box rfl rfl fun b1 w1 hw gK aA => ?_));refine Wz ?_;exact ae.aN rfl rfl ⟨_,rfl,hw,rfl⟩
theorem pN (r:cq) (l:List Block) (f t a:Int) (w:World) (hl:Sl w 3 az r.ag.A r.ag.n l) (hu:nD l) (hb:∀ b∈l,dB f t b) (h0 : 0≤f) (ht:t≤256) (hn:r.ag.n≤1000000000000000000) (ha : -1000≤a∧a≤1000) :
 bt Tryz.prog 141 [.agg (bo r).toArray,.int .i64 a] w fun v _=>v = .tuple #[.int .i64 (bE l a:Int),.bool (cc l a)]:=by
 refine aL Tryz.func141 rfl Tryz.ntmps141 rfl ?_;refine CW.seq (CW.region (SW.box rfl rfl fun b1 w1 hw gK aA => ?_))
 have cB:∀ w',Ext w w'→bt Tryz.prog 65 [.slice r.ag.A r.ag.n r.ag.c,.int .i64 a,.func (.func 149) #[] #[]] w' fun v _=>v = .tuple #[.int .i64 (bE l a:Int),.bool (cc l a)]:=fun w' h =>
  ju _ _ _ _ _ _ (hl.ext h) _ (fun x hx w1 _=>vh x a w1 (by have:=(hb x hx).1;unfold eU at this;omega) (by omega)) (FQ hu hb) hn
 repeat' (first|refine Wz ?_|(refine SW.call rfl rfl (cB _ hw) ?_;intro v w1 ab hv;subst hv;replace hw:=Ext.trans hw ab;replace aA:=aA.ext ab;clear ab))
 exact ae.cu rfl rfl rfl ⟨_,rfl,hw,rfl⟩
theorem qu (A:Option Addr) (n c:Nat) (l:List Block) (a o:Int) (w:World) (hl:Sl w 3 az A n l) (hn:n*24≤140737488355328) :
 bt Tryz.prog 120 [.slice A n c,.int .i64 a,.int .i64 o] w fun v w' => ∃ B c',v = .tuple #[.slice B (c8 l a o).length c',.bool (l.any (qU a o))]∧Own w' w.heap.size 77 3 az B (c8 l a o).length c' (c8 l a o):=by
 refine aL Tryz.func120 rfl Tryz.ntmps120 rfl ?_;have hw:=Ext.refl w;have hA:=hl.base;have ma:=hl.len;refine Wz ?_
 refine CW.loop (fun s:Nat×Option Addr×Nat=>[(0,.slice A n c),(1,.int .i64 a),(2,.int .i64 o),(8,.slice s.2.1 (c8 (l.take s.1) a o).length s.2.2),(9,.bool ((l.take s.1).any (qU a o))),(10,.int .i64 (s.1:Int))])
  (fun s w'=>s.1≤n∧Ext w w'∧Own w' w.heap.size 77 3 az s.2.1 (c8 (l.take s.1) a o).length s.2.2 (c8 (l.take s.1) a o)) (fun s=>n-s.1) (0,none,0) ⟨rfl,rfl,rfl,rfl,rfl,rfl,trivial⟩ ⟨by omega,hw,Own.eR _ _ _ _ _ _⟩ ?_
 clear hw;rintro ⟨k,B,c'⟩ w' ⟨hk,hw,hO⟩
 simp only at hk hO ⊢;by_cases bY:k<n
 ·have de:=hl.lt bY;have et:=List.take_succ_eq_append_getElem de;have hlen:(c8 (l.take k) a o).length≤k:=Nat.le_trans (List.length_filter_le _ _) (by simp;omega)
  cases hi:qU a o l[k]
  ·have e1:c8 (l.take (k+1)) a o=c8 (l.take k) a o++[l[k]]:=by unfold c8;rw [et,List.filter_append];simp [hi]
   have e2:(l.take (k+1)).any (qU a o)=(l.take k).any (qU a o):=by rw [et,List.any_append];simp [hi]
   have Bw : ¬ (l[k].At=a∧l[k].Order=o):=fun h=>by rw [gD.2 h] at hi;cases hi
   by_cases ha:l[k].At=a
   all_goals
    repeat' (first|refine Wz ?_|refine SW.st (aH hw rfl rfl ((hl.all bY))) rfl ?_|refine SW.st (ao hw rfl (hl.dv bY rfl)) rfl ?_)
    all_goals try omega
    refine SW.bJ rfl rfl rfl rfl rfl fun b w1 ab hb hB => ?_
    replace hw:=Ext.trans hw ab;replace hO:=hO.ext ab;refine SW.append hO (aJ.mb (enc:=az) hB) hw.size rfl rfl rfl (by omega) (by omega) fun A2 c2 w2 fT hg => ?_
    replace hw:=aE hw hg (Nat.le_refl _) hO.aM;refine Wz ?_;have e3:(c8 (l.take (k+1)) a o).length=(c8 (l.take k) a o).length+1:=by rw [e1];simp
    refine ae.again (k+1,A2,c2) ⟨rfl,rfl,rfl,by simp only;rw [e3];rfl,by simp only;rw [e2];rfl,rfl,trivial⟩ (by simp only;omega) ⟨by simp only;omega,hw,?_⟩;simp only;rw [e3,e1];exact fT
  ·have e1:c8 (l.take (k+1)) a o=c8 (l.take k) a o:=by unfold c8;rw [et,List.filter_append];simp [hi]
   have e2:(l.take (k+1)).any (qU a o)=true:=by rw [et,List.any_append];simp [hi]
   obtain ⟨h1,h2⟩:=gD.1 hi;repeat' (first|refine Wz ?_|refine SW.st (ao hw rfl (hl.dv bY rfl)) rfl ?_)
   refine ae.again (k+1,B,c') ⟨rfl,rfl,rfl,by simp only;rw [e1];rfl,by simp only;rw [e2];rfl,rfl,trivial⟩ (by simp only;omega) ⟨by simp only;omega,hw,?_⟩;simp only;rw [e1];exact hO
 ·refine Wz ?_;have et:l.take k=l:=List.take_of_length_le (by omega)
  rw [et] at hO;refine ae.cu rfl rfl rfl ⟨_,rfl,hw,B,c',?_,hO⟩;rw [et]
def B6 (l:List Block) (a:Int) : Nat:=l.findIdx fun b=>decide (a<b.At)
theorem B7 {l:List Block} {a:Int} (h:∀ x∈l,x.At≠a) : B6 l a=bE l a:=by
 unfold B6 bE
 have:∀ q:List Block,(∀ x∈q,x.At≠a)→q.findIdx (fun b=>decide (a<b.At))=q.findIdx (fun b=>decide (a≤b.At)):=by
  intro q;induction q with
  | nil=>intro _;rfl
  | cons x r ih =>
    intro hq;have h1:=hq x (by simp);have h2:=ih (fun y hy=>hq y (by simp [hy]));simp only [List.findIdx_cons,h2];by_cases e:a<x.At
    ·rw [decide_eq_true e,decide_eq_true (by omega)]
    ·rw [decide_eq_false e,decide_eq_false (by omega)]
 exact this l h
open Go.RowKit
set_option maxHeartbeats 4000000 in
theorem kQ (A:Option Addr) (n c:Nat) (l:List Block) (x:Block) (w:World) (hl:Sl w 3 az A n l) (hn:(n+1)*24≤140737488355328) :
 bt Tryz.prog 57 [.slice A n c,.agg (az x).toArray] w fun v w' => ∃ B c',v = .slice B (n+1) c'∧Own w' w.heap.size 77 3 az B (n+1) c' (aV l (B6 l x.At) x):=by
 refine aL Tryz.func57 rfl Tryz.ntmps57 rfl ?_;refine CW.seq (CW.region (SW.box rfl rfl fun b3 w1 hw bK ar => ?_));have cn:=bK;have G6:∀ m,m≤n→(m+1)*24≤140737488355328:=fun m h=>Nat.le_trans (Nat.mul_le_mul_right 24 (Nat.succ_le_succ h)) hn
 clear hn;have hn:n≤1000000000000000000:=by have:=G6 n (Nat.le_refl _);omega
 have hA:=hl.base;have ma:=hl.len;obtain ⟨g,Ae⟩ : ∃ g,B6 l x.At=g:=⟨_,rfl⟩;have Ag:g≤l.length:=by rw [← Ae];exact List.findIdx_le_length
 have JE:∀ h:g<l.length,x.At<l[g].At:=fun h=>by
  subst Ae;have:=List.findIdx_getElem (w:=h)
  exact of_decide_eq_true this
 have tH:∀ (j:Nat) (h:j<g),(l[j]'(by omega)).At≤x.At:=fun j h=>by
  subst Ae;have:=List.not_of_lt_findIdx h
  simpa using this
 rw [Ae];clear Ae;refine Wz ?_
 refine CW.loop (fun s:Nat×Option Addr×Nat=>[(0,.slice A n c),(3,.pointer (some ⟨b3,0,none⟩)),(5,.slice s.2.1 (if g<s.1 then s.1+1 else s.1) s.2.2),(6,.bool (decide (g<s.1))),(7,.int .i64 (s.1:Int))])
  (fun s w'=>s.1≤n∧Ext w w'∧aJ w' b3 77 (az x)∧Own w' (b3+1) 77 3 az s.2.1 (if g<s.1 then s.1+1 else s.1) s.2.2 (if g<s.1 then aV (l.take s.1) (g) x else l.take s.1)) (fun s=>n-s.1) (0,none,0)
  ⟨rfl,rfl,rfl,rfl,rfl,trivial⟩ ⟨by omega,hw,ar,by simpa using Own.eR _ _ _ _ _ _⟩ ?_
 clear hw ar;rintro ⟨k,B,c'⟩ w' ⟨hk,hw,ar,hO⟩
 simp only at hk hO ⊢;have fC:b3+1≤w'.heap.size:=ar.lt
 by_cases bY:k<n
 ·have de:=hl.lt bY;have et:=List.take_succ_eq_append_getElem de;by_cases hd:g<k
  ·rw [if_pos hd,if_pos hd] at hO;rw [if_pos hd,decide_eq_true hd];repeat' (first|refine Wz ?_|((apply CW.aO mixed;(· kernel_rfl);rotate_left;intro w1 ab;replace hw:=Ext.trans hw ab;replace ar:=ar.ext ab;replace hO:=hO.ext ab;clear ab;rotate_right))|refine SW.skip rfl rfl rfl rfl ?_|refine SW.st (aH hw rfl rfl ((hl.all bY))) rfl ?_|exact SW.bx rfl)
   refine SW.bJ rfl rfl rfl rfl rfl fun b w1 aj hb hB => ?_
   (replace hw:=Ext.trans hw aj;replace ar:=ar.ext aj;replace hO:=hO.ext aj);refine SW.append hO (aJ.mb (enc:=az) hB) (by have:=ar.lt;omega) rfl rfl rfl (G6 _ (by omega)) (by omega) fun A2 c2 w2 fT pA => ?_
   replace hw:=aE hw pA (Nat.le_trans cn (Nat.le_succ _)) hO.aM;replace ar:=ar.grown pA (fun e=>by have:=hO.aM b3 e.symm;omega);refine Wz ?_;refine ae.again (k+1,A2,c2) ⟨rfl,rfl,by simp only;rw [if_pos (show g<k+1 by omega)];rfl,by simp only;rw [decide_eq_true (show g<k+1 by omega)];rfl,rfl,trivial⟩ (by simp only;omega) ⟨by simp only;omega,hw,ar,?_⟩;simp only;rw [if_pos (by omega),if_pos (by omega)]
   have e:aV (l.take (k+1)) (g) x=aV (l.take k) (g) x++[l[k]]:=by
    unfold aV;rw [et,List.take_append_of_le_length (by simp;omega),List.drop_append_of_le_length (by simp;omega)];simp only [List.append_assoc]
   rw [e];exact fT
  ·rw [if_neg hd,if_neg hd] at hO;rw [if_neg hd,decide_eq_false hd];by_cases xK:g=k
   ·have Ls:x.At<l[k].At:=by subst xK;exact JE de
    repeat' (first|refine Wz ?_|((apply CW.aO mixed;(· kernel_rfl);rotate_left;intro w1 ab;replace hw:=Ext.trans hw ab;replace ar:=ar.ext ab;replace hO:=hO.ext ab;clear ab;rotate_right))|refine SW.want rfl rfl ?_|refine SW.st (ao hw rfl (hl.dv bY rfl)) rfl ?_|exact SW.bx rfl)
    refine SW.bJ rfl rfl rfl rfl rfl fun b w1 aj hb hB => ?_
    (replace hw:=Ext.trans hw aj;replace ar:=ar.ext aj;replace hO:=hO.ext aj);refine SW.append hO (aJ.mb (enc:=az) hB) (by have:=ar.lt;omega) rfl rfl rfl (G6 _ (by omega)) (by omega) fun A2 c2 w2 fT pA => ?_
    replace hw:=aE hw pA (Nat.le_trans cn (Nat.le_succ _)) hO.aM;replace ar:=ar.grown pA (fun e=>by have:=hO.aM b3 e.symm;omega);repeat' (first|refine Wz ?_|refine SW.st (aH hw rfl rfl ((hl.all bY))) rfl ?_)
    refine SW.bJ rfl rfl rfl rfl rfl fun b w1 aj hb hB => ?_
    (replace hw:=Ext.trans hw aj;replace ar:=ar.ext aj;replace fT:=fT.ext aj);refine SW.append fT (aJ.mb (enc:=az) hB) (by have:=ar.lt;omega) rfl rfl rfl (G6 _ (by omega)) (by omega) fun A3 c3 w3 gx pA => ?_
    replace hw:=aE hw pA (Nat.le_trans cn (Nat.le_succ _)) fT.aM;replace ar:=ar.grown pA (fun e=>by have:=fT.aM b3 e.symm;omega);refine Wz ?_;refine ae.again (k+1,A3,c3) ⟨rfl,rfl,by simp only;rw [if_pos (show g<k+1 by omega)];rfl,by simp only;rw [decide_eq_true (show g<k+1 by omega)];rfl,rfl,trivial⟩ (by simp only;omega) ⟨by simp only;omega,hw,ar,?_⟩;simp only;rw [if_pos (by omega),if_pos (by omega)]
    have e:aV (l.take (k+1)) (g) x=l.take k++[x]++[l[k]]:=by
     unfold aV;rw [xK,et,List.take_append_of_le_length (by simp;omega),List.drop_append_of_le_length (by simp;omega),List.take_of_length_le (by simp;omega),List.drop_eq_nil_of_le (by simp;omega)];simp
    rw [e];exact gx
   ·have hle:l[k].At≤x.At:=tH k (by omega)
    repeat' (first|refine Wz ?_|((apply CW.aO mixed;(· kernel_rfl);rotate_left;intro w1 ab;replace hw:=Ext.trans hw ab;replace ar:=ar.ext ab;replace hO:=hO.ext ab;clear ab;rotate_right))|refine SW.want rfl rfl ?_|refine SW.st (aH hw rfl rfl ((hl.all bY))) rfl ?_|refine SW.st (ao hw rfl (hl.dv bY rfl)) rfl ?_|exact SW.bx rfl)
    refine SW.bJ rfl rfl rfl rfl rfl fun b w1 aj hb hB => ?_
    (replace hw:=Ext.trans hw aj;replace ar:=ar.ext aj;replace hO:=hO.ext aj);refine SW.append hO (aJ.mb (enc:=az) hB) (by have:=ar.lt;omega) rfl rfl rfl (G6 _ (by omega)) (by omega) fun A2 c2 w2 fT pA => ?_
    replace hw:=aE hw pA (Nat.le_trans cn (Nat.le_succ _)) hO.aM;replace ar:=ar.grown pA (fun e=>by have:=hO.aM b3 e.symm;omega);refine Wz ?_;refine ae.again (k+1,A2,c2) ⟨rfl,rfl,by simp only;rw [if_neg (show ¬ g<k+1 by omega)];rfl,by simp only;rw [decide_eq_false (show ¬ g<k+1 by omega)];rfl,rfl,trivial⟩ (by simp only;omega) ⟨by simp only;omega,hw,ar,?_⟩;simp only;rw [if_neg (by omega),if_neg (by omega),et];exact fT
 ·obtain rfl:k=n:=by omega
  rw [List.take_of_length_le (by omega)] at hO;by_cases hd:g<k
  ·rw [if_pos hd,if_pos hd] at hO;rw [if_pos hd,decide_eq_true hd];repeat' (first|refine Wz ?_|(refine CW.bA rfl ?_))
   exact ae.aN rfl rfl ⟨_,rfl,hw,_,_,rfl,hO.low (by omega)⟩
  ·rw [if_neg hd,if_neg hd] at hO;rw [if_neg hd,decide_eq_false hd];repeat' (first|refine Wz ?_|(refine CW.bF rfl ?_))
   refine SW.bJ rfl rfl rfl rfl rfl fun b w1 aj hb hB => ?_
   (replace hw:=Ext.trans hw aj;replace ar:=ar.ext aj;replace hO:=hO.ext aj);refine SW.append hO (aJ.mb (enc:=az) hB) (by have:=ar.lt;omega) rfl rfl rfl (G6 _ (by omega)) (by omega) fun A2 c2 w2 fT pA => ?_
   replace hw:=aE hw pA (Nat.le_trans cn (Nat.le_succ _)) hO.aM;refine Wz ?_;refine ae.aN rfl rfl ⟨_,rfl,hw,_,_,rfl,?_⟩
   have e:aV l (g) x=l++[x]:=by
    unfold aV;rw [List.take_of_length_le (by omega),List.drop_eq_nil_of_le (by omega)];simp
   rw [e];exact fT.low (by omega)
theorem Ah (a o:Int) (b9:Nat) (x:Block) (w:World) (h9:aJ w b9 77 (az ⟨a,o,0⟩)) (ho : 0≤o∧o≤4) (ha : 0≤a∧a≤256) (hx : 0≤x.At∧x.At≤256) (hy : 0≤x.Order∧x.Order≤4) :
 bt Tryz.prog 143 ([.agg (az x).toArray]++[.pointer (some ⟨b9,0,none⟩)]) w fun v _=>v = .bool (decide (x.At<a+pw o) && decide (a<x.At+pw x.Order)):=by
 refine aL Tryz.func143 rfl Tryz.ntmps143 rfl ?_;refine CW.seq (CW.region (SW.box rfl rfl fun b2 w1 hw gQ aK => ?_));replace h9:=h9.ext hw;have c1:∀ w',bt Tryz.prog 94 [.agg (az ⟨a,o,0⟩).toArray] w' fun v _=>v = .int .i64 (a+pw o):=fun w'=>la ⟨a,o,0⟩ w' ho ha
 have c2:∀ w',bt Tryz.prog 94 [.agg (az x).toArray] w' fun v _=>v = .int .i64 (x.At+pw x.Order):=fun w'=>la x w' hy hx
 by_cases h1:x.At<a+pw o
 ·repeat' (first|refine Wz ?_|((apply CW.aO mixed;(· kernel_rfl);rotate_left;intro w1 ab;replace hw:=Ext.trans hw ab;replace aK:=aK.ext ab;replace h9:=h9.ext ab;clear ab;rotate_right))|refine SW.bq rfl rfl (fun w1 ab=>(c1 _)) ?_|refine SW.bq rfl rfl (fun w1 ab=>(c2 _)) ?_|exact SW.bx rfl)
  exact ae.aN rfl rfl ⟨_,rfl,hw,by simp [h1]⟩
 ·repeat' (first|refine Wz ?_|((apply CW.aO mixed;(· kernel_rfl);rotate_left;intro w1 ab;replace hw:=Ext.trans hw ab;replace aK:=aK.ext ab;replace h9:=h9.ext ab;clear ab;rotate_right))|refine SW.bq rfl rfl (fun w1 ab=>(c1 _)) ?_|exact SW.bx rfl)
  exact ae.aN rfl rfl ⟨_,rfl,hw,by simp [h1]⟩
theorem lL (r:cq) (z:aq) (w:World) (hr:tN w r z) (hn:r.ag.n*24≤140737488355328) (hm:r.Types.n*8≤140737488355328) :
 bt Tryz.prog 22 [.agg (bo r).toArray] w fun v w' => ∃ s,v = .agg (bo s).toArray∧eV w' w.heap.size s z:=by
 refine aL Tryz.func22 rfl Tryz.ntmps22 rfl ?_;refine CW.seq (CW.region (SW.box rfl rfl fun b w1 hw hb hB => ?_));refine SW.alloc rfl fun b2 w2 cw gQ aK => ?_
 have pH:w.heap.size≤b2:=Nat.le_trans hw.size gQ
 (replace hw:=Ext.trans hw cw;replace hB:=hB.ext cw);refine Wz ?_;refine CW.any 10 mixed (cl (by kernel_rfl)) rfl fun w1 ab aG => ?_
 replace hw:=Ext.trans hw ab;replace hB:=hB.ext ab;replace aK:=aK.ext ab;clear ab;refine Wa ?_;refine SA.one 6 rfl (by kernel_rfl) rfl ?_;refine SW.call rfl rfl (lG _ _ _ _ _ (hr.free.ext hw) hn) fun v w4 aj hv => ?_
 obtain ⟨X,c4,rfl,hX⟩:=hv;replace hX:=hX.low hw.size;(replace hw:=Ext.trans hw aj;replace hB:=hB.ext aj;replace aK:=aK.ext aj);refine SW.nil (ae.sa aj ?_);refine SA.one 9 rfl (by kernel_rfl) rfl ?_;refine SW.call rfl rfl (gd _ _ _ _ _ (hr.types.ext hw) hm) fun v w4 aj hv => ?_
 obtain ⟨Y,d4,rfl,hY⟩:=hv;replace hY:=hY.low hw.size;(replace hw:=Ext.trans hw aj;replace hB:=hB.ext aj;replace aK:=aK.ext aj;replace hX:=hX.ext aj);refine SW.nil (ae.sa aj ?_);refine SA.done (by kernel_rfl) ?_;refine Wz ?_;refine SW.ap aK rfl rfl rfl rfl (ct ⟨r.aW,r.To,⟨X,r.ag.n,c4⟩,⟨Y,r.Types.n,d4⟩⟩) fun w7 bP hg => ?_
 have hG:=aK.gr hg;replace hw:=hw.own pH hg;(replace hX:=hX.ay hG rfl;replace hY:=hY.ay hG rfl);refine Wz ?_;exact ae.me rfl rfl bP rfl ⟨_,rfl,hw,⟨r.aW,r.To,⟨X,r.ag.n,c4⟩,⟨Y,r.Types.n,d4⟩⟩,rfl,⟨hr.from_,hr.jZ,hX,hY⟩⟩
theorem zD {z:aq} {a o:Int} (h:dZ z=false) : iJ z a o=(8,.zero):=by simp [iJ,h,aq.zero]
theorem zE {z:aq} {a o:Int} (h:dZ z=true) (hf : ¬ eU z.aW z.To a o) : iJ z a o=(1,.zero):=by simp [iJ,h,hf,aq.zero]
theorem zF {z:aq} {a o:Int} (h:dZ z=true) (hf:eU z.aW z.To a o) (ho:eX z.ag a o=true) : iJ z a o=(5,.zero):=by simp [iJ,h,hf,ho,aq.zero]
theorem vi {z:aq} {a o:Int} (h:dZ z=true) (hf:eU z.aW z.To a o) (ho:eX z.ag a o=false) {l:List Block} {a' o':Int} (hj:g7 5 z.ag a o=(l,a',o')) {t:Int} (ht:z.Types.getD ((a'-z.aW) / 8).toNat 0=t) :
 iJ z a o=(0,⟨z.aW,z.To,aV l (bE l a') ⟨a',o',t⟩,z.Types⟩):=by simp [iJ,h,hf,ho,hj,← ht]
theorem j3 {z:aq} (h:bR z) : z.ag.length≤256∧z.Types.length≤32:=by
 have hu:=ld h;have jc:=h.ok;unfold jt at jc
 have key:∀ (i:Nat) (hi:i<z.ag.length),(i:Int)≤(z.ag[i]).At:=by
  intro i;induction i with
  | zero =>
    intro hi;have:=(h.cU 0 hi).1
    unfold eU at this;omega
  | succ i ih =>
    intro hi;have h1:=ih (by omega);have h2:=fk hu hi (Nat.lt_succ_self i);have h3:=(h.cU i (by omega)).1;have:=bG h3.1 h3.2.1
    omega
 refine ⟨?_,by have:=h.len;omega⟩;rcases Nat.eq_zero_or_pos z.ag.length with h0|h0
 ·omega
 ·have h1:=key (z.ag.length-1) (by omega);have h2:=(h.cU (z.ag.length-1) (by omega)).1;unfold eU at h2;omega
open Go.RowKit
structure xZ (z:aq) (a o:Int) (f:Nat) (l:List Block) (a' o':Int) : Prop where
 ok:ve z.aW z.To l a' o'
 eq:g7 5 z.ag a o=g7 f l a' o'
 fuel : 5≤(f:Int)+o'
 len:l.length≤z.ag.length
theorem xZ.stop {z:aq} {a o:Int} {f:Nat} {l:List Block} {a' o':Int} (h:xZ z a o f l a' o') (ho : ¬ o'<4∨l.any (qU (beside a' o') o')=false) : g7 5 z.ag a o=(l,a',o'):=by
 rw [h.eq];cases f with
 | zero=>rfl
 | succ f =>
   simp only [g7];rcases ho with h1|h1
   ·rw [if_neg h1]
   ·simp [h1]
theorem xZ.next {z:aq} {a o:Int} {f:Nat} {l:List Block} {a' o':Int} (h:xZ z a o f l a' o') (h0 : 0≤z.aW) (ho:o'<4) (dS:l.any (qU (beside a' o') o')=true) : ∃ f',xZ z a o f' (c8 l (beside a' o') o') (min a' (beside a' o')) (o'+1):=by
 have hf:=h.fuel;obtain ⟨g,rfl⟩ : ∃ g,f=g+1:=⟨f-1,by omega⟩;refine ⟨g,h.ok.step h0 ho dS,?_,by omega,Nat.le_trans (List.length_filter_le _ _) h.len⟩;rw [h.eq];simp only [g7,if_pos ho,dS,if_true]
set_option maxHeartbeats 8000000 in
theorem uq (r:cq) (z:aq) (a o:Int) (w:World) (hr:tN w r z) (hf:(r.ag.n+1)*24≤140737488355328) (ht:r.Types.n*8≤140737488355328) (h1 : -9223372036854775808≤r.aW∧r.aW≤9223372036854775807) (h2 : -9223372036854775808≤r.To∧r.To≤9223372036854775807) :
 bt Tryz.prog 134 [.agg (bo r).toArray,.int .i64 a,.int .i64 o] w (rq w.heap.size (iJ z a o)):=by
 refine aL Tryz.func134 rfl Tryz.ntmps134 rfl ?_;refine CW.seq (CW.region (SW.box rfl rfl fun b3 w1 hw bK ar => ?_));refine SW.alloc rfl fun b6 w2 cw eW ax => ?_
 have di:w.heap.size≤b6:=Nat.le_trans hw.size eW
 have oT:b3≠b6:=by have:=ar.lt;omega
 (replace hw:=Ext.trans hw cw;replace ar:=ar.ext cw);have eF:=hr.from_;have eT:=hr.jZ;have BW:=hr.free.len;have G5:=hr.types.len;obtain ⟨q,hq⟩ : ∃ q,dZ z=q:=⟨_,rfl⟩
 have c1:∀ w',Ext w w'→bt Tryz.prog 59 [.agg (bo r).toArray] w' fun v _=>v = .int .i64 (if q then 0 else 8):=fun w' h=>by
  have:=j1 r z w' (hr.ext h) (by omega) (by omega) h1 h2
  rwa [hq] at this
 cases q
 ·simp only [Bool.false_eq_true,if_false] at c1;rw [zD hq];repeat' (first|refine Wz ?_|(refine SW.call rfl rfl (c1 _ hw) ?_;intro v w1 ab hv;subst hv;replace hw:=Ext.trans hw ab;replace ar:=ar.ext ab;replace ax:=ax.ext ab;clear ab))
  refine SW.ap ax rfl rfl rfl rfl (ct .zero) fun w5 bP hg => ?_
  replace hw:=hw.own di hg;refine Wz ?_;exact ae.fH rfl rfl rfl bP rfl ⟨_,rfl,hw,.zero,rfl,eV.zero _ _⟩
 ·simp only [if_true] at c1;have hz:=dC.1 hq;obtain ⟨o1,o2,o3,o4,o5⟩:=hz.ok;repeat' (first|refine Wz ?_|(refine SW.call rfl rfl (c1 _ hw) ?_;intro v w1 ab hv;subst hv;replace hw:=Ext.trans hw ab;replace ar:=ar.ext ab;replace ax:=ax.ext ab;clear ab))
  clear c1;refine SW.alloc rfl fun b9 w1 ab oa bk => ?_
  skip;refine SW.ap bk rfl rfl rfl rfl (fB.one (enc:=az) ⟨a,o,0⟩) fun w2 gg hg => ?_
  have aj:=ab.own oa hg;have qV:w.heap.size≤b9:=Nat.le_trans hw.size oa
  replace hw:=Ext.trans hw aj;replace ar:=ar.ext aj;replace ax:=ax.ext aj;replace bk:=gg;clear gg ab hg aj
  have cF:∀ w',bt Tryz.prog 93 [.agg (bo r).toArray,.agg (az ⟨a,o,0⟩).toArray] w' fun v _=>v = .bool (decide (eU z.aW z.To a o)):=fun w'=>by
   have:=nk r ⟨a,o,0⟩ w' (by omega)
   rwa [eF,eT] at this
  by_cases iP:eU z.aW z.To a o
  ·rw [decide_eq_true iP] at cF;obtain ⟨f1,f2,f3,f4,f5⟩:=id iP
   have cC:∀ w',Ext w w'→aJ w' b9 77 (az ⟨a,o,0⟩)→bt Tryz.prog 142 [.slice r.ag.A r.ag.n r.ag.c,.func (.func 143) #[] [.pointer (some ⟨b9,0,none⟩)].toArray] w' fun v _=>v = .bool (eX z.ag a o):=fun w' hx h9 =>
    mm _ _ _ _ _ (hr.free.ext hx) _ [.pointer (some ⟨b9,0,none⟩)] (fun x=>decide (x.At<a+pw o) && decide (a<x.At+pw x.Order)) (fun x => .agg (az x).toArray) (fun x=>rfl)
     (fun x MD w1 kz=>by
       obtain ⟨i,hi,rfl⟩:=List.getElem_of_mem MD;obtain ⟨g1,g2,g3,g4,g5⟩:=(hz.cU i hi).1;exact Ah a o b9 _ w1 (h9.ext kz) ⟨f1,f2⟩ ⟨by omega,by omega⟩ ⟨by omega,by omega⟩ ⟨g1,g2⟩) (by omega)
   cases wx:eX z.ag a o
   ·rw [wx] at cC;have FR:=rW (f:=0) (t:=0) hz iP wx;repeat' (first|refine Wz ?_|(refine CW.bA rfl ?_)|((first|refine SW.call rfl rfl (cF _) ?_|refine SW.call rfl rfl (cC _ hw bk) ?_);intro v w1 ab hv;subst hv;replace hw:=Ext.trans hw ab;replace ar:=ar.ext ab;replace ax:=ax.ext ab;replace bk:=bk.ext ab;clear ab)|(refine SW.st (iv (vs:=[.pointer (some ⟨b9,0,none⟩)]) rfl) rfl ?_))
    have HH:b9+1≤_:=bk.lt
    refine SW.call rfl rfl (pG r z _ (hr.ext hw) (by omega) ht) fun v w4 iG hv => ?_
    obtain ⟨s,rfl,hs,e1,e2⟩:=hv;replace hs:=hs.low HH;(replace hw:=Ext.trans hw iG;replace ar:=ar.ext iG;replace ax:=ax.ext iG;replace bk:=bk.ext iG);clear HH cC cF;skip;refine SW.ap ar rfl rfl rfl rfl (ct s) fun w5 cS hg => ?_
    have hG:=ar.gr hg;replace hw:=hw.own bK hg;(replace bk:=bk.ay hG rfl);have hX:=hs.free.ay hG rfl;have hT:=hs.types.ay hG rfl;replace ax:=ax.grown hg (by simpa using oT.symm);replace ar:=cS;have es:s.ag.n=z.ag.length:=by rw [e1,BW]
    have JN:s=⟨s.aW,s.To,⟨s.ag.A,z.ag.length,s.ag.c⟩,s.Types⟩:=by rw [← es]
    have sF:=hs.from_;have sT:=hs.jZ;rw [es] at hX;rw [JN] at ar;clear cS hg hG hs;refine Wz ?_
    obtain ⟨K,hK⟩ : ∃ K:Env→World→Prop,K=fun L' w' => ∃ l a' o' A c,ev L' [(3,.pointer (some ⟨b3,0,none⟩)),(6,.pointer (some ⟨b6,0,none⟩)),(9,.pointer (some ⟨b9,0,none⟩))]∧Ext w w'∧aJ w' b3 59 [.int .i64 s.aW,.int .i64 s.To,.slice A l.length c,.slice s.Types.A s.Types.n s.Types.c]∧aJ w' b6 59 (bo .zero)∧aJ w' b9 77 [.int .i64 a',.int .i64 o',.int .i64 0] ∧
     Own w' (b9+1) 77 3 az A l.length c l∧Own w' (b9+1) 3 1 bh s.Types.A s.Types.n s.Types.c z.Types∧ve z.aW z.To l a' o'∧g7 5 z.ag a o=(l,a',o')∧l.length≤z.ag.length:=⟨_,rfl⟩
    refine CW.wq K ?_ ?_
    ·refine CW.loop (fun u:Nat×List Block×Int×Int×Option Addr×Nat=>[(3,.pointer (some ⟨b3,0,none⟩)),(6,.pointer (some ⟨b6,0,none⟩)),(9,.pointer (some ⟨b9,0,none⟩))])
      (fun u w'=>Ext w w'∧aJ w' b3 59 [.int .i64 s.aW,.int .i64 s.To,.slice u.2.2.2.2.1 u.2.1.length u.2.2.2.2.2,.slice s.Types.A s.Types.n s.Types.c]∧aJ w' b6 59 (bo .zero)∧aJ w' b9 77 [.int .i64 u.2.2.1,.int .i64 u.2.2.2.1,.int .i64 0] ∧
        Own w' (b9+1) 77 3 az u.2.2.2.2.1 u.2.1.length u.2.2.2.2.2 u.2.1∧Own w' (b9+1) 3 1 bh s.Types.A s.Types.n s.Types.c z.Types∧xZ z a o u.1 u.2.1 u.2.2.1 u.2.2.2.1) (fun u=>(5-u.2.2.2.1).toNat) (5,z.ag,a,o,s.ag.A,s.ag.c)
      ⟨rfl,rfl,rfl,trivial⟩ ⟨hw,ar,ax,bk,hX,hT,⟨FR,rfl,by simp only;omega,Nat.le_refl _⟩⟩ ?_
     clear hw ar ax bk hX hT FR;rintro ⟨f,l,a',o',A,c⟩ w' ⟨hw,ar,ax,bk,hX,hT,hJ⟩
     simp only at ar bk hX hJ ⊢;obtain ⟨k1,k2,k3,k4,k5⟩:=hJ.ok.fit;have hlen:=hJ.len;have hp:=bG k1 k2;by_cases Bz:o'<4
     ·obtain ⟨m1,m2,m3⟩:=n8 (by omega) k1 Bz k5;generalize oc:beside a' o'=mn at m1 m2 m3
      have D0:=Ac hJ.ok.nD hJ.ok.cU mn o'
      have cD:∀ w1,Ext w' w1→bt Tryz.prog 141 [.agg (bo ⟨s.aW,s.To,⟨A,l.length,c⟩,s.Types⟩).toArray,.int .i64 mn] w1 fun v _=>v = .tuple #[.int .i64 (bE l mn:Int),.bool (cc l mn)]:=fun w1 hx =>
       pN ⟨s.aW,s.To,⟨A,l.length,c⟩,s.Types⟩ l z.aW z.To mn w1 (hX.sl.ext hx) hJ.ok.nD hJ.ok.cU o1 (by omega) (by simp only;omega) ⟨by omega,by omega⟩
      by_cases rZ:bE l mn<l.length∧(∀ h:bE l mn<l.length,(l[bE l mn]).At=mn∧(l[bE l mn]).Order=o')
      ·obtain ⟨rZ,hh⟩:=rZ;obtain ⟨ur,qW⟩:=hh rZ;have FT:cc l mn=true:=by unfold cc;rw [dif_pos rZ];exact decide_eq_true ur
       have FU:pK l mn o'=true:=by unfold pK;rw [dif_pos rZ];exact decide_eq_true ⟨ur,qW⟩
       rw [FU] at D0;rw [FT] at cD;have G7:=nQ hJ.ok.nD hJ.ok.cU rZ ur qW;have hA:=hX.sl.base;generalize Ag:bE l mn=lb at *
       have G8:∀ x,x=beside a' o'→x=mn:=fun x e=>e.trans oc
       refine Wz ?_;(apply CW.aO mixed;(· kernel_rfl);rotate_left;intro w1 ab;replace hw:=Ext.trans hw ab;replace ar:=ar.ext ab;replace ax:=ax.ext ab;replace bk:=bk.ext ab;replace hX:=hX.ext ab;replace hT:=hT.ext ab;clear ab;rotate_right);repeat' (first|refine Wz ?_|refine SW.bq rfl rfl (fun w1 ab=>(cD _ ab)) ?_|(refine SW.st (fD (r:=pw o') rfl rfl (by omega) (by omega) (by simp [pw]) (by omega) (by omega)) rfl ?_)|(refine SW.st ((jR a' o' rfl rfl rfl rfl ⟨by omega,by omega,k1,Bz,k5⟩).eq (congrArg (Value.int .i64) oc)) rfl ?_)|exact SW.bx rfl)
       (apply CW.aO mixed;(· kernel_rfl);rotate_left;intro w1 ab;replace hw:=Ext.trans hw ab;replace ar:=ar.ext ab;replace ax:=ax.ext ab;replace bk:=bk.ext ab;replace hX:=hX.ext ab;replace hT:=hT.ext ab;clear ab;rotate_right);repeat' (first|refine Wz ?_|refine SW.want rfl rfl ?_|refine SW.st (ak rfl (hX.sl.dv rZ rfl)) rfl ?_|exact SW.bx rfl)
       refine CW.any 8 mixed (cl (by kernel_rfl)) rfl fun w1 ab aG => ?_
       replace hw:=Ext.trans hw ab;replace ar:=ar.ext ab;replace ax:=ax.ext ab;replace bk:=bk.ext ab;replace hX:=hX.ext ab;replace hT:=hT.ext ab;clear ab;refine Wa ?_;refine SA.take 7 aG rfl (by kernel_rfl) (by kernel_rfl) rfl ?_;repeat ((show SW _ _ _ _ (⟨_,Op.load _ _,_,_,_,none⟩::_) _ _;refine SW.st (ak rfl (hX.sl.dv rZ rfl)) rfl ?_))
       refine SW.ah ?_;refine SA.done (by kernel_rfl) ?_;repeat' (first|refine Wz ?_|(refine SW.st (FG rfl rfl) rfl ?_))
       refine SW.bB (i:=0) bk rfl rfl rfl rfl fun w5 gg hg => ?_
       have hG:=bk.gr hg;replace hw:=hw.own qV hg;replace hX:=hX.grown hg (.inr (fun e=>by have:=hX.aM _ e;omega));(replace ar:=ar.ay hG rfl;replace ax:=ax.ay hG rfl;replace hT:=hT.ay hG rfl);replace bk:=gg;clear gg hg hG;refine Wz ?_;refine SW.bB (i:=1) bk rfl rfl rfl rfl fun w5 gg hg => ?_
       have hG:=bk.gr hg;replace hw:=hw.own qV hg;replace hX:=hX.grown hg (.inr (fun e=>by have:=hX.aM _ e;omega));(replace ar:=ar.ay hG rfl;replace ax:=ax.ay hG rfl;replace hT:=hT.ay hG rfl);replace bk:=gg;clear gg hg hG;refine Wz ?_;refine SW.cV rfl rfl (mf A l.length c _ l _ hX lb rZ (by omega) (by have:=bk.lt;omega)) fun v w6 hv => ?_
       obtain ⟨rfl,tA,hg⟩:=hv;have hG:=hX.gr hg;replace hw:=aE hw hg (Nat.le_trans qV (Nat.le_succ _)) hX.aM;replace bk:=bk.grown hg (fun e=>by have:=hX.aM _ e.symm;omega);(replace ar:=ar.ay hG rfl;replace ax:=ax.ay hG rfl;replace hT:=hT.ay hG rfl);clear hg hG;have wy:l.length-1=(l.eraseIdx lb).length:=by rw [List.length_eraseIdx_of_lt rZ]
       rw [wy] at tA;rw [wy];refine Wz ?_;refine SW.bB (i:=2) ar rfl rfl rfl rfl fun w7 cS hg => ?_
       have hG:=ar.gr hg;replace hw:=hw.own bK hg;replace ax:=ax.grown hg (by simpa using oT.symm);(replace bk:=bk.ay hG rfl;replace tA:=tA.ay hG rfl;replace hT:=hT.ay hG rfl);refine Wz ?_;obtain ⟨f',tB⟩:=hJ.next o1 Bz (by rw [oc];exact D0)
       rw [oc,← G7] at tB;refine ae.again (f',l.eraseIdx lb,min a' mn,o'+1,A,c) ⟨rfl,rfl,rfl,trivial⟩ (by simp only;omega) ⟨hw,cS,ax,?_,tA,hT,tB⟩;rw [ur] at bk;exact bk
      ·have FU:pK l mn o'=false:=by
        unfold pK;by_cases h:bE l mn<l.length
        ·rw [dif_pos h];exact decide_eq_false (fun hh=>rZ ⟨h,fun _=>hh⟩)
        ·rw [dif_neg h]
       rw [FU] at D0;have rn:=hJ.stop (.inr (by rw [oc];exact D0))
       have JO:∀ w1,Ext w w1→aJ w1 b3 59 [.int .i64 s.aW,.int .i64 s.To,.slice A l.length c,.slice s.Types.A s.Types.n s.Types.c]→aJ w1 b6 59 (bo .zero)→aJ w1 b9 77 [.int .i64 a',.int .i64 o',.int .i64 0]→Own w1 (b9+1) 77 3 az A l.length c l→Own w1 (b9+1) 3 1 bh s.Types.A s.Types.n s.Types.c z.Types → ∀ L',ev L' [(3,.pointer (some ⟨b3,0,none⟩)),(6,.pointer (some ⟨b6,0,none⟩)),(9,.pointer (some ⟨b9,0,none⟩))]→K L' w1:=fun w1 x1 x2 x3 x4 x5 x6 L' x7=>by
        rw [hK];exact ⟨l,a',o',A,c,x7,x1,x2,x3,x4,x5,x6,hJ.ok,rn,hJ.len⟩
       by_cases wy:bE l mn<l.length
       ·have hA:=hX.sl.base;by_cases ur:(l[bE l mn]).At=mn
        ·have qW : ¬ (l[bE l mn]).Order=o':=fun h=>rZ ⟨wy,fun _=>⟨ur,h⟩⟩
         have FT:cc l mn=true:=by unfold cc;rw [dif_pos wy];exact decide_eq_true ur
         rw [FT] at cD;generalize Ag:bE l mn=lb at *
         repeat' (first|refine Wz ?_|((apply CW.aO mixed;(· kernel_rfl);rotate_left;intro w1 ab;replace hw:=Ext.trans hw ab;replace ar:=ar.ext ab;replace ax:=ax.ext ab;replace bk:=bk.ext ab;replace hX:=hX.ext ab;replace hT:=hT.ext ab;clear ab;rotate_right))|refine SW.want rfl rfl ?_|refine SW.st (ak rfl (hX.sl.dv wy rfl)) rfl ?_|refine SW.bq rfl rfl (fun w1 ab=>(cD _ ab)) ?_|(refine SW.st (fD (r:=pw o') rfl rfl (by omega) (by omega) (by simp [pw]) (by omega) (by omega)) rfl ?_)|(refine SW.st ((jR a' o' rfl rfl rfl rfl ⟨by omega,by omega,k1,Bz,k5⟩).eq (congrArg (Value.int .i64) oc)) rfl ?_)|exact SW.bx rfl)
         exact ae.kq (K:=K) (JO _ hw ar ax bk hX hT _ ⟨rfl,rfl,rfl,trivial⟩)
        ·have FT:cc l mn=false:=by unfold cc;rw [dif_pos wy];exact decide_eq_false ur
         rw [FT] at cD;generalize Ag:bE l mn=lb at *
         repeat' (first|refine Wz ?_|((apply CW.aO mixed;(· kernel_rfl);rotate_left;intro w1 ab;replace hw:=Ext.trans hw ab;replace ar:=ar.ext ab;replace ax:=ax.ext ab;replace bk:=bk.ext ab;replace hX:=hX.ext ab;replace hT:=hT.ext ab;clear ab;rotate_right))|refine SW.skip rfl rfl rfl rfl ?_|refine SW.bq rfl rfl (fun w1 ab=>(cD _ ab)) ?_|(refine SW.st (fD (r:=pw o') rfl rfl (by omega) (by omega) (by simp [pw]) (by omega) (by omega)) rfl ?_)|(refine SW.st ((jR a' o' rfl rfl rfl rfl ⟨by omega,by omega,k1,Bz,k5⟩).eq (congrArg (Value.int .i64) oc)) rfl ?_)|exact SW.bx rfl)
         exact ae.kq (K:=K) (JO _ hw ar ax bk hX hT _ ⟨rfl,rfl,rfl,trivial⟩)
       ·have FT:cc l mn=false:=by unfold cc;rw [dif_neg wy]
        rw [FT] at cD;generalize Ag:bE l mn=lb at *
        repeat' (first|refine Wz ?_|((apply CW.aO mixed;(· kernel_rfl);rotate_left;intro w1 ab;replace hw:=Ext.trans hw ab;replace ar:=ar.ext ab;replace ax:=ax.ext ab;replace bk:=bk.ext ab;replace hX:=hX.ext ab;replace hT:=hT.ext ab;clear ab;rotate_right))|refine SW.skip rfl rfl rfl rfl ?_|refine SW.bq rfl rfl (fun w1 ab=>(cD _ ab)) ?_|(refine SW.st (fD (r:=pw o') rfl rfl (by omega) (by omega) (by simp [pw]) (by omega) (by omega)) rfl ?_)|(refine SW.st ((jR a' o' rfl rfl rfl rfl ⟨by omega,by omega,k1,Bz,k5⟩).eq (congrArg (Value.int .i64) oc)) rfl ?_)|exact SW.bx rfl)
        exact ae.kq (K:=K) (JO _ hw ar ax bk hX hT _ ⟨rfl,rfl,rfl,trivial⟩)
     ·refine Wz ?_;exact ae.kq (K:=K) (by rw [hK];exact ⟨l,a',o',A,c,⟨rfl,rfl,rfl,trivial⟩,hw,ar,ax,bk,hX,hT,hJ.ok,hJ.stop (.inl Bz),hJ.len⟩)
    ·clear hw ar ax bk hX hT FR;subst hK;rintro L' w' ⟨l,a',o',A,c,fq,hw,ar,ax,bk,hX,hT,hJ,B8,hlen⟩
     refine ae.sub fq ?_;obtain ⟨k1,k2,k3,k4,k5⟩:=hJ.fit;obtain ⟨k,hk,de⟩:=zu hz k3 k4;have bY:k<s.Types.n:=by omega
     have JP:=vi hq iP wx B8 (t:=z.Types[k]) (by rw [hk];simp [List.getD_eq_getElem?_getD,List.getElem?_eq_getElem de]);rw [JP];have JQ:l.length≤1000000000000000000:=by omega
     have hA:=hT.sl.base;have Ol:s.aW=z.aW:=sF
     repeat' (first|refine Wz ?_|refine SW.st (aY (k) rfl rfl (by assumption) (by omega) (by omega)) rfl ?_|refine SW.st (ak rfl (hT.sl.one bY rfl)) rfl ?_)
     refine SW.bB (i:=2) bk rfl rfl rfl rfl fun w5 gg hg => ?_
     have hG:=bk.gr hg;replace hw:=hw.own qV hg;replace hX:=hX.grown hg (.inr (fun e=>by have:=hX.aM _ e;omega));(replace ar:=ar.ay hG rfl;replace ax:=ax.ay hG rfl;replace hT:=hT.ay hG rfl);replace bk:=gg;clear gg hg hG;repeat' (first|refine Wz ?_|(refine SW.call rfl rfl (pN ⟨s.aW,s.To,⟨A,l.length,c⟩,s.Types⟩ l z.aW z.To a' _ hX.sl hJ.nD hJ.cU o1 (by omega) JQ ⟨by omega,by omega⟩) ?_;intro v w1 ab hv;subst hv;replace hw:=Ext.trans hw ab;replace ar:=ar.ext ab;replace ax:=ax.ext ab;replace bk:=bk.ext ab;replace hX:=hX.ext ab;replace hT:=hT.ext ab;clear ab))
     have c9:=hX.lt_size;refine SW.bJ rfl rfl rfl rfl rfl fun vb w6 aj HI ME => ?_
     (replace hw:=Ext.trans hw aj;replace ar:=ar.ext aj;replace ax:=ax.ext aj;replace bk:=bk.ext aj;replace hX:=hX.ext aj;replace hT:=hT.ext aj);skip;refine SW.cV rfl rfl (fu A l.length c _ l _ hX (bE l a') (zy l a') ⟨a',o',z.Types[k]⟩ vb ME (fun e=>by have:=c9 _ e;omega) (Nat.le_trans (Nat.mul_le_mul_right 24 (by omega)) hf) (by have:=bk.lt;omega)) fun v w7 hv => ?_
     obtain ⟨A2,c2,rfl,tA,hg⟩:=hv;have hG:=hX.gr hg;replace hw:=aE hw hg (Nat.le_trans qV (Nat.le_succ _)) hX.aM;replace bk:=bk.grown hg (fun e=>by have:=hX.aM _ e.symm;omega);(replace ar:=ar.ay hG rfl;replace ax:=ax.ay hG rfl;replace hT:=hT.ay hG rfl);clear hg hG;refine Wz ?_;refine SW.bB (i:=2) ar rfl rfl rfl rfl fun w8 cS hg => ?_
     have hG:=ar.gr hg;replace hw:=hw.own bK hg;replace ax:=ax.grown hg (by simpa using oT.symm);(replace bk:=bk.ay hG rfl;replace tA:=tA.ay hG rfl;replace hT:=hT.ay hG rfl);clear hg hG;refine Wz ?_;refine SW.ap ax rfl rfl rfl rfl (ct ⟨s.aW,s.To,⟨A2,l.length+1,c2⟩,s.Types⟩) fun w9 bP hg => ?_
     have hG:=ax.gr hg;replace hw:=hw.own di hg;(replace tA:=tA.ay hG rfl;replace hT:=hT.ay hG rfl);refine Wz ?_;exact ae.fH rfl rfl rfl bP rfl ⟨_,rfl,hw,⟨s.aW,s.To,⟨A2,l.length+1,c2⟩,s.Types⟩,rfl,sF,sT,tA.low (by omega),hT.low (by omega)⟩
   ·rw [wx] at cC;rw [zF hq iP wx];repeat' (first|refine Wz ?_|(refine CW.bA rfl ?_)|((first|refine SW.call rfl rfl (cF _) ?_|refine SW.call rfl rfl (cC _ hw bk) ?_);intro v w1 ab hv;subst hv;replace hw:=Ext.trans hw ab;replace ar:=ar.ext ab;replace ax:=ax.ext ab;replace bk:=bk.ext ab;clear ab)|(refine SW.st (iv (vs:=[.pointer (some ⟨b9,0,none⟩)]) rfl) rfl ?_))
    refine SW.ap ax rfl rfl rfl rfl (ct .zero) fun w5 bP hg => ?_
    replace hw:=hw.own di hg;refine Wz ?_;exact ae.fH rfl rfl rfl bP rfl ⟨_,rfl,hw,.zero,rfl,eV.zero _ _⟩
  ·rw [decide_eq_false iP] at cF;rw [zE hq iP];repeat' (first|refine Wz ?_|(refine CW.bF rfl ?_)|(refine SW.call rfl rfl (cF _) ?_;intro v w1 ab hv;subst hv;replace hw:=Ext.trans hw ab;replace ar:=ar.ext ab;replace ax:=ax.ext ab;replace bk:=bk.ext ab;clear ab))
   refine SW.ap ax rfl rfl rfl rfl (ct .zero) fun w5 bP hg => ?_
   replace hw:=hw.own di hg;refine Wz ?_;exact ae.fH rfl rfl rfl bP rfl ⟨_,rfl,hw,.zero,rfl,eV.zero _ _⟩
end Go.Proofs.YtjimadiidbkohaaGreatDoor
