/-
  Texts of the claim TopProcessors, part 23: what its theorem leans on.
-/
import Derived.Test.YtbidkghlpijecaaGreatDoorPackTopProcessors12
import Derived.Test.YtbidkghlpijecaaGreatDoorPackTopProcessors22
import Derived.Test.YtbidkghlpijecaaGreatDoorPackTopProcessors13
import Derived.Test.YtbidkghlpijecaaGreatDoorPackTopProcessors15
import Derived.Test.YtbidkghlpijecaaGreatDoorPackTopProcessors2
import Derived.Test.YtbidkghlpijecaaGreatDoorPackTopProcessors4
import Derived.Test.YtbidkghlpijecaaGreatDoorPackTopProcessors3
import Derived.Test.YtbidkghlpijecaaGreatDoorPackTopProcessors19
import Derived.Test.YtbidkghlpijecaaGreatDoorPackTopProcessors20
import Derived.Test.YtbidkghlpijecaaGreatDoorPackTopProcessors7
set_option linter.unusedVariables false
set_option linter.unusedSimpArgs false
namespace Go.Proofs.YtbidkghlpijecaaGreatDoor
open Go.RowKit
section
variable {P:Program} {L:Env} {w:World} {d:Option Nat} {T:TypeId} {pos:String} {af:Array Edge} {g:Option (Nat×Bool)}
def ML (a:Int) : Int:=((a.toNat &&& (a-1).toNat:Nat) : Int)
theorem uV {t ty:TypeId} {x y:Operand} {a:Int} (hx:cg L x=some (.int .i64 a)) (hy:cg L y=some (.int .i64 (a-1))) (h : 1≤a∧a≤8) : St P ⟨d,.binOp .and t x y ty,T,pos,af,g⟩ L w (.int .i64 (ML a)) :=
 Es a.toNat (a-1).toNat hx hy (by omega) (by omega) (by omega) (by omega)
end
theorem J4 {a:Int} (h : 1≤a∧a≤8) : ML a=0↔gR a:=by
 rcases (show a=1∨a=2∨a=3∨a=4∨a=5∨a=6∨a=7∨a=8 by omega) with rfl|rfl|rfl|rfl|rfl|rfl|rfl|rfl<;>unfold gR<;>decide
theorem BO {α:Type} {p : α → Bool} {l:List α} (h:l.any p=true) : ∃ (i:Nat) (hi:i<l.length),p l[i]=true∧(∀ (j:Nat) (hj:j<l.length),j<i→p l[j]=false)∧idxOf p l=(i:Int):=by
 have h1:l.findIdx p<l.length:=List.findIdx_lt_length_of_exists (by simpa using h)
 exact ⟨l.findIdx p,h1,List.findIdx_getElem (w:=h1),fun j hj jm=>by simpa using List.not_of_lt_findIdx jm,by unfold idxOf;rw [if_pos h]⟩
theorem Io {a b:gg} (h:apart a b∨apart b a) : aM b.A b.c=none∨aM b.A b.c≠aM a.A a.c:=by
 cases e:aM b.A b.c with
 | none=>exact .inl rfl
 | some g =>
   right;intro e2;rcases h with h|h
   ·exact h g e2.symm e
   ·exact h g e e2.symm
theorem uf.ne {x:gg} {cs:List dv} (h:uf x cs) {i j:Nat} (hi:i<cs.length) (hj:j<cs.length) (lz:j≠i) : jS cs[i] cs[j]∨jS cs[j] cs[i]:=by
 have hp:=List.pairwise_iff_getElem.1 h.pair;rcases Nat.lt_or_ge i j with g|g
 ·exact .inl (hp i j hi hj g)
 ·exact .inr (hp j i hj hi (by omega))
theorem F0 (x:dv) (b3:Nat) (z:Int) (w:World) (h3:aW w b3 3 [.int .i64 z]) :
 bq Tryz.prog 138 ([.agg (eA x).toArray]++[.pointer (some ⟨b3,0,none⟩)]) w fun v _=>v = .bool (decide (x.aE=z)):=by
 refine aG Tryz.func138 rfl Tryz.ntmps138 rfl ?_;refine CW.seq (CW.region (SW.box rfl rfl fun b1 w1 hw jh aI => ?_));replace h3:=h3.ext hw;have Kx:=h3.cell (i:=0) (v := .int .i64 z) rfl;rw [add_zero] at Kx;repeat' (first|refine Wz ?_|refine SW.st (aq rfl Kx) rfl ?_)
 exact ah.aY rfl rfl ⟨_,rfl,hw,rfl⟩
set_option maxHeartbeats 8000000 in
theorem Dw (r:eQ) (s:ag) (n:ByteArray) (size align:Int) (w:World) (hr:Ab w r s) (hf:s.dW) (Ng:n.size≤140737488351232) :
 bq Tryz.prog 58 [.agg (ba r).toArray,.string n,.int .i64 size,.int .i64 align] w fun v w' => ∃ u,nF s n size align u∧gE w.heap.size u v w':=by
 refine aG Tryz.func58 rfl Tryz.ntmps58 rfl ?_;have hs:=hf.small;refine CW.seq (CW.region (SW.box rfl rfl fun b4 w1 hw jF bd => ?_));have iN:=jF;refine SW.Gu rfl rfl rfl fun b6 w2 bF eu aA => ?_
 have dl:w.heap.size≤b6:=Nat.le_trans hw.size eu
 (replace hw:=Ext.trans hw bF;replace bd:=bd.ext bF);refine SW.alloc rfl fun b8 w3 jA zM bA => ?_
 have kn:w.heap.size≤b8:=Nat.le_trans hw.size zM
 have wv:b4≠b8:=by have:=bd.lt;omega
 (replace hw:=Ext.trans hw jA;replace bd:=bd.ext jA;replace aA:=aA.ext jA)
 have Fz:∀ (w':World) (z:Int),aW w' b6 3 [.int .i64 z]→w'.cell? ⟨b6,0,none⟩=some (.int .i64 z):=fun w' z h=>by
  have:=h.cell (i:=0) (v := .int .i64 z) rfl
  rwa [add_zero] at this
 obtain ⟨q,hq⟩ : ∃ q,en s=q:=⟨_,rfl⟩
 have c1:∀ w',Ext w w'→bq Tryz.prog 41 [.agg (ba r).toArray] w' fun v _=>v = .int .i64 (if q then 0 else 8):=fun w' hx=>by
  have:=kg r s w' (hr.ext hx) hf
  rwa [hq] at this
 cases q
 ·simp only [Bool.false_eq_true,if_false] at c1;repeat' (first|refine Wz ?_|(refine SW.call rfl rfl (c1 _ hw) ?_;intro v w1 ae hv;subst hv;replace hw:=Ext.trans hw ae;replace bd:=bd.ext ae;replace bA:=bA.ext ae;clear ae))
  refine SW.ak bA rfl rfl rfl rfl (bt .zero) fun w5 bU hg => ?_
  replace hw:=hw.own kn hg;refine Wz ?_;exact ah.cX rfl rfl rfl bU rfl ⟨_,rfl,hw,_,.bad hq,gE.zero 8 _ _⟩
 ·simp only [if_true] at c1;have hM:=ie.1 hq;obtain ⟨p,hp⟩ : ∃ p,fy n=p:=⟨_,rfl⟩
  have c2:∀ w',bq Tryz.prog 92 [.string n] w' fun v _=>v = .bool p:=fun w'=>by
   have:=AJ n w' Ng
   rwa [hp] at this
  obtain ⟨gv,OP⟩ : ∃ gv,ML align=gv:=⟨_,rfl⟩;have OO : 1≤align∧align≤8→(gv=0↔gR align):=fun h=>by rw [← OP];exact J4 h
  by_cases JV:p=true∧gR align
  ·obtain ⟨rfl,JV⟩:=JV;have Re:=JV;unfold gR at Re;have Ge:gv=0:=(OO (by omega)).2 JV
   have MM:fy n=true∧gR align:=⟨hp,JV⟩
   by_cases qO : 1≤size∧size≤64
   ·obtain ⟨t,ht⟩ : ∃ t,s.aa.any (gD n)=t:=⟨_,rfl⟩;obtain ⟨ix,uF⟩ : ∃ ix,idxOf (gD n) s.aa=ix:=⟨_,rfl⟩
    have c3:∀ w',Ext w w'→bq Tryz.prog 136 [.agg (ba r).toArray,.string n] w' fun v _=>v = .tuple #[.int .i64 ix,.bool t]:=fun w' hx=>by
     have:=x9 r s n w' (hr.ext hx) hs
     rwa [ht,uF] at this
    have hu:=Jz JV qO;have Rf:rA size align=(size+align-1) / align*align:=rfl
    rw [Rf] at hu;cases t
    ·repeat' (first|refine Wz ?_|(refine CW.di rfl ?_)|refine SW.want rfl rfl ?_|refine SW.st (aq rfl (Fz _ _ aA)) rfl ?_|((first|refine SW.call rfl rfl (c1 _ hw) ?_|refine SW.call rfl rfl (c2 _) ?_|refine SW.call rfl rfl (c3 _ hw) ?_);intro v w1 ae hv;subst hv;replace hw:=Ext.trans hw ae;replace bd:=bd.ext ae;replace aA:=aA.ext ae;replace bA:=bA.ext ae;clear ae)|(refine SW.st ((uV rfl rfl (by omega)).eq (congrArg (Value.int .i64) OP)) rfl ?_))
     all_goals try omega
     clear c1 c2 c3;refine SW.bz (i:=0) aA rfl rfl rfl rfl fun w5 dE hg => ?_
     have hG:=aA.gr hg;replace hw:=hw.own dl hg;(replace bd:=bd.aw hG rfl;replace bA:=bA.aw hG rfl);obtain ⟨z,hz⟩ : ∃ z,rA size align=z:=⟨_,rfl⟩;replace aA:aW w5 b6 3 [.int .i64 z]:=by rw [← hz,Rf];exact dE
     clear dE hg hG;have zy : 1≤z∧z≤64:=by rw [← hz,Rf];omega
     clear hu;refine Wz ?_;refine SW.call rfl rfl (C2 r s _ (hr.ext hw) hs) fun v w6 ap hv => ?_
     obtain ⟨q,zr,rfl,hO⟩:=hv;replace hO:=hO.low hw.size;(replace hw:=Ext.trans hw ap;replace bd:=bd.ext ap;replace aA:=aA.ext ap;replace bA:=bA.ext ap);obtain ⟨hX,hY,hC,tY⟩:=hO;skip;refine SW.ak bd rfl rfl rfl rfl (bt q) fun w7 dZ hg => ?_
     have hG:=bd.gr hg;replace hw:=hw.own iN hg;replace bA:=bA.grown hg (by simpa using fun e=>wv e.symm);(replace aA:=aA.aw hG rfl;replace hX:=hX.aw hG rfl;replace hY:=hY.aw hG rfl;replace hC:=hC.aw hG rfl);replace bd:=dZ;clear dZ hg hG;obtain ⟨z1,z2⟩:=hC.rd.len;have m3:=hs.bR
     have qe:=oU (p:=fun x:dv=>decide (x.aE=z)) (q:=v9 z) (l:=zr) (m:=s.aa) (by omega) fun k h1 h2=>by
      have:=(hC.each.get k h1 h2).size
      simp only [v9,this]
     repeat' (first|refine Wz ?_|(refine SW.st (gI (vs:=[.pointer (some ⟨b6,0,none⟩)]) rfl) rfl ?_))
     refine SW.call rfl rfl (jM _ _ _ _ _ hC.row.sl _ [.pointer (some ⟨b6,0,none⟩)] (fun x=>decide (x.aE=z)) (fun x => .agg (eA x).toArray) (fun x=>rfl) (fun x hx w1 jn=>F0 x b6 z w1 (aA.ext jn)) (by omega)) fun v w8 ap hv => ?_
     subst hv;rw [qe.1];(replace hw:=Ext.trans hw ap;replace bd:=bd.ext ap;replace aA:=aA.ext ap;replace bA:=bA.ext ap;replace hX:=hX.ext ap;replace hY:=hY.ext ap;replace hC:=hC.ext ap);cases fJ:s.aa.any (v9 z)
     ·obtain ⟨hI,_⟩:=jf (p:=v9 z) (l:=s.aa) (fun j hj=>by
       have:=List.any_eq_false.1 fJ _ (List.getElem_mem hj)
       simpa using this)
      rw [hI]
      have m9:∀ (j:Nat) (hj:j<s.aa.length),s.aa[j].aE≠z:=fun j hj=>by
       have:=List.any_eq_false.1 fJ _ (List.getElem_mem hj)
       simpa [v9] using this
      by_cases UE:s.aa.length=20
      ·refine Wz ?_;refine SW.ak bA rfl rfl rfl rfl (bt .zero) fun w5 bU hg => ?_
       replace hw:=hw.own kn hg;refine Wz ?_;exact ah.cX rfl rfl rfl bU rfl ⟨_,rfl,hw,_,.full hq MM qO ht (by rw [hz];exact m9) UE,gE.zero 9 _ _⟩
      ·have UF:s.aa.length<20:=by
        have:=hM.most
        omega
       obtain ⟨o,g7,e,Rg⟩ : ∃ o g7 e,dy z=(o,g7,e):=⟨_,_,_,rfl⟩;have cL:∀ w',bq Tryz.prog 141 [.int .i64 z] w' fun v _=>v = .tuple #[.int .i64 o,.int .i64 g7,.int .i64 e]:=fun w'=>xW (vE z w') Rg
       have qa:=hM.heap.cpus;have eC:=hY.cpus;repeat' (first|refine Wz ?_|refine SW.st (aq rfl (Fz _ _ aA)) rfl ?_|(refine SW.call rfl rfl (cL _) ?_;intro v w1 ae hv;subst hv;replace hw:=Ext.trans hw ae;replace bd:=bd.ext ae;replace aA:=aA.ext ae;replace bA:=bA.ext ae;replace hX:=hX.ext ae;replace hY:=hY.ext ae;replace hC:=hC.ext ae;clear ae))
       clear cL;refine SW.dR (vs:=[.string n]) rfl rfl rfl rfl rfl fun bn w9 ap Nf HX => ?_
       have Rh:w.heap.size≤bn:=Nat.le_trans hw.size Nf
       (replace hw:=Ext.trans hw ap;replace bd:=bd.ext ap;replace aA:=aA.ext ap;replace bA:=bA.ext ap;replace hX:=hX.ext ap;replace hY:=hY.ext ap;replace hC:=hC.ext ap);have hN:Own w9 w.heap.size 9 1 encStr (some ⟨bn,0,none⟩) 1 1 [n]:=Own.closed (rest:=[]) rfl HX rfl (by omega) (by omega) (by simp [maxLen]) Rh
       repeat' (first|refine Wz ?_|refine SW.st (aq rfl (Fz _ _ aA)) rfl ?_)
       have Ri:Ext w w9:=hw
       refine SW.alloc rfl fun Rj rN Rk Ip uk => ?_
       skip;refine SW.ak uk rfl rfl rfl rfl (AI ⟨⟨some ⟨bn,0,none⟩,1,1⟩,z,g7,o,.nil,.nil⟩) fun xA Ez hg => ?_
       replace hw:=Rk.own Ip hg;replace uk:=Ez;clear Ez hg;repeat' (first|refine Wz ?_|refine SW.st (aT hw rfl (bd.cell (i:=3) (v := .int .i64 q.Heap.bw) rfl)) rfl ?_)
       obtain ⟨C,UG⟩:=Int.eq_ofNat_of_zero_le (show 0≤q.Heap.bw by omega);rw [UG]
       refine CW.loop (fun t:Nat×Option Addr×Nat=>[(4,.pointer (some ⟨b4,0,none⟩)),(8,.pointer (some ⟨b8,0,none⟩)),(20,.pointer (some ⟨Rj,0,none⟩)),(121,.int .i64 (C:Int)),(122,.int .i64 (t.1:Int))])
        (fun t w'=>t.1≤C∧Ext w9 w'∧aW w' Rj 89 (eA ⟨⟨some ⟨bn,0,none⟩,1,1⟩,z,g7,o,.nil,⟨t.2.1,t.1,t.2.2⟩⟩)∧Own w' w9.heap.size 3 1 bK t.2.1 t.1 t.2.2 (List.replicate t.1 (-1))) (fun t=>C-t.1) (0,none,0)
        ⟨rfl,rfl,rfl,rfl,rfl,trivial⟩ ⟨by omega,hw,uk,Own.gz _ _ _ _ _ _⟩ ?_
       clear hw uk;rintro ⟨k,A,c⟩ xh ⟨hk,hw,uk,hA⟩
       simp only at hk uk hA ⊢;by_cases VT:k<C
       ·refine Wz ?_;refine SW.dR rfl rfl rfl rfl rfl fun b w1 ap hb hB => ?_
        (replace hw:=Ext.trans hw ap;replace uk:=uk.ext ap;replace hA:=hA.ext ap);refine SW.append hA (aW.z7 (enc:=bK) hB) hw.size rfl rfl rfl (by omega) (by omega) fun A2 c2 w5 n7 hg => ?_
        have hG:=hA.gr hg;replace hw:=aO hw hg (Nat.le_refl _) hA.bc;(replace uk:=uk.aw hG rfl);refine Wz ?_;refine SW.bz (i:=5) uk rfl rfl rfl rfl fun w6 Ez hg => ?_
        have hG:=uk.gr hg;replace hw:=hw.own Ip hg;(replace n7:=n7.aw hG rfl);refine Wz ?_;refine ah.again (k+1,A2,c2) ⟨rfl,rfl,rfl,rfl,rfl,trivial⟩ (by simp only;omega) ⟨by simp only;omega,hw,Ez,?_⟩;simp only;rw [List.replicate_succ'];exact n7
       ·obtain rfl:k=C:=by omega
        have KS:=hw;replace hw:=Ri;(replace hw:=Ext.trans hw KS;replace bd:=bd.ext KS;replace aA:=aA.ext KS;replace bA:=bA.ext KS;replace hX:=hX.ext KS;replace hY:=hY.ext KS;replace hC:=hC.ext KS;replace hN:=hN.ext KS);replace hA:=hA.low Ri.size;have Ss:w.heap.size≤Rj:=Nat.le_trans Ri.size Ip
        refine Wz ?_;refine SW.dR rfl rfl rfl rfl rfl fun b UH ap hb hB => ?_
        (replace hw:=Ext.trans hw ap;replace bd:=bd.ext ap;replace bA:=bA.ext ap;replace hX:=hX.ext ap;replace hY:=hY.ext ap;replace hC:=hC.ext ap;replace hN:=hN.ext ap;replace hA:=hA.ext ap);refine SW.append hC.row (aW.z7 (enc:=eA) (x:=⟨⟨some ⟨bn,0,none⟩,1,1⟩,z,g7,o,.nil,⟨A,k,c⟩⟩) hB) hw.size rfl rfl rfl (by omega) (by omega) fun A2 c2 VU n7 hg => ?_
        have hG:=hC.row.gr hg;replace hw:=aO hw hg (Nat.le_refl _) hC.row.bc;(replace bd:=bd.aw hG rfl;replace bA:=bA.aw hG rfl;replace hX:=hX.aw hG rfl;replace hY:=hY.aw hG rfl;replace hN:=hN.aw hG rfl;replace hA:=hA.aw hG rfl);have hE:=hC.each.mono fun _ _ h=>h.aw hG rfl
        refine Wz ?_;refine SW.bz (i:=6) bd rfl rfl rfl rfl fun VV dZ hg => ?_
        have hG:=bd.gr hg;replace hw:=hw.own iN hg;replace bA:=bA.grown hg (by simpa using fun e=>wv e.symm);(replace hX:=hX.aw hG rfl;replace hY:=hY.aw hG rfl;replace hN:=hN.aw hG rfl;replace hA:=hA.aw hG rfl;replace n7:=n7.aw hG rfl);replace hE:=hE.mono fun _ _ h=>h.aw hG rfl
        refine Wz ?_;refine SW.ak bA rfl rfl rfl rfl (bt ⟨q.Words,q.Heap,⟨A2,q.aa.n+1,c2⟩⟩) fun VW bU hg => ?_
        have hG:=bA.gr hg;replace hw:=hw.own kn hg;(replace hX:=hX.aw hG rfl;replace hY:=hY.aw hG rfl;replace hN:=hN.aw hG rfl;replace hA:=hA.aw hG rfl;replace n7:=n7.aw hG rfl);replace hE:=hE.mono fun _ _ h=>h.aw hG rfl
        refine Wz ?_;refine ah.cX rfl rfl rfl bU rfl ⟨_,rfl,hw,_,.new hq MM qO ht (by rw [hz];exact m9) UF,⟨q.Words,q.Heap,⟨A2,q.aa.n+1,c2⟩⟩,rfl,hX,hY,_,n7,?_⟩;rw [hz];refine hE.snoc ⟨rfl,?_,?_,hN,Own.gz _ _ _ _ _ _,?_⟩
        ·simp only [iT,Rg]
        ·simp only [iT,Rg]
        ·have e9:s.Heap.bw.toNat=k:=by omega
         simp only [iT,e9];exact hA
     ·obtain ⟨i,hi,UI,UJ,uF⟩:=BO fJ;rw [uF];have Rl:s.aa[i].aE=z:=by simpa [v9] using UI
      have df:i<q.aa.n:=by omega
      have C1:i<zr.length:=by omega
      have iS:=hC.each.get i C1 hi;have UK:=(hM.each i hi).names;have Oy:=hC.row.sl.base;have q1:=iS.names.sl.len;have q2:=(hM.each i hi).x8 hM.heap (fun j h=>hM.each j h);have Pb:=uL s.aa[i].Names n;repeat' (first|refine Wz ?_|refine SW.st (aq rfl (hC.row.sl.fw df (j:=0) (u := .slice zr[i].Names.A zr[i].Names.n zr[i].Names.c) rfl)) rfl ?_)
      refine SW.call rfl rfl (CY _ _ _ _ n _ iS.names.sl UK.mr (by omega)) fun v w9 ap hv => ?_
      obtain ⟨bb,rfl⟩:=hv;(replace hw:=Ext.trans hw ap;replace bd:=bd.ext ap;replace bA:=bA.ext ap;replace hX:=hX.ext ap;replace hY:=hY.ext ap;replace hC:=hC.ext ap);repeat' (first|refine Wz ?_|refine SW.st (aq rfl (hC.row.sl.fw df (j:=0) (u := .slice zr[i].Names.A zr[i].Names.n zr[i].Names.c) rfl)) rfl ?_)
      refine SW.dR (vs:=[.string n]) rfl rfl rfl rfl rfl fun bn rN ap Nf HX => ?_
      have dL:=(hC.each.get i C1 hi).names.lt_size;have nt:aM zr[i].Names.A zr[i].Names.c≠some bn:=fun e=>by have:=dL _ e;omega
      (replace hw:=Ext.trans hw ap;replace bd:=bd.ext ap;replace bA:=bA.ext ap;replace hX:=hX.ext ap;replace hY:=hY.ext ap;replace hC:=hC.ext ap);have hN:=(hC.each.get i C1 hi).names;refine SW.dt rfl rfl (pT _ _ _ w.heap.size s.aa[i].Names _ hN (rz s.aa[i].Names n) (by omega) n bn HX nt (by omega) hw.size) fun v xA hv => ?_
      obtain ⟨A2,c2,rfl,cJ,hg,ju⟩:=hv;have hG:=hN.gr hg;replace hw:=aO hw hg (Nat.le_refl _) hN.bc;have dN:=hC.row.aw hG rfl
      have hE:=eK.setAt (R':=mJ xA w.heap.size) (i:=i) hC.each (x:=⟨⟨A2,zr[i].Names.n+1,c2⟩,zr[i].aE,zr[i].bG,zr[i].Order,zr[i].ab,zr[i].ar⟩) (y:=rB s.aa[i] n)
       ⟨(hC.each.get i C1 hi).size,(hC.each.get i C1 hi).g7,(hC.each.get i C1 hi).order,cJ,(hC.each.get i C1 hi).aH.aw hG rfl,(hC.each.get i C1 hi).a8.aw hG rfl⟩
       (fun j h1 h2 jm ho=>⟨ho.size,ho.g7,ho.order,ho.names.grown hg (Io ((tY.ne C1 h1 jm).imp (·.names) (·.names))),ho.aH.aw hG rfl,ho.a8.aw hG rfl⟩)
      (replace bd:=bd.aw hG rfl;replace bA:=bA.aw hG rfl;replace hX:=hX.aw hG rfl;replace hY:=hY.aw hG rfl);clear hC;refine Wz ?_;refine SW.fH i 0 ⟨⟨A2,zr[i].Names.n+1,c2⟩,zr[i].aE,zr[i].bG,zr[i].Order,zr[i].ab,zr[i].ar⟩ dN rfl rfl rfl df (by decide) rfl rfl fun xh gp qT => ?_
      have sO:=dN.gr qT;replace hw:=aO hw qT (Nat.le_refl _) dN.bc;(replace bd:=bd.aw sO rfl;replace bA:=bA.aw sO rfl;replace hX:=hX.aw sO rfl;replace hY:=hY.aw sO rfl);replace hE:=hE.mono fun _ _ h=>h.aw sO rfl
      refine Wz ?_;refine SW.ak bA rfl rfl rfl rfl (bt q) fun UH bU hg => ?_
      have hG:=bA.gr hg;replace hw:=hw.own kn hg;(replace hX:=hX.aw hG rfl;replace hY:=hY.aw hG rfl;replace gp:=gp.aw hG rfl);replace hE:=hE.mono fun _ _ h=>h.aw hG rfl
      refine Wz ?_;refine ah.cX rfl rfl rfl bU rfl ⟨_,rfl,hw,_,.uM hq MM qO ht hi (by rw [hz];exact Rl) (fun j hj jm => ?_),q,rfl,hX,hY,_,gp,hE⟩;rw [hz];simpa [v9] using UJ j hj jm
    ·repeat' (first|refine Wz ?_|(refine CW.dh rfl ?_)|refine SW.want rfl rfl ?_|refine SW.st (aq rfl (Fz _ _ aA)) rfl ?_|((first|refine SW.call rfl rfl (c1 _ hw) ?_|refine SW.call rfl rfl (c2 _) ?_|refine SW.call rfl rfl (c3 _ hw) ?_);intro v w1 ae hv;subst hv;replace hw:=Ext.trans hw ae;replace bd:=bd.ext ae;replace aA:=aA.ext ae;replace bA:=bA.ext ae;clear ae)|(refine SW.st ((uV rfl rfl (by omega)).eq (congrArg (Value.int .i64) OP)) rfl ?_))
     all_goals try omega
     refine SW.ak bA rfl rfl rfl rfl (bt .zero) fun w5 bU hg => ?_
     replace hw:=hw.own kn hg;refine Wz ?_;exact ah.cX rfl rfl rfl bU rfl ⟨_,rfl,hw,_,.fA hq MM qO ht,gE.zero 5 _ _⟩
   ·rcases (show size<1∨(1≤size∧64<size) by omega) with g|g
    all_goals
     repeat' (first|refine Wz ?_|refine SW.want rfl rfl ?_|refine SW.st (aq rfl (Fz _ _ aA)) rfl ?_|((first|refine SW.call rfl rfl (c1 _ hw) ?_|refine SW.call rfl rfl (c2 _) ?_);intro v w1 ae hv;subst hv;replace hw:=Ext.trans hw ae;replace bd:=bd.ext ae;replace aA:=aA.ext ae;replace bA:=bA.ext ae;clear ae)|(refine SW.st ((uV rfl rfl (by omega)).eq (congrArg (Value.int .i64) OP)) rfl ?_))
     all_goals try omega
     refine SW.ak bA rfl rfl rfl rfl (bt .zero) fun w5 bU hg => ?_
     replace hw:=hw.own kn hg;refine Wz ?_;exact ah.cX rfl rfl rfl bU rfl ⟨_,rfl,hw,_,.range hq MM qO,gE.zero 1 _ _⟩
  ·have MM : ¬ (fy n=true∧gR align):=by rw [hp];exact JV
   rcases (show p=false∨(p=true∧align<1)∨(p=true∧1≤align∧8<align)∨(p=true∧(1≤align∧align≤8)∧gv≠0) by
    cases p
    ·exact .inl rfl
    ·right;by_cases a1:align<1
     ·exact .inl ⟨rfl,a1⟩
     ·by_cases a2 : 8<align
      ·exact .inr (.inl ⟨rfl,by omega,a2⟩)
      ·exact .inr (.inr ⟨rfl,by omega,fun h=>JV ⟨rfl,(OO (by omega)).1 h⟩⟩)) with rfl|⟨rfl,g⟩|⟨rfl,g⟩|⟨rfl,g,g0⟩
   all_goals
    repeat' (first|refine Wz ?_|refine SW.want rfl rfl ?_|refine SW.skip rfl rfl rfl rfl ?_|((first|refine SW.call rfl rfl (c1 _ hw) ?_|refine SW.call rfl rfl (c2 _) ?_);intro v w1 ae hv;subst hv;replace hw:=Ext.trans hw ae;replace bd:=bd.ext ae;replace aA:=aA.ext ae;replace bA:=bA.ext ae;clear ae)|(refine SW.st ((uV rfl rfl (by omega)).eq (congrArg (Value.int .i64) OP)) rfl ?_))
    all_goals try omega
    refine SW.ak bA rfl rfl rfl rfl (bt .zero) fun w5 bU hg => ?_
    replace hw:=hw.own kn hg;refine Wz ?_;exact ah.cX rfl rfl rfl bU rfl ⟨_,rfl,hw,_,.form hq MM,gE.zero 3 _ _⟩
open Go.RowKit
open Go.RowKit
section
variable {P:Program} {n:Nat} {ops:Array Oper} {Q:Exit→Act→World→Prop} {rest:List Oper} {L:Env} {w:World}
end
open Go.RowKit
open Go.RowKit
open Go.RowKit
def ig (A:Option Addr) (n c:Nat) (B:Option Addr) (m d:Nat) (split least cpus:Int) : List Value:=[.slice A n c,.slice B m d,.int .i64 split,.int .i64 least,.int .i64 cpus]
theorem MN {w:World} {b t:Nat} {A:Option Addr} {n c:Nat} {B:Option Addr} {m d:Nat} {split least cpus:Int} (h:aW w b t (ig A n c B m d split least cpus)) : ∀ j v,(mT A n c B m d)[j]?=some v→w.cell? ((((⟨b,0,none⟩ : Addr)).add 0).add j)=some v:=fun j v hv=>by
 rw [add_add];refine h.cell (i:=0+j) ?_
 match j,hv with
 | 0,hv=>exact hv
 | 1,hv=>exact hv
set_option maxHeartbeats 4000000 in
theorem BP (A:Option Addr) (n c:Nat) (B:Option Addr) (m d:Nat) (x y:List Region) (split least cpus:Int) (w:World) (hx:Sl w 2 iM A n x) (hy:Sl w 2 iM B m y) (hn:n≤9223372036854775807) (hm:m≤9223372036854775807) (IY : -9223372036854775808≤split∧split≤9223372036854775807) (hS:iK w) :
 bq Tryz.prog 24 [.agg (ig A n c B m d split least cpus).toArray] w fun v w' => ∃ u,iy (jb 256 x y) split least cpus u∧gE w.heap.size u v w':=by
 refine aG Tryz.func24 rfl Tryz.ntmps24 rfl ?_;refine CW.seq (CW.region (SW.box rfl rfl fun b1 w1 hw jh aI => ?_));refine SW.alloc rfl fun b2 w2 bF j0 aD => ?_
 have qZ:w.heap.size≤b2:=Nat.le_trans hw.size j0
 (replace hw:=Ext.trans hw bF;replace aI:=aI.ext bF);have hlen:=BN 256 x y;repeat' (first|refine Wz ?_|refine SW.st (aB rfl rfl ((MN aI))) rfl ?_)
 refine SW.call rfl rfl (Ds A n c B m d x y 256 rfl _ (hx.ext hw) (hy.ext hw) hn hm) fun v w5 nA hv => ?_
 obtain ⟨o,ho⟩ : ∃ o,jb 256 x y=o:=⟨_,rfl⟩;rw [ho] at hv hlen ⊢;clear ho;obtain ⟨A1,c1,rfl,hO⟩:=hv;replace hO:=hO.low hw.size;(replace hw:=Ext.trans hw nA;replace aI:=aI.ext nA;replace aD:=aD.ext nA);by_cases h0:o.1=0
 ·rw [h0];refine Wz ?_;refine SW.call rfl rfl (Ik A1 o.2.length c1 o.2 split least cpus _ hO.sl (by omega) IY) fun v w6 C0 hv => ?_
  have KT:=fun h2=>yF (l:=o.2) (split:=split) (least:=least) (cpus:=cpus) h2
  obtain ⟨e,he⟩ : ∃ e,eX o.2 split least cpus=e:=⟨_,rfl⟩;have OL:=fun h2=>iy.heap (o:=o) (split:=split) (least:=least) (cpus:=cpus) h0 h2
  have bU:=fun (t:ag) h2 m=>iy.made (o:=o) (split:=split) (least:=least) (cpus:=cpus) (t:=t) h0 h2 m
  rw [he] at hv KT OL bU;clear he;obtain ⟨H,rfl,hH⟩:=hv;replace hH:=hH.low hw.size;(replace hw:=Ext.trans hw C0;replace aI:=aI.ext C0;replace aD:=aD.ext C0);clear hO;by_cases h2:e.1=0
  ·rw [h2];refine Wz ?_;refine SW.alloc rfl fun b6 w1 ae eu aA => ?_
   skip;refine SW.ak aA rfl rfl rfl rfl (dJ H) fun w2 dE hg => ?_
   have ap:=ae.own eu hg;have dl:w.heap.size≤b6:=Nat.le_trans hw.size eu
   replace hw:=Ext.trans hw ap;replace aI:=aI.ext ap;replace aD:=aD.ext ap;replace hH:=hH.ext ap;replace aA:=dE;clear dE ae hg ap;refine Wz ?_;refine SW.call rfl rfl (I9 256 _) fun v w7 j4 hv => ?_
   rw [if_pos ⟨by decide,by decide⟩] at hv;obtain ⟨A2,c2,rfl,hX⟩:=hv;replace hX:Own w7 w.heap.size 3 1 bK A2 4096 c2 (List.replicate 4096 0):=hX.low hw.size;(replace hw:=Ext.trans hw j4;replace aI:=aI.ext j4;replace aD:=aD.ext j4;replace aA:=aA.ext j4;replace hH:=hH.ext j4);refine Wz ?_;have Jn:=aD.lt;refine SW.alloc rfl fun b9 w1 ae oe dg => ?_
   skip;refine SW.ak dg rfl rfl rfl rfl (bt ⟨⟨A2,4096,c2⟩,H,.nil⟩) fun w2 ji hg => ?_
   have ap:=ae.own oe hg;have re:w.heap.size≤b9:=Nat.le_trans hw.size oe
   replace hw:=Ext.trans hw ap;replace aI:=aI.ext ap;replace aD:=aD.ext ap;replace aA:=aA.ext ap;replace hH:=hH.ext ap;replace hX:=hX.ext ap;replace dg:=ji;clear ji ae hg ap;have bW:b2≠b9:=by omega
   have Ag:lR _ w.heap.size ⟨⟨A2,4096,c2⟩,H,.nil⟩ (Dv e.2):=⟨hX,hH,⟨[],dV.nil _ _⟩⟩
   clear hX hH aI aA;repeat' (first|refine Wz ?_|refine SW.st (aU hw rfl rfl ((yf hS))) rfl ?_)
   refine CW.loop (fun s:Nat×eQ×ag=>[(2,.pointer (some ⟨b2,0,none⟩)),(9,.pointer (some ⟨b9,0,none⟩)),(44,.agg (kL.map (Value.int .i64)).toArray),(45,.int .i64 (s.1:Int))])
    (fun s w'=>s.1≤6∧Ext w w'∧aW w' b2 44 (ba .zero)∧aW w' b9 44 (ba s.2.1)∧lR w' w.heap.size s.2.1 s.2.2∧rS (Dv e.2) s.1 s.2.2) (fun s=>6-s.1) (0,⟨⟨A2,4096,c2⟩,H,.nil⟩,Dv e.2)
    ⟨rfl,rfl,rfl,rfl,trivial⟩ ⟨by omega,hw,aD,dg,Ag,.zero⟩ ?_
   clear hw aD dg Ag;rintro ⟨j,r,s⟩ w' ⟨hj,hw,aD,dg,Ag,hM⟩
   simp only at hj dg Ag hM ⊢;by_cases KR:j<6
   ·obtain ⟨k1,k2,k3,k4⟩:=En KR;have oS:=yg KR;have hf:=hM.dW (KT h2) hj;have kS:=JH j;obtain ⟨z,hz⟩ : ∃ z,kP j=z:=⟨_,rfl⟩;have UL:=fun (u:ag×Int) (h:nF s (kh z) z 1 u)=>rS.succ (u:=u) hM (hz ▸ h)
    rw [hz] at k1 k2 k3 k4 oS kS;have IZ:(kL.map (Value.int .i64))[j]?=some (.int .i64 z):=by rw [List.getElem?_map,k2];rfl
    repeat' (first|refine Wz ?_|(refine SW.st (nl j rfl rfl rfl KR IZ) rfl ?_))
    refine CW.iL 8 8 (fun _=>True) mixed (by kernel_rfl) fun w1 ae aJ => ?_
    replace hw:=Ext.trans hw ae;replace aD:=aD.ext ae;replace dg:=dg.ext ae;replace Ag:=Ag.ext ae;clear ae;refine Wf ?_;refine SF.one 2 rfl (by kernel_rfl) rfl ?_;refine SW.call rfl rfl (sP z k1 _) fun v w4 ap hv => ?_
    subst hv;(replace hw:=Ext.trans hw ap;replace aD:=aD.ext ap;replace dg:=dg.ext ap;replace Ag:=Ag.ext ap);refine SW.nil (ah.sf ap ?_);refine SF.one 4 rfl (by kernel_rfl) rfl ?_;refine SW.call rfl rfl (Dw r s (kh z) z 1 _ Ag.rd hf oS) fun v w4 ap hv => ?_
    obtain ⟨u,hu,q,rfl,hq⟩:=hv;replace hq:=hq.low hw.size;(replace hw:=Ext.trans hw ap;replace aD:=aD.ext ap;replace dg:=dg.ext ap);refine SW.nil (ah.sf ap ?_);refine Wf ?_;refine SF.xI 7 aJ rfl (by kernel_rfl) (by kernel_rfl) rfl (fun _=>bo rfl) rfl ?_;refine SF.last rfl (by kernel_rfl) (by kernel_rfl) ?_;refine SW.ak dg rfl rfl rfl rfl (bt q) fun w6 ji hg => ?_
    have hG:=dg.gr hg;replace aD:=aD.grown hg (by simpa using bW);replace hw:=hw.own re hg;(replace hq:=hq.aw hG rfl);refine Wz ?_;exact ah.again (j+1,q,u.1) ⟨rfl,rfl,rfl,rfl,trivial⟩ (by simp only;omega) ⟨by simp only;omega,hw,aD,ji,hq,UL u hu⟩
   ·obtain rfl:j=6:=by omega
    refine Wz ?_;refine SW.ak aD rfl rfl rfl rfl (bt r) fun w6 hR hg => ?_
    have hG:=aD.gr hg;replace hw:=hw.own qZ hg;(replace Ag:=Ag.aw hG rfl);refine Wz ?_;exact ah.cX rfl rfl rfl hR rfl ⟨_,rfl,hw,_,bU s h2 hM,r,rfl,Ag⟩
  ·have hv:=OL h2;obtain ⟨e1,Nj⟩ : ∃ e1,e.1=e1:=⟨_,rfl⟩;rw [Nj] at h2 hv ⊢;refine Wz ?_;refine SW.alloc rfl fun b6 w1 ae eu aA => ?_
   skip;refine SW.ak aA rfl rfl rfl rfl (dJ H) fun w2 dE hg => ?_
   have ap:=ae.own eu hg;have dl:w.heap.size≤b6:=Nat.le_trans hw.size eu
   replace hw:=Ext.trans hw ap;replace aD:=aD.ext ap;replace aA:=dE;clear dE ae hg ap;refine Wz ?_;refine SW.ak aD rfl rfl rfl rfl (bt .zero) fun w7 hR hg => ?_
   replace hw:=hw.own qZ hg;refine Wz ?_;exact ah.cX rfl rfl rfl hR rfl ⟨_,rfl,hw,_,hv,gE.zero _ _ _⟩
 ·have hv:=iy.MK (split:=split) (least:=least) (cpus:=cpus) h0;obtain ⟨e1,Nj⟩ : ∃ e1,o.1=e1:=⟨_,rfl⟩;rw [Nj] at h0 hv ⊢;refine Wz ?_;refine SW.ak aD rfl rfl rfl rfl (bt .zero) fun w7 hR hg => ?_
  replace hw:=hw.own qZ hg;refine Wz ?_;exact ah.cX rfl rfl rfl hR rfl ⟨_,rfl,hw,_,hv,gE.zero _ _ _⟩
open Go.RowKit
inductive F1 (o:Int×List Region) (split least cpus:Int) (l:List jy) : Int×List mw×ag→Prop
 | fault {u:ag×Int} (h:iy o split least cpus u) (he:u.2≠0) : F1 o split least cpus l (u.2,[],.zero)
 | Su {u:ag×Int} {xs:List mw} {t:ag} (h:iy o split least cpus u) (he:u.2=0) (hr:my u.1 l xs t) : F1 o split least cpus l (0,xs,t)
def MO (lo:Nat) (o:Int×List mw×ag) (v:Value) (w:World) : Prop := ∃ A n c rs q,v = .tuple #[.slice A n c,.agg (ba q).toArray,.int .i64 o.1]∧jW w lo A n c rs o.2.1∧lR w lo q o.2.2
theorem ah.Iq {P:Program} {fn:Func} {R:Ending→World→Prop} {n:Nat} {L:Env} {w:World} {t u q ty b tb m:Nat} {cs:List Value} {x y:Value} [c:fj P ty m] (hr:fn.results = #[.tmp u,.cell t ty,.tmp q]) (hx:get L u=some x) (hv:get L t=some (.pointer (some ⟨b,0,none⟩))) (hy:get L q=some y) (hB:aW w b tb cs) (hl:Nat.beq cs.length m=true) (h:R (.returned (.tuple #[x,.agg cs.toArray,y])) w) : ah n (bodyPost P fn R) .ret L w :=
 ⟨fun a ha=>⟨ha.defers,_,by simpa using kW.results (rs:=[.tmp u,.cell t ty,.tmp q]) hr (.tmp hx (.cell c hv hB (Nat.eq_of_beq_eq_true hl) (.tmp hy .nil))) ha,h⟩⟩
theorem jW.gz (w:World) (lo:Nat) (A:Option Addr) : jW w lo A 0 0 [] []:=⟨Own.gz _ _ _ _ _ _,.nil⟩
structure OQ where
 j:Nat
 A:Option Addr
 c:Nat
 rs:List Dm
 xs:List mw
 q:eQ
 t:ag
set_option maxHeartbeats 4000000 in
theorem rT (I:ag→Prop) (A:Option Addr) (n c:Nat) (B:Option Addr) (m d:Nat) (x y:List Region) (split least cpus:Int) (X:Option Addr) (k e:Nat) (l:List jy) (w:World) (hx:Sl w 2 iM A n x) (hy:Sl w 2 iM B m y) (hn:n≤9223372036854775807) (hm:m≤9223372036854775807) (IY : -9223372036854775808≤split∧split≤9223372036854775807) (hS:iK w) (kq:nq w)
 (hl:Sl w 7 xD X k l) (hk:k≤300) (hI:∀ u,iy (jb 256 x y) split least cpus u→u.2=0→I u.1) (hF:∀ s,I s→s.dW) (hG:∀ a∈l,mj I a) (hP:∀ a∈l,s8 I a) :
 bq Tryz.prog 16 [.agg (ig A n c B m d split least cpus).toArray,.slice X k e] w fun v w' => ∃ o,F1 (jb 256 x y) split least cpus l o∧MO w.heap.size o v w':=by
 refine aG Tryz.func16 rfl Tryz.ntmps16 rfl ?_;refine CW.seq (CW.region (SW.box rfl rfl fun b2 w1 hw j0 aD => ?_));have pp:=hl.len;have VX:=hl.base;have l2:=aD.lt;refine Wz ?_;refine SW.alloc rfl fun b5 w2 bF jj bC => ?_
 have kN:w.heap.size≤b5:=Nat.le_trans hw.size jj
 (replace hw:=Ext.trans hw bF;replace aD:=aD.ext bF);refine Wz ?_;refine SW.call rfl rfl (BP A n c B m d x y split least cpus _ (hx.ext hw) (hy.ext hw) hn hm IY (hS.ext hw)) fun v w5 nA hv => ?_
 obtain ⟨u,hu,s1,rfl,iF⟩:=hv;replace iF:=iF.low hw.size;(replace hw:=Ext.trans hw nA;replace aD:=aD.ext nA;replace bC:=bC.ext nA);obtain ⟨u1,u2⟩:=u;simp only at iF ⊢;refine Wz ?_;have l5:=bC.lt;refine SW.alloc rfl fun b7 w1 ae jG bO => ?_
 skip;refine SW.ak bO rfl rfl rfl rfl (bt s1) fun w2 bB hg => ?_
 have ap:=ae.own jG hg;have jH:w.heap.size≤b7:=Nat.le_trans hw.size jG
 replace hw:=Ext.trans hw ap;replace aD:=aD.ext ap;replace bC:=bC.ext ap;replace iF:=iF.ext ap;replace bO:=bB;clear bB ae hg ap;have BG:b5≠b7:=by omega
 by_cases he:u2=0
 ·have Ko:=hI _ hu he;have Sv:=fun xs t h=>F1.Su (l:=l) (xs:=xs) (t:=t) hu he h
  simp only at Ko Sv;subst he;refine Wz ?_
  refine CW.loop (fun s:OQ=>[(5,.pointer (some ⟨b5,0,none⟩)),(7,.pointer (some ⟨b7,0,none⟩)),(9,.slice s.A s.j s.c),(26,.slice X k e),(27,.int .i64 (k:Int)),(28,.int .i64 (s.j:Int))])
   (fun s w'=>s.j≤k∧Ext w w'∧aW w' b5 44 (ba .zero)∧aW w' b7 44 (ba s.q)∧lR w' w.heap.size s.q s.t∧jW w' w.heap.size s.A s.j s.c s.rs s.xs∧my u1 (l.take s.j) s.xs s.t∧I s.t) (fun s=>k-s.j) ⟨0,none,0,[],[],s1,u1⟩
   ⟨rfl,rfl,rfl,rfl,rfl,rfl,trivial⟩ ⟨Nat.zero_le _,hw,bC,bO,iF,jW.gz _ _ _,by rw [List.take_zero];exact .nil _,Ko⟩ ?_
  clear hw bC bO iF aD;rintro ⟨j,Y,f,rs,xs,q,t⟩ w' ⟨hj,hw,bC,bO,hq,hY,hR,PB⟩
  simp only at hj bO hq hY hR PB ⊢;by_cases na:j<k
  ·have pq:j<l.length:=by omega
   repeat' (first|refine Wz ?_|refine SW.st (aU hw rfl rfl ((hl.all na))) rfl ?_)
   refine SW.alloc rfl fun GR w1 ae oX du => ?_
   skip;refine SW.ak du rfl rfl rfl rfl (OJ l[j]) fun w2 lY hg => ?_
   have ap:=ae.own oX hg;have Hn:w.heap.size≤GR:=Nat.le_trans hw.size oX
   replace hw:=Ext.trans hw ap;replace bC:=bC.ext ap;replace bO:=bO.ext ap;replace hq:=hq.ext ap;replace hY:=hY.ext ap;replace du:=lY;clear lY ae hg ap;refine Wz ?_;have l7:=hY.row.lt_size;refine SW.alloc rfl fun De w2 bF tM dG => ?_
   have yu:w.heap.size≤De:=Nat.le_trans hw.size tM
   (replace hw:=Ext.trans hw bF;replace bC:=bC.ext bF;replace bO:=bO.ext bF;replace du:=du.ext bF;replace hq:=hq.ext bF;replace hY:=hY.ext bF);clear bF;refine Wz ?_;refine SW.call rfl rfl (hG l[j] (List.getElem_mem pq) q t w.heap.size _ hq hw.size PB (hS.ext hw) (kq.ext hw)) fun v w7 j4 hv => ?_
   obtain ⟨o,ho,q',x',rfl,I0,uw⟩:=hv;(replace hw:=Ext.trans hw j4;replace bC:=bC.ext j4;replace bO:=bO.ext j4;replace du:=du.ext j4;replace dG:=dG.ext j4;replace hY:=hY.ext j4);clear j4 hq;obtain ⟨o1,o2⟩:=o;simp only at I0 uw ⊢;have UM:=hP l[j] (List.getElem_mem pq) t _ PB ho;refine Wz ?_;refine SW.ak bO rfl rfl rfl rfl (bt q') fun w8 bB hg => ?_
   have s9:=bO.gr hg;replace bC:=bC.grown hg (by simpa using BG);replace hw:=hw.own jH hg;(replace du:=du.aw s9 rfl;replace dG:=dG.aw s9 rfl;replace hY:=hY.aw s9 rfl;replace I0:=I0.aw s9 rfl;replace uw:=uw.aw s9 rfl);clear s9 hg bO;refine SW.ak dG rfl rfl rfl rfl (kr x') fun w8 pd hg => ?_
   have s9:=dG.gr hg;have Sw:jW w8 w.heap.size Y j f rs xs:=⟨hY.row.grown hg (.inr (fun e=>by have:=l7 _ e;omega)),hY.each.mono fun _ _ h=>h.aw s9 rfl⟩
   replace hw:=hw.own yu hg;(replace bC:=bC.aw s9 rfl;replace bB:=bB.aw s9 rfl;replace du:=du.aw s9 rfl;replace I0:=I0.aw s9 rfl;replace uw:=uw.aw s9 rfl);clear hY s9 hg dG l7 tM;have bO:=bB;have dG:=pd;have hY:=Sw;clear bB pd Sw;refine Wz ?_;refine SW.dR rfl rfl rfl rfl rfl fun Py w9 oo yw wB => ?_
   (replace hw:=Ext.trans hw oo;replace bC:=bC.ext oo;replace bO:=bO.ext oo;replace I0:=I0.ext oo;replace uw:=uw.ext oo;replace hY:=hY.ext oo);clear oo;refine SW.append hY.row (aW.z7 (enc:=dm) wB) hw.size rfl rfl rfl (by omega) (by omega) fun Y2 f2 rN UN hg => ?_
   have s9:=hY.row.gr hg;replace hw:=aO hw hg (Nat.le_refl _) hY.row.bc;have UO:=hY.each.mono fun _ _ h=>h.aw (t:=55) s9 rfl
   (replace bC:=bC.aw s9 rfl;replace bO:=bO.aw s9 rfl;replace I0:=I0.aw s9 rfl;replace uw:=uw.aw s9 rfl);clear s9 hg hY;refine Wz ?_;have bU:=my.snoc hR ho;rw [← List.take_succ_eq_append_getElem pq] at bU;exact ah.again ⟨j+1,Y2,f2,rs++[x'],xs++[o2],q',o1⟩ ⟨rfl,rfl,rfl,rfl,rfl,rfl,trivial⟩ (by simp only;omega) ⟨by simp only;omega,hw,bC,bO,I0,⟨UN,UO.snoc uw⟩,bU,UM⟩
  ·obtain rfl:j=k:=by omega
   rw [List.take_of_length_le (by omega)] at hR;refine Wz ?_;refine SW.call rfl rfl (nM q t _ hq.rd (hF t PB).small) fun v w9 oo hv => ?_
   obtain ⟨p,cs',rfl,KQ,_⟩:=hv;have hP:=KQ.Bi.low hw.size;clear KQ;(replace hw:=Ext.trans hw oo;replace bC:=bC.ext oo;replace bO:=bO.ext oo;replace hY:=hY.ext oo);refine Wz ?_;refine SW.ak bC rfl rfl rfl rfl (bt p) fun xh Rm hg => ?_
   have s9:=bC.gr hg;replace hw:=hw.own kN hg;(replace hP:=hP.aw s9 rfl;replace hY:=hY.aw s9 rfl);refine Wz ?_;exact ah.Iq rfl rfl rfl rfl Rm rfl ⟨_,rfl,hw,_,Sv _ _ hR,Y,j,f,rs,p,rfl,hY,hP⟩
 ·have hv:=F1.fault (l:=l) hu he;simp only at hv;refine Wz ?_;refine SW.ak bC rfl rfl rfl rfl (bt .zero) fun w7 hR hg => ?_
  replace hw:=hw.own kN hg;refine Wz ?_;exact ah.Iq rfl rfl rfl rfl hR rfl ⟨_,rfl,hw,_,hv,none,0,0,[],.zero,rfl,jW.gz _ _ _,Own.gz _ _ _ _ _ _,gZ.zero _ _,⟨[],dV.nil _ _⟩⟩
open Go.RowKit
def iz (l:List Block) (i:Nat) : Nat:=l.countP fun b=>nb b i
def ul (a o:Int) (i:Nat) : Nat:=(nb ⟨a,o,0⟩ i).toNat
theorem uW (i:Nat) : iz [] i=0:=rfl
theorem dn (l m:List Block) (i:Nat) : iz (l++m) i=iz l i+iz m i:=List.countP_append
theorem rU (b:Block) (i:Nat) : iz [b] i=ul b.At b.Order i:=by
 unfold iz ul;have:nb ⟨b.At,b.Order,0⟩ i=nb b i:=rfl
 rw [List.countP_singleton,this];cases nb b i<;>rfl
theorem wL (b:Block) (l:List Block) (i:Nat) : iz (b::l) i=ul b.At b.Order i+iz l i:=by
 rw [← List.singleton_append,dn,rU]
theorem ky {l:List Block} {i:Nat}:dx l i=true↔0<iz l i:=by
 unfold dx iz;rw [List.countP_pos_iff,List.any_eq_true]
theorem zT {l:List Block} {i:Nat} (h:iz l i≤1) : iz l i=(dx l i).toNat:=by
 cases e:dx l i with
 | true=>have:=ky.1 e;simp;omega
 | false =>
   have : ¬ 0<iz l i:=fun h=>by rw [ky.2 h] at e;cases e
   simp;omega
theorem pL {l:List Block} {k:Nat} (hk:k<l.length) (i:Nat) : iz l i=iz (l.eraseIdx k) i+ul l[k].At l[k].Order i:=by
 have e:l=l.take k++l[k]::l.drop (k+1):=by simp
 rw [List.eraseIdx_eq_take_drop_succ]
 conv=>lhs;rw [e]
 rw [dn,dn,wL];omega
theorem td (l:List Block) (p:Nat) (x:Block) (i:Nat) : iz (aN l p x) i=iz l i+ul x.At x.Order i:=by
 unfold aN;have e:iz l i=iz (l.take p) i+iz (l.drop p) i:=by rw [← dn,List.take_append_drop]
 rw [dn,dn,rU];omega
theorem J5 {f:Block→Block} (h:∀ b,(f b).At=b.At∧(f b).Order=b.Order) (l:List Block) (i:Nat) : iz (l.map f) i=iz l i:=by
 unfold iz;rw [List.countP_map];congr 1
 funext b
 simp only [Function.comp_apply,nb,(h b).1,(h b).2]
theorem wM (a o:Int) (i:Nat) : ul a o i≤1:=by unfold ul;cases nb ⟨a,o,0⟩ i<;>simp
theorem nT {a o:Int} {i:Nat} : 0<ul a o i↔a≤(i:Int)∧(i:Int)<a+pw o:=by
 unfold ul;cases e:nb ⟨a,o,0⟩ i with
 | true=>simpa [nb] using e
 | false =>
   simp only [Bool.toNat_false,Nat.lt_irrefl,false_iff];intro h;unfold nb at e;simp only [h.1,h.2,decide_true,Bool.and_self,Bool.true_eq_false] at e
theorem J6 {l:List Block} {b:Block} (hb:b∈l) {i:Nat} (h:b.At≤(i:Int)∧(i:Int)<b.At+pw b.Order) : 0<iz l i:=by
 refine ky.1 (List.any_eq_true.2 ⟨b,hb,?_⟩);simp [nb,h.1,h.2]
theorem wN {f t:Int}:∀ {l:List Block},oE l→(∀ b∈l,gl f t b) → ∀ i,iz l i≤1
 | [],_,_,i=>by simp [iz]
 | b::l,hu,hb,i=>by
   unfold oE at hu;rw [List.pairwise_cons] at hu;have ih:=wN (l:=l) hu.2 (fun x hx=>hb x (by simp [hx])) i;rw [wL];have h1:=wM b.At b.Order i;rcases Nat.eq_zero_or_pos (ul b.At b.Order i) with h0|h0
   ·omega
   ·have hi:=nT.1 h0
    have:iz l i=0:=by
     rcases Nat.eq_zero_or_pos (iz l i) with h2|h2
     ·exact h2
     ·obtain ⟨x,hx,PC⟩:=List.any_eq_true.1 (ky.2 h2);have:=hu.1 x hx
      simp only [nb,Bool.and_eq_true,decide_eq_true_eq] at PC;omega
    omega
theorem mW {z:ao} (hz:bD z) : ∀ b∈z.aj,gl z.aK z.To b:=fun b hb=>by
 obtain ⟨i,hi,rfl⟩:=List.getElem_of_mem hb;exact hz.dD i hi
theorem BQ {z:ao} (hz:bD z) (i:Nat) : iz z.aj i≤1:=wN (mD hz) (mW hz) i
theorem J7 {q:Int} (h1 : 1≤q) (h4:q≤4) : pw q=2*pw (q-1):=by
 have:=ks (o:=q-1) (by omega) (by omega)
 rwa [Int.sub_add_cancel] at this
theorem Ir {a q:Int} (h1 : 1≤q) (h4:q≤4) (i:Nat) : ul a q i=ul a (q-1) i+ul (a+pw (q-1)) (q-1) i:=by
 have hp:=J7 h1 h4;have Pb:=(bT (o:=q-1) (by omega) (by omega)).1;have e0:=nT (a:=a) (o:=q) (i:=i);have e1:=nT (a:=a) (o:=q-1) (i:=i);have e2:=nT (a:=a+pw (q-1)) (o:=q-1) (i:=i);have l0:=wM a q i;have l1:=wM a (q-1) i;have l2:=wM (a+pw (q-1)) (q-1) i;omega
theorem wO {ty a:Int} (i:Nat) : ∀ (k:Nat) (q:Int) (l:List Block),(k:Int)≤q→q≤4→iz (kc ty a k q l) i+ul a (q-k) i=iz l i+ul a q i
 | 0,q,l,_,_=>by simp [kc]
 | k+1,q,l,h,h4=>by
   have ih:=wO (ty:=ty) (a:=a) i k (q-1) (oK ty a q l) (by omega) (by omega);have e:iz (oK ty a q l) i=iz l i+ul (a+pw (q-1)) (q-1) i:=td _ _ _ _
   have hh:=Ir (a:=a) (q:=q) (by omega) h4 i;simp only [kc];rw [show q-((k+1:Nat) : Int)=q-1-(k:Int) by omega];omega
theorem F2 (z:ao) (b:Block) (t:Int) (st:Bool) (i:Nat) : iz (iD z b t st) i=iz z.aj i:=by
 unfold iD ia;split
 ·split
  ·rfl
  ·exact J5 (mo _ _ _) _ _
 ·rfl
theorem fL.iz {z:ao} {o t:Int} {u:ao×Int×Int} (h:fL z o t u) (h0:u.2.2=0) (i:Nat) : Go.Proofs.YtbidkghlpijecaaGreatDoor.iz z.aj i=Go.Proofs.YtbidkghlpijecaaGreatDoor.iz u.1.aj i+ul u.2.1 o i:=by
 cases h with
 | bad|range|kind|room=>simp at h0
 | @ok k st hq ho ht hk hp =>
   have hz:=ed.1 hq;obtain ⟨_,p1,p2⟩:=hp.ord;have j6:k<(iD z z.aj[k] t st).length:=by rw [(rj hz ht st).1];exact hk
   have e1:=pL j6 i;rw [F2,sw hz ht st hk] at e1;have e2:=wO (ty:=tW z t st z.aj[k]) (a:=z.aj[k].At) i (z.aj[k].Order-o).toNat z.aj[k].Order ((iD z z.aj[k] t st).eraseIdx k) (by omega) p2;rw [show z.aj[k].Order-((z.aj[k].Order-o).toNat:Int)=o by omega] at e2;have e3:(qv z o t z.aj[k] k st).aj=kc (tW z t st z.aj[k]) z.aj[k].At (z.aj[k].Order-o).toNat z.aj[k].Order ((iD z z.aj[k] t st).eraseIdx k):=rfl
   simp only [e3];simp only at e1;omega
def mA (s:ao×ao) (i:Nat) : Nat:=iz s.1.aj i+iz s.2.aj i
def jz (l:List Int) (i:Nat) : Nat:=iz (l.map bL) i
def gj (L:List ay) (i:Nat) : Nat:=iz (aR L) i
theorem rV (p:Int) (i:Nat) : jz [p] i=ul p 0 i:=rU _ _
theorem kG (l m:List Int) (i:Nat) : jz (l++m) i=jz l i+jz m i:=by unfold jz;rw [List.map_append,dn]
theorem gd (L M:List ay) (i:Nat) : gj (L++M) i=gj L i+gj M i:=by unfold gj aR;rw [List.flatMap_append,dn]
theorem BR (x:ay) (i:Nat) : gj [x] i=jz x.av i:=by unfold gj aR jz;simp
theorem te (x:ay) (L:List ay) (i:Nat) : gj (x::L) i=jz x.av i+gj L i:=by rw [← List.singleton_append,gd,BR]
theorem wP (L:List ay) (p:Nat) (x:ay) (i:Nat) : gj (aN L p x) i=gj L i+jz x.av i:=by
 unfold aN;have e:gj L i=gj (L.take p) i+gj (L.drop p) i:=by rw [← gd,List.take_append_drop]
 rw [gd,gd,BR];omega
theorem Dx {L:List ay} {k:Nat} (hk:k<L.length) (i:Nat) : gj L i=gj (L.eraseIdx k) i+jz L[k].av i:=by
 have e:L=L.take k++L[k]::L.drop (k+1):=by simp
 rw [List.eraseIdx_eq_take_drop_succ]
 conv=>lhs;rw [e]
 rw [gd,gd,te];omega
theorem BS {L:List ay} {k:Nat} (hk:k<L.length) (x:ay) (i:Nat) : gj (L.set k x) i+jz L[k].av i=gj L i+jz x.av i:=by
 have e:L=L.take k++L[k]::L.drop (k+1):=by simp
 have e2:L.set k x=L.take k++x::L.drop (k+1):=by rw [List.set_eq_take_append_cons_drop,if_pos hk]
 rw [e2]
 conv=>rhs;rw [e]
 rw [gd,gd,te,te];omega
theorem wQ {s:ao×ao} {zi o t:Int} {u:ao×Int×Int} (h:fL (uh s zi) o t u) (h0:u.2.2=0) (i:Nat) : mA s i=mA (o9 s zi u.1) i+ul u.2.1 o i:=by
 have:=h.iz h0 i
 unfold uh at this;unfold mA o9;split at this
 ·rename_i e;rw [if_pos e];simp only;omega
 ·rename_i e;rw [if_neg e];simp only;omega
theorem pM {s:ao×ao} {zi o t:Int} {u:ao×Int×Int} (h:fL (uh s zi) o t u) (h0:u.2.2=0) : (o9 s zi u.1).1.To=s.1.To:=by
 have hk:=(h.qw h0).1.lV;unfold uh at hk;unfold o9;split at hk
 ·rename_i e;rw [if_pos e];exact hk
 ·rename_i e;rw [if_neg e]
theorem gV.to {m0 m1 zi t fl:Int} {s:ao×ao} {l:List Int} {r:(ao×ao)×List Int} (h:gV m0 m1 zi t fl s l r) : r.1.1.To=s.1.To:=by
 induction h with
 | full|kQ|none=>rfl
 | more h he ht hu hr ih=>rw [ih,pM ht hu]
theorem iw.to {m0 m1 cpu zi o t fl:Int} {s:ao×ao} {L:List ay} {r:(ao×ao)×List ay×Int} (h:iw m0 m1 cpu zi o t fl s L (some r)) : r.1.1.To=s.1.To:=by
 cases h with
 | list=>rfl
 | uJ ho he ht hu=>exact pM ht hu
 | fill ho hk he ht hu hr=>simp only;rw [hr.to,pM ht hu]
theorem kR.to {m0 m1 cpu o t fl:Int} {s:ao×ao} {L:List ay} {r:(ao×ao)×List ay×Int} (h:kR m0 m1 cpu o t fl s L (some r)) : r.1.1.To=s.1.To:=by
 cases h with
 | tZ _ h=>exact h.to
 | low _ h=>exact h.to
theorem gV.iz {m0 m1 zi t fl:Int} {s:ao×ao} {l:List Int} {r:(ao×ao)×List Int} (h:gV m0 m1 zi t fl s l r) (i:Nat) : mA s i+jz l i=mA r.1 i+jz r.2 i:=by
 induction h with
 | full|kQ|none=>rfl
 | more h he ht hu hr ih =>
   have:=wQ ht hu i
   rw [kG,rV] at ih;omega
theorem Is {L:List ay} {x:ay} (hk:cK L x=true) (hp:cd L x≠[]) (i:Nat) : gj L i=gj (sW L x (cd L x)) i+ul ((cd L x).getLast hp) 0 i:=by
 obtain ⟨hl,_⟩:=iu hk
 have e:=fM hk hl
 obtain ⟨pg,ua⟩ : ∃ pg,cd L x=pg:=⟨_,rfl⟩
 simp only [ua] at hp ⊢
 rw [ua] at e
 have e2:pg=pg.dropLast++[pg.getLast hp]:=(List.dropLast_concat_getLast hp).symm
 have e3:jz pg i=jz pg.dropLast i+ul (pg.getLast hp) 0 i:=by
  conv=>lhs;rw [e2]
  rw [kG,rV]
 unfold sW
 split
 ·rename_i h1
  have:=Dx hl i
  rw [← e] at this
  have h0:pg.dropLast=[]:=List.eq_nil_of_length_eq_zero (by rw [List.length_dropLast];omega)
  rw [h0] at e3
  simp only [jz,List.map_nil,uW] at e3
  simp only [jz] at this
  omega
 ·have:=BS hl (dX x pg.dropLast) i
  rw [← e] at this
  simp only [dX] at this ⊢
  omega
theorem F3 {L:List ay} {x:ay} (hk:cK L x=false) (pg:List Int) (i:Nat) : gj (iE L x pg) i=gj L i+jz pg i:=by
 by_cases h:pg=[]
 ·subst h;rw [kj];rfl
 ·rw [mR hk h,wP];rfl
theorem iw.iz {m0 m1 cpu zi o t fl:Int} {s:ao×ao} {L:List ay} {r:(ao×ao)×List ay×Int} (h:iw m0 m1 cpu zi o t fl s L (some r)) (i:Nat) : mA s i+gj L i=mA r.1 i+gj r.2.1 i+ul r.2.2 o i:=by
 cases h with
 | list ho hk hp=>subst ho;have:=Is hk hp i;simp only;omega
 | uJ ho he ht hu=>have:=wQ ht hu i;simp only;omega
 | fill ho hk he ht hu hr =>
   have h1:=wQ ht hu i
   have h2:=hr.iz i
   have h3:=fun pg=>F3 hk pg i
   simp only [h3]
   simp only [jz,List.map_nil,uW] at h2
   simp only [jz]
   omega
theorem kR.iz {m0 m1 cpu o t fl:Int} {s:ao×ao} {L:List ay} {r:(ao×ao)×List ay×Int} (h:kR m0 m1 cpu o t fl s L (some r)) (i:Nat) : mA s i+gj L i=mA r.1 i+gj r.2.1 i+ul r.2.2 o i:=by
 cases h with
 | tZ _ h=>exact h.iz i
 | low _ h=>exact h.iz i
theorem qk:∀ {l bs:List Block},(∀ b∈bs++l,0≤b.At∧1≤pw b.Order)→(∀ i,iz bs i≤1)→(bh (some bs) l).isSome=true → ∀ i,iz (bs++l) i≤1
 | [],bs,_,hc,_,i=>by simpa using hc i
 | b::l,bs,hg,hc,h,i=>by
   have e:bh (some bs) (b::l)=bh (j1 (some bs) b) l:=rfl
   rw [e] at h;by_cases hf:tx bs b
   ·have e2:j1 (some bs) b=some (bs++[b]):=by simp only [j1,if_pos hf]
    rw [e2] at h
    have Mk:∀ i,iz (bs++[b]) i≤1:=fun i=>by
     rw [dn,rU];have h1:=hc i;have h2:=wM b.At b.Order i;rcases Nat.eq_zero_or_pos (ul b.At b.Order i) with h0|h0
     ·omega
     ·have hi:=nT.1 h0;have hm:=(pB (fun x hx=>hg x (by simp [hx])) (hg b (by simp)).2).2 hf;have hq:=hm.2.2.2 i hi.1 hi.2;have : ¬ 0<iz bs i:=fun h=>by rw [ky.2 h] at hq;cases hq
      omega
    have:=qk (l:=l) (bs:=bs++[b]) (by simpa using hg) Mk h i
    simpa using this
   ·have e2:j1 (some bs) b=none:=by simp only [j1,if_neg hf]
    rw [e2,fW] at h;cases h
theorem qo:∀ {l bs:List Block},(∀ b∈bs++l,0≤b.At∧1≤pw b.Order)→(∀ b∈l,b.At+pw b.Order≤256)→(∀ i,iz (bs++l) i≤1)→(bh (some bs) l).isSome=true
 | [],bs,_,_,_=>rfl
 | b::l,bs,hg,hr,hc=>by
   have Aa:=hg b (by simp);have VY:=hr b (by simp)
   have hf:tx bs b:=by
    refine (pB (fun x hx=>hg x (by simp [hx])) Aa.2).1 ⟨Aa.1,by omega,by omega,fun i h1 h2 => ?_⟩;cases e:dx bs i with
    | false=>rfl
    | true =>
      have h3:=ky.1 e;have h4:=hc i;have h5:=nT.2 (⟨h1,h2⟩ : b.At≤(i:Int)∧(i:Int)<b.At+pw b.Order);rw [dn,wL] at h4;omega
   have e:bh (some bs) (b::l)=bh (j1 (some bs) b) l:=rfl
   have e2:j1 (some bs) b=some (bs++[b]):=by simp only [j1,if_pos hf]
   rw [e,e2];exact qo (by simpa using hg) (fun x hx=>hr x (by simp [hx])) (by simpa using hc)
def qK (s:ao×ao) (L:List ay) (lv:List Block) (i:Nat) : Nat:=mA s i+gj L i+iz lv i
theorem It {h:Heap} {z0 z1:ao} (f:gq h z0 z1) : ∀ b∈z0.aj++z1.aj++aR h.au++h.Live,0≤b.At∧1≤pw b.Order:=fun b hb=>by
 obtain ⟨bs,ND⟩:=Option.isSome_iff_exists.1 f.all;have mn:=tD f.all b hb;refine ⟨mn.1,?_⟩;simp only [List.mem_append] at hb;rcases hb with ((hb|hb)|hb)|hb
 ·exact (js f.d.kf b hb).2
 ·exact (js f.d.j3 b hb).2
 ·unfold aR at hb;obtain ⟨x,_,hx⟩:=List.mem_flatMap.1 hb;obtain ⟨p,_,rfl⟩:=List.mem_map.1 hx;simp only [bL,gM];omega
 ·obtain ⟨j,hj,rfl⟩:=List.getElem_of_mem hb;have:=(f.live.each j hj).1
  exact (bT this.1 this.2).1
theorem gq.MP {h:Heap} {z0 z1:ao} (f:gq h z0 z1) (i:Nat) : qK (z0,z1) h.au h.Live i≤1:=by
 have:=qk (bs:=[]) (l:=z0.aj++z1.aj++aR h.au++h.Live) (by simpa using It f) (fun i=>by simp [iz]) f.all i
 simp only [List.nil_append,dn] at this;unfold qK mA gj;simp only;omega
theorem wR {z:ao} (hz:bD z) {i:Nat} (h : 0<iz z.aj i) : z.aK≤(i:Int)∧(i:Int)<z.To:=by
 obtain ⟨x,hx,PC⟩:=List.any_eq_true.1 (ky.2 h);simp only [nb,Bool.and_eq_true,decide_eq_true_eq] at PC;obtain ⟨⟨f1,f2,f3,f4,f5⟩,_⟩:=mW hz x hx;obtain ⟨k1,k2,k3,k4,k5⟩:=hz.ok;refine ⟨by omega,?_⟩;rcases dU f1 f2 with ⟨e1,e2⟩|⟨e1,e2⟩|⟨e1,e2⟩|⟨e1,e2⟩|⟨e1,e2⟩<;>rw [e2] at f5 PC<;>omega
theorem wS {s:ao×ao} (h:VS s) (i:Nat) : mA s i=(dx s.1.aj i || dx s.2.aj i).toNat:=by
 have h0:=BQ h.kf i;have h1:=BQ h.j3 i;have e0:=zT h0;have e1:=zT h1;unfold mA;rcases Nat.eq_zero_or_pos (iz s.1.aj i) with g0|g0
 ·have c0:dx s.1.aj i=false:=by
   cases e:dx s.1.aj i with
   | false=>rfl
   | true=>have:=ky.1 e;omega
  rw [g0,e1,c0];simp
 ·have r0:=wR h.kf g0
  have:iz s.2.aj i=0:=by
   rcases Nat.eq_zero_or_pos (iz s.2.aj i) with g1|g1
   ·exact g1
   ·have:=wR h.j3 g1
    have:=h.Ac
    omega
  rw [this,e0,ky.2 g0];simp
theorem tR {h:Heap} {z0 z1:ao} (f:gq h z0 z1) (i:Nat) : mA (bE (z0,z1) (aR h.au)) i=mA (z0,z1) i+gj h.au i:=by
 have hd:=eJ f.d;have ht:=f.MP i;unfold qK at ht;have hc:iz (z0.aj++z1.aj++aR h.au) i=mA (z0,z1) i+gj h.au i:=by rw [dn,dn];rfl
 rw [wS hd.vs i,hd.Ea i,← zT (by rw [hc];omega),hc]
theorem wT {h:Heap} {z0 z1:ao} (d:lF h z0 z1) : (bE (z0,z1) (aR h.au)).1.To=z0.To:=by
 have key:∀ k,k≤(aR h.au).length→(bE (z0,z1) ((aR h.au).take k)).1.To=z0.To:=by
  intro k;induction k with
  | zero=>intro _;simp [bE]
  | succ k ih =>
    intro hk;rw [ld _ _ _ hk];exact ((d.inv k (by omega)).back (d.next hk)).2.trans (ih (by omega))
 have:=key _ (Nat.le_refl _)
 rwa [List.take_length] at this
theorem ct.iz {h:Heap} {cpu o fl:Int} {u:Heap×Int×Int} (a:ct h cpu o fl u) (h0:u.2.2=0) : ∃ z0 z1 s,h.bf=[z0,z1]∧gq h z0 z1∧VS s∧u.1.bf=[s.1,s.2]∧(∃ t,ik t∧u.1.Live=dK h u.2.1 o t)∧u.1.dk=h.dk∧u.1.bw=h.bw∧s.1.To=z0.To ∧
 ∀ i,qK (z0,z1) h.au h.Live i=qK s u.1.au u.1.Live i∧mA (z0,z1) i+gj h.au i=mA s i+gj u.1.au i+ul u.2.1 o i:=by
 cases a with
 | bad|range|form|room=>simp at h0
 | @once z0 z1 r hb hr ht hz ha =>
   obtain ⟨y0,y1,F⟩:=fO (cG.1 hb);have lO:=F.d.cj;rw [hz] at lO;simp only [List.cons.injEq,and_true] at lO;obtain ⟨rfl,rfl⟩:=lO;have hv:=(ha.found F.d.start.vs).1;refine ⟨z0,z1,r.1,hz,F,hv,rfl,⟨_,(o8 ht).2,rfl⟩,rfl,rfl,?_,fun i => ?_⟩
   ·exact ha.to
   ·have e:=ha.iz i;refine ⟨?_,e⟩;unfold qK kT dK;simp only [td];omega
 | @fA z0 z1 r hb hr ht hz ha h2 =>
   obtain ⟨y0,y1,F⟩:=fO (cG.1 hb);have lO:=F.d.cj;rw [hz] at lO;simp only [List.cons.injEq,and_true] at lO;obtain ⟨rfl,rfl⟩:=lO;have hv:=(h2.found (eJ F.d).vs).1;refine ⟨z0,z1,r.1,hz,F,hv,rfl,⟨_,(o8 ht).2,rfl⟩,rfl,rfl,?_,fun i => ?_⟩
   ·rw [h2.to];exact wT F.d
   ·have e:=h2.iz i;have e2:=tR F i;have e3:gj [] i=0:=rfl
    refine ⟨?_,by simp only [kT];omega⟩;unfold qK kT dK;simp only [td];omega
end Go.Proofs.YtbidkghlpijecaaGreatDoor
