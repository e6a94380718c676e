/-
  Texts of the claim SlabDestroys, part 16: what its theorem leans on.
-/
import Derived.Test.YtigikedbffjeiaaGreatPackSlabDestroys15
import Derived.Test.YtigikedbffjeiaaGreatPackSlabDestroys9
import Derived.Test.YtigikedbffjeiaaGreatPackSlabDestroys8
import Derived.Test.YtigikedbffjeiaaGreatPackSlabDestroys14
set_option linter.unusedVariables false
set_option linter.unusedSimpArgs false
namespace Go.Proofs.YtigikedbffjeiaaGreat
open Go.RowKit
theorem countP_lt {α : Type} {p q : α → Bool}:∀ {l:List α},(∀ x∈l,p x=true→q x=true)→(∃ x∈l,p x=false∧q x=true)→l.countP p<l.countP q
 | [],_,h=>by obtain ⟨x,hx,_⟩:=h;simp at hx
 | a::l,h1,h2=>by
  rw [List.countP_cons,List.countP_cons]
  have hle:l.countP p≤l.countP q:=List.countP_mono_left (fun x hx=>h1 x (by simp [hx]))
  obtain ⟨x,hx,hp,hq⟩:=h2
  rcases List.mem_cons.1 hx with rfl|hx
  ·simp [hp,hq];omega
  ·have ih:=countP_lt (l:=l) (fun y hy=>h1 y (by simp [hy])) ⟨x,hx,hp,hq⟩
   have:=h1 a (by simp)
   cases hpa:p a<;>cases hqa:q a<;>simp [hpa,hqa] at this ⊢<;>omega
theorem addAll_len:∀ {l:List Block} {cs bs:List Block},(∀ b∈l,1≤pw b.Order)→addAll (some cs) l=some bs→cs.length≤(List.range 256).countP (covP cs)→(∀ x∈cs,0≤x.At∧1≤pw x.Order)→bs.length≤(List.range 256).countP (covP bs)
 | [],cs,bs,_,h,hc,_=>by injection h with h;subst h;exact hc
 | b::l,cs,bs,hp,h,hc,hg=>by
  have h':addAll (addB (some cs) b) l=some bs:=h
  cases e:addB (some cs) b with
  | none=>rw [e,addAll_none] at h';cases h'
  | some ds =>
   rw [e] at h'
   obtain ⟨cs',e1,hf,rfl⟩:=addB_some e
   injection e1 with e1
   subst e1
   have h1:=hp b (by simp)
   have hok:=(okM_iff hg h1).2 hf
   refine addAll_len (fun x hx=>hp x (by simp [hx])) h' ?_ (fun x hx => ?_)
   ·have:=countP_lt (p:=covP cs) (q:=covP (cs++[b])) (l:=List.range 256) (fun x _ hx=>by simp only [covP,List.any_append,Bool.or_eq_true] at hx ⊢;exact .inl hx)
     ⟨b.At.toNat,by simp;have:=hf.1;have:=hf.2.1;omega,hok.2.2.2 _ (by have:=hf.1;omega) (by have:=hf.1;omega),by
      simp only [covP,List.any_append,Bool.or_eq_true]
      right
      have:=hf.1
      simp [inB]
      omega⟩
    simp
    omega
   ·rcases List.mem_append.1 hx with hx|hx
    ·exact hg x hx
    ·simp at hx;subst hx;exact ⟨hf.1,h1⟩
theorem addAll_256 {l bs:List Block} (hp:∀ b∈l,1≤pw b.Order) (h:addAll (some []) l=some bs) : bs.length≤256:=by
 have:=addAll_len hp h (by simp) (fun x hx=>by simp at hx)
 have h2:(List.range 256).countP (covP bs)≤(List.range 256).length:=List.countP_le_length
 simp at h2
 omega
section
variable {P:Program} {n:Nat} {ops:Array Oper} {Q:Exit→Act→World→Prop} {rest:List Oper} {L:Env} {w:World}
theorem SW.callvX {d:Nat} {fo:Operand} {f:FuncId} {cap:List Value} {xs:List Operand} {vs:List Value} {ts:Array TypeId} {T:TypeId} {pos:String} {af:Array Edge} {R:Value→World→Prop}
  [Body P f] (hf:opv L fo=some (.func (.func f) #[] cap.toArray)) (hx:opvs L xs=some vs) (hn:Nat.blt d n=true) (hc:AnsX P f (vs++cap) w R) (h:∀ v w',R v w'→SW P n ops (.eff Q) rest ((d,v)::L) w') :
  SW P n ops (.eff Q) (⟨some d,.call ⟨.value fo,xs.toArray,ts⟩,T,pos,af,none⟩::rest) L w :=
 ⟨fun a ha=>by
  simp only [swp,wpList,Region.wanted,if_true]
  refine .inl ?_
  unfold Oper.wp
  rw [run_callv (ha.eval hf),Oper.upon_enter,ha.evals hx]
  refine Calls.mono hc.out ?_
  rintro e w' ⟨v,rfl,hv⟩
  exact (h v w' hv).out _ (ha.put hn v)⟩
end
structure Kp (w w':World) : Prop where
 k:∀ (g:Nat) (t:TypeId) (cs:List Value),Blk w g t cs→Nat.beq 94 t=false→Nat.beq 25 t=false→Blk w' g t cs
theorem Kp.refl (w:World) : Kp w w:=⟨fun _ _ _ h _ _=>h⟩
theorem Kp.ext {w w1 w2:World} (h:Kp w w1) (hx:Ext w1 w2) : Kp w w2:=⟨fun g t cs hb h1 h2=>(h.k g t cs hb h1 h2).ext hx⟩
theorem Kp.grB {w w1 w2:World} (h:Kp w w1) (hG:GrT w1 w2 94) : Kp w w2:=⟨fun g t cs hb h1 h2=>(h.k g t cs hb h1 h2).grT hG h1⟩
theorem Kp.grS {w w1 w2:World} (h:Kp w w1) (hG:GrT w1 w2 25) : Kp w w2:=⟨fun g t cs hb h1 h2=>(h.k g t cs hb h1 h2).grT hG h2⟩
structure AllS (w:World) (lo b:Nat) (l:List Block) : Prop where
 ex:∃ A c,Blk w b 25 [.slice A l.length c]∧Own w lo 94 3 encBk A l.length c l
theorem AllS.ext {w w':World} {lo b:Nat} {l:List Block} (h:AllS w lo b l) (hx:Ext w w') : AllS w' lo b l:=by
 obtain ⟨A,c,h1,h2⟩:=h.ex
 exact ⟨A,c,h1.ext hx,h2.ext hx⟩
theorem add_0 (b:Nat) : (⟨b,0,none⟩ : Addr).add 0=⟨b,0,none⟩:=by unfold Addr.add;simp
theorem Blk.cell0 {w:World} {b:Nat} {t:TypeId} {cs:List Value} (h:Blk w b t cs) {v:Value} (hv:cs[0]?=some v) : w.cell? ⟨b,0,none⟩=some v:=by
 rw [← add_0];exact h.cell hv
def AddRes (w wE:World) (b:Nat) (l:List Block) (x:Block) (v:Value) (w':World) : Prop:=Ext w w'∧Kp wE w'∧((v = .bool true∧fitsL l x∧AllS w' w.heap.size b (l++[x]))∨(v = .bool false ∧ ¬ fitsL l x∧AllS w' w.heap.size b l))
set_option maxHeartbeats 4000000 in
theorem addC_ans (b:Nat) (l:List Block) (x:Block) (w wE:World) (hw:Ext w wE) (hbw:w.heap.size≤b) (hS:AllS wE w.heap.size b l) (hall:∀ y∈l,blkOk 0 256 y) (hlen:l.length≤256) (hx:blkOk 0 256 x) :
  AnsX Tryz.prog 101 [.agg (encBk x).toArray,.pointer (some ⟨b,0,none⟩)] wE (AddRes w wE b l x):=by
 refine ansx_of Tryz.func101 rfl Tryz.ntmps101 rfl ?_
 have hK:=Kp.refl wE
 obtain ⟨A,c,hB,hO⟩:=hS.ex
 clear hS
 obtain ⟨⟨o1,o2,a1,a2,a3⟩,ty⟩:=id hx
 have hp:=pw_le o1 o2
 refine CW.seq (CW.region (SW.box rfl rfl fun b2 w2 hw2 hb2b hb2 => ?_))
 (replace hw:=Ext.trans hw hw2;replace hB:=hB.ext hw2;replace hO:=hO.ext hw2;replace hK:=hK.ext hw2)
 have hB0:=hB.cell0 rfl
 have cO:∀ w',Ext w w'→Sl w' 3 encBk A l.length l→Ans Tryz.prog 102 [.slice A l.length c,.int .i64 x.At,.int .i64 x.Order] w' fun v _=>v = .bool (overB l x.At x.Order):=fun w' _ h =>
  overlaps_ans _ _ _ _ 0 256 _ _ _ h hall (by omega) (by omega) (by omega) ⟨by omega,by omega⟩ ⟨o1,o2⟩
 obtain ⟨q,hq⟩ : ∃ q,overB l x.At x.Order=q:=⟨_,rfl⟩
 rw [hq] at cO
 have hcs:(q=true)∨(q=false∧256<x.At+pw x.Order)∨(q=false∧x.At+pw x.Order≤256):=by cases q<;>simp<;>omega
 rcases hcs with rfl|⟨rfl,d⟩|⟨rfl,d⟩
 repeat' (first|(first|refine CW.seq ?_|refine CW.region ?_|refine CW.condtr rfl (by with_reducible rfl) ?_|refine CW.condd_t rfl (by omega) ?_|refine CW.condd_f rfl (by omega) ?_|refine CW.skip ?_|refine CW.ret ?_|(apply CW.quiet1 mixed;(· kernel_rfl);rotate_left;intro w1 hw1;replace hw:=Ext.trans hw hw1;replace hB:=hB.ext hw1;replace hO:=hO.ext hw1;replace hb2:=hb2.ext hw1;replace hK:=hK.ext hw1;clear hw1;rotate_right))|(first|refine Post.seq ?_|refine Post.seq_ret ?_)|refine SW.nil ?_|(show SW _ _ _ _ (⟨_,_,_,_,_,some _⟩::_) _ _;first|refine SW.want_f rfl rfl (by with_reducible rfl) ?_|refine SW.skip_f rfl rfl (by with_reducible rfl) rfl ?_|refine SW.splitd_f rfl rfl rfl (by omega) ?_)|refine SW.pure rfl rfl ?_|(show SW _ _ _ _ (⟨_,Op.fieldAddr _ _ _,_,_,_,none⟩::_) _ _;refine SW.st (st_field rfl) rfl ?_)|(show SW _ _ _ _ (⟨_,Op.binOp _ _ _ _ _,_,_,_,none⟩::_) _ _;refine SW.st (st_add rfl rfl (by omega) (by omega)) rfl ?_)|(show SW _ _ _ _ (⟨_,Op.load _ _,_,_,_,none⟩::_) _ _;first|refine SW.st (st_load rfl hB0) rfl ?_|refine SW.st (st_load rfl (hb2.cell rfl)) rfl ?_)|(show SW _ _ _ _ (⟨_,Op.call ⟨.value (.func _),_,_⟩,_,_,_,none⟩::_) _ _;first|refine SW.qcall rfl rfl (fun w1 hw1=>(cO _ (Ext.trans hw hw1) (hO.sl.ext hw1))) ?_|refine SW.qcall rfl rfl (fun w1 hw1=>(power_ans _ (by omega) _)) ?_)|exact SW.qnil rfl)
 iterate 2 exact Post.ret1 rfl rfl ⟨_,rfl,hw,hK,.inr ⟨rfl,fun hf=>by have h1:=hf.2.1;have h2:=hf.2.2;simp [hq] at h2<;>omega,⟨A,c,hB,hO⟩⟩⟩
 have hB1:=hB.cell0 rfl
 repeat' ((show SW _ _ _ _ (⟨_,Op.load _ _,_,_,_,none⟩::_) _ _;first|refine SW.st (st_load rfl hB1) rfl ?_|refine SW.st (st_loads rfl rfl ((fun _ _=>hb2.cell))) rfl ?_))
 refine SW.build1 rfl rfl rfl rfl rfl fun b4 w4 hXX hb4 hB4 => ?_
 (replace hw:=Ext.trans hw hXX;replace hB:=hB.ext hXX;replace hO:=hO.ext hXX;replace hK:=hK.ext hXX)
 refine SW.append hO (Blk.sl1 (enc:=encBk) hB4) hw.size rfl rfl rfl (by omega) (by omega) fun A2 c2 w5 hO2 hg => ?_
 have hG:=hO.gr hg
 replace hw:=ext_grown hw hg (Nat.le_refl _) hO.row_ge
 replace hK:=hK.grB hG
 (replace hB:=hB.grT hG rfl)
 refine SW.storeB (i:=0) hB (by rw [add_0];rfl) rfl rfl rfl fun w6 hB' hg => ?_
 have hG:=hB.gr hg
 replace hw:=hw.own hbw hg
 replace hK:=hK.grS hG
 (replace hO2:=hO2.grT hG rfl)
 repeat' (first|(first|refine CW.seq ?_|refine CW.region ?_|refine CW.ret ?_)|(refine Post.seq ?_)|refine SW.nil ?_|refine SW.pure rfl rfl ?_)
 exact Post.ret1 rfl rfl ⟨_,rfl,hw,hK,.inl ⟨rfl,⟨a1,d,hq⟩,⟨A2,c2,by simpa using hB',by simpa using hO2⟩⟩⟩
theorem live_lt {l:List Block} (h:LiveOk l) : l.Pairwise fun x y=>x.At<y.At:=by
 have key:∀ (d i:Nat) (hj:i+d+1<l.length),(l[i]'(by omega)).At<l[i+d+1].At:=by
  intro d
  induction d with
  | zero=>intro i hj;exact h.next i hj
  | succ d ih=>intro i hj;exact Int.lt_trans (ih i (by omega)) (h.next (i+d+1) (by omega))
 rw [List.pairwise_iff_getElem]
 intro i j hi hj hij
 have:=key (j-i-1) i (by omega)
 have e:i+(j-i-1)+1=j:=by omega
 simp only [e] at this
 exact this
theorem found_at {l:List Block} {a:Int} (h:foundA l a=true) : ∃ hk:lbOf l a<l.length,l[lbOf l a].At=a:=by
 unfold foundA at h
 split at h
 ·rename_i hk;exact ⟨hk,of_decide_eq_true h⟩
 ·cases h
theorem found_uniq {l:List Block} (hu:l.Pairwise fun x y=>x.At<y.At) {a:Int} {k:Nat} (hk:k<l.length) (h:l[k].At=a) : lbOf l a=k∧foundA l a=true:=by
 rw [List.pairwise_iff_getElem] at hu
 have e:lbOf l a=k:=lb_spec (by omega) (fun j hj hjk=>by have:=hu j k hj hk hjk;omega) (fun _=>by omega)
 refine ⟨e,?_⟩
 unfold foundA
 simp only [e,dif_pos hk]
 exact decide_eq_true h
theorem found_none {l:List Block} {a:Int} (h:∀ (k:Nat) (hk:k<l.length),l[k].At≠a) : foundA l a=false:=by
 unfold foundA
 split
 ·rename_i hk;exact decide_eq_false (h _ hk)
 ·rfl
theorem erase_at {l:List Block} (hu:l.Pairwise fun x y=>x.At<y.At) {k:Nat} (hk:k<l.length) {a o:Int} (ha:l[k].At=a) (ho:l[k].Order=o) : l.eraseIdx k=without l a o:=by
 rw [List.pairwise_iff_getElem] at hu
 have hne:∀ (j:Nat) (hj:j<l.length),j≠k→isB a o l[j]=false:=fun j hj hjk=>by
  cases hh:isB a o l[j] with
  | false=>rfl
  | true =>
   obtain ⟨e1,e2⟩:=isB_iff.1 hh
   rcases Nat.lt_trichotomy j k with h1|h1|h1
   ·have:=hu j k hj hk h1;omega
   ·exact absurd h1 hjk
   ·have:=hu k j hk hj h1;omega
 have e:l=l.take k++l[k]::l.drop (k+1):=by simp
 have hL:∀ x∈l.take k,isB a o x=false:=fun x hx=>by
  obtain ⟨j,hj,rfl⟩:=List.getElem_of_mem hx
  simp at hj
  rw [List.getElem_take]
  exact hne j (by omega) (by omega)
 have hR:∀ x∈l.drop (k+1),isB a o x=false:=fun x hx=>by
  obtain ⟨j,hj,rfl⟩:=List.getElem_of_mem hx
  simp at hj
  rw [List.getElem_drop]
  exact hne _ (by omega) (by omega)
 have hm:isB a o l[k]=true:=isB_iff.2 ⟨ha,ho⟩
 unfold without
 rw [List.eraseIdx_eq_take_drop_succ]
 conv=>rhs;rw [e]
 rw [List.filter_append,List.filter_cons]
 simp only [hm,Bool.not_true,Bool.false_eq_true,if_false]
 rw [List.filter_eq_self.2 (fun x hx=>by simp [hL x hx]),List.filter_eq_self.2 (fun x hx=>by simp [hR x hx])]
noncomputable def typeZ (z:Zone) (a:Int) : Int:=z.Types.getD ((a-z.From) / 8).toNat 0
noncomputable def keyOf (z0 z1:Zone) (cpu a:Int) : PList:=⟨cpu,if a<z0.To then 0 else 1,if a<z0.To then typeZ z0 a else typeZ z1 a,[]⟩
def withP (x:PList) (pg:List Int) : PList:=⟨x.Cpu,x.Zone,x.Ty,pg⟩
noncomputable def freedBig (h:Heap) (z0 z1:Zone) (b:Block) (lv:List Block) : Heap:=⟨[(backP (z0,z1) b).1,(backP (z0,z1) b).2],h.Mins,h.Cpus,h.Lists,lv⟩
noncomputable def freedOne (h:Heap) (z0 z1:Zone) (x:PList) (pg:List Int) (lv:List Block) : Heap :=
 if 8<pg.length then ⟨[(backAll (z0,z1) ((pg.take 4).map pageB)).1,(backAll (z0,z1) ((pg.take 4).map pageB)).2],h.Mins,h.Cpus,setL h.Lists (withP x (pg.drop 4)),lv⟩ else ⟨[z0,z1],h.Mins,h.Cpus,setL h.Lists (withP x pg),lv⟩
noncomputable def freedV (h:Heap) (cpu a:Int) : Heap:=match h.Zones with
 | [z0,z1]=>if 0<(h.Live.getD (lbOf h.Live a) ⟨0,0,0⟩).Order then freedBig h z0 z1 (h.Live.getD (lbOf h.Live a) ⟨0,0,0⟩) (h.Live.eraseIdx (lbOf h.Live a)) else freedOne h z0 z1 (keyOf z0 z1 cpu a) (pagesAt h.Lists (keyOf z0 z1 cpu a)++[a]) (h.Live.eraseIdx (lbOf h.Live a))
 | _=>⟨[],[],0,[],[]⟩
noncomputable def freeV (h:Heap) (cpu a:Int) : Int×Heap :=
 if heapB h then (if 0≤cpu∧cpu<h.Cpus then (if foundA h.Live a then (0,freedV h cpu a) else (4,⟨[],[],0,[],[]⟩)) else (1,⟨[],[],0,[],[]⟩)) else (8,⟨[],[],0,[],[]⟩)
theorem freeV_8 {h:Heap} {cpu a:Int} (hb:heapB h=false) : freeV h cpu a=(8,⟨[],[],0,[],[]⟩):=by simp [freeV,hb]
theorem freeV_1 {h:Heap} {cpu a:Int} (hb:heapB h=true) (hc : ¬ (0≤cpu∧cpu<h.Cpus)) : freeV h cpu a=(1,⟨[],[],0,[],[]⟩):=by simp only [freeV,hb,if_true,if_neg hc]
theorem freeV_4 {h:Heap} {cpu a:Int} (hb:heapB h=true) (hc : 0≤cpu∧cpu<h.Cpus) (hf:foundA h.Live a=false) : freeV h cpu a=(4,⟨[],[],0,[],[]⟩):=by simp only [freeV,hb,if_true,if_pos hc,hf,Bool.false_eq_true,if_false]
theorem freeV_0 {h:Heap} {cpu a:Int} (hb:heapB h=true) (hc : 0≤cpu∧cpu<h.Cpus) (hf:foundA h.Live a=true) : freeV h cpu a=(0,freedV h cpu a):=by simp only [freeV,hb,if_true,if_pos hc,hf]
theorem freedV_big {h:Heap} {z0 z1:Zone} {cpu a:Int} (hz:h.Zones=[z0,z1]) {k:Nat} (hk:k<h.Live.length) (e:lbOf h.Live a=k) (ho : 0<h.Live[k].Order) : freedV h cpu a=freedBig h z0 z1 h.Live[k] (h.Live.eraseIdx k):=by
 have:h.Live.getD k ⟨0,0,0⟩=h.Live[k]:=by rw [List.getD_eq_getElem?_getD,List.getElem?_eq_getElem hk];rfl
 simp only [freedV,hz,e,this,if_pos ho]
theorem freedV_one {h:Heap} {z0 z1:Zone} {cpu a:Int} (hz:h.Zones=[z0,z1]) {k:Nat} (hk:k<h.Live.length) (e:lbOf h.Live a=k) (ho : ¬ 0<h.Live[k].Order) : freedV h cpu a=freedOne h z0 z1 (keyOf z0 z1 cpu a) (pagesAt h.Lists (keyOf z0 z1 cpu a)++[a]) (h.Live.eraseIdx k):=by
 have:h.Live.getD k ⟨0,0,0⟩=h.Live[k]:=by rw [List.getD_eq_getElem?_getD,List.getElem?_eq_getElem hk];rfl
 simp only [freedV,hz,e,this,if_neg ho]
structure FHeap (h:Heap) (z0 z1:Zone) : Prop where
 d:DHeap h z0 z1
 sorted:LsS h.Lists
 live:LiveOk h.Live
 lists:∀ l∈h.Lists,1≤l.Pages.length∧l.Pages.length≤8
 all:(addAll (some []) (z0.Free++z1.Free++pagesB h.Lists++h.Live)).isSome=true
 cpus : 1≤h.Cpus∧h.Cpus≤4
 count:h.Lists.length≤256
theorem overB_sub {l m:List Block} {a o:Int} (h:∀ x∈l,x∈m) (ho:overB m a o=false) : overB l a o=false:=by
 unfold overB at *
 rw [List.any_eq_false] at *
 exact fun x hx=>ho x (h x hx)
theorem NextB.sub {l m:List Block} {b:Block} (h:NextB m b) (hs:∀ x∈l,x∈m) : NextB l b:=⟨h.ord,h.at_,h.al,⟨h.fits.1,h.fits.2.1,overB_sub hs h.fits.2.2⟩,fun x hx=>h.good x (hs x hx)⟩
theorem FHeap.next {h:Heap} {z0 z1:Zone} (f:FHeap h z0 z1) {k:Nat} (hk:k<h.Live.length) : NextB (z0.Free++z1.Free) h.Live[k]:=by
 have hall:=f.all
 have e:z0.Free++z1.Free++pagesB h.Lists++h.Live=(z0.Free++z1.Free++pagesB h.Lists++h.Live.take k)++h.Live[k]::h.Live.drop (k+1):=by simp
 rw [e] at hall
 have hf:=addAll_fitsL hall
 have hl:=f.live.each k hk
 have hs:∀ x∈z0.Free++z1.Free,x∈z0.Free++z1.Free++pagesB h.Lists++h.Live.take k:=fun x hx=>List.mem_append_left _ (List.mem_append_left _ hx)
 obtain ⟨l1,l2,l3,l4⟩:=hl
 refine ⟨l1,by omega,l3,⟨hf.1,hf.2.1,overB_sub hs hf.2.2⟩,fun x hx => ?_⟩
 rcases List.mem_append.1 hx with hx|hx
 ·exact zone_good f.d.may0 x hx
 ·exact zone_good f.d.may1 x hx
theorem FHeap.page {h:Heap} {z0 z1:Zone} (f:FHeap h z0 z1) {i j:Nat} (hi:i<h.Lists.length) (hj:j<h.Lists[i].Pages.length) : NextB (z0.Free++z1.Free++(h.Lists[i].Pages.take j).map pageB) (pageB h.Lists[i].Pages[j]):=by
 obtain ⟨hK,hKe⟩:=cnt_get hi hj
 have hN:=f.d.next hK
 rw [hKe] at hN
 refine hN.sub fun x hx => ?_
 rcases List.mem_append.1 hx with hx|hx
 ·exact List.mem_append_left _ hx
 ·refine List.mem_append_right _ ?_
  obtain ⟨p,hp,rfl⟩:=List.mem_map.1 hx
  obtain ⟨m,hm,rfl⟩:=List.getElem_of_mem hp
  simp only [List.length_take] at hm
  rw [List.getElem_take]
  obtain ⟨hM,hMe⟩:=cnt_get hi (show m<h.Lists[i].Pages.length by omega)
  rw [← hMe]
  exact List.mem_take_iff_getElem.2 ⟨cntB h.Lists i+m,by omega,rfl⟩
theorem FHeap.inv {h:Heap} {z0 z1:Zone} (f:FHeap h z0 z1) {i:Nat} (hi:i<h.Lists.length) : ∀ j,j≤h.Lists[i].Pages.length→DInv (backAll (z0,z1) ((h.Lists[i].Pages.take j).map pageB)) (z0.Free++z1.Free++(h.Lists[i].Pages.take j).map pageB)
 | 0,_=>by simpa [backAll] using f.d.start
 | j+1,hj=>by
  have ih:=(f.inv hi j (by omega)).back (f.page hi (show j<_ by omega))
  have e:(h.Lists[i].Pages.take (j+1)).map pageB=(h.Lists[i].Pages.take j).map pageB++[pageB h.Lists[i].Pages[j]]:=by
   rw [List.take_succ_eq_append_getElem (by omega),List.map_append];rfl
  rw [e,← List.append_assoc,backAll_append]
  exact ih.1
theorem fheap_of {h:Heap} (hm:HeapMay h) : ∃ z0 z1,FHeap h z0 z1:=by
 obtain ⟨z0,z1,h1,h2,h3,h4,h5,h6,h7,h8⟩:=hm.zones
 have hd:DHeap h z0 z1:=⟨h1,h2,h3,h4,h5,h6,addAll_some_of h8⟩
 have hl:∀ l∈h.Lists,1≤l.Pages.length∧l.Pages.length≤8:=fun l hl=>by
  obtain ⟨i,hi,rfl⟩:=List.getElem_of_mem hl
  exact (h7.head i hi).2.2.2
 refine ⟨z0,z1,hd,lists_sorted h7,hm.live,hl,h8,hm.cpus,?_⟩
 have key:∀ k,k≤h.Lists.length→k≤cntB h.Lists k:=by
  intro k
  induction k with
  | zero=>intro _;omega
  | succ k ih =>
   intro hk
   have:=ih (by omega)
   have:=(hl _ (List.getElem_mem (show k<h.Lists.length by omega))).1
   rw [cnt_succ (show k<h.Lists.length by omega)]
   omega
 have hc:=key _ (Nat.le_refl _)
 rw [cnt_all] at hc
 have hb:(pagesB h.Lists).length≤256:=by
  obtain ⟨bs,hbs⟩:=Option.isSome_iff_exists.1 hd.all
  have h9:=addAll_256 hd.pw hbs
  have e:=addAll_some hbs
  rw [List.nil_append] at e
  subst e
  simp only [List.length_append] at h9
  omega
 omega
theorem mul_bd {x y:Int} (h1 : 0≤x) (h2:x≤64) (h3 : 0≤y) (h4:y≤64) : 0≤x*y∧x*y≤4096 :=
 ⟨Int.mul_nonneg h1 h3,by have:=Int.mul_le_mul h2 h4 h3 (by omega:(0:Int)≤64);omega⟩
def objB (size per t a:Int) : Bool:=decide (0≤a-t*16) && decide (a-t*16<per*size) && decide ((a-t*16) % size=0)
theorem objB_hit {size per t a:Int} {k:Nat} (hs : 1≤size) (hk:(k:Int)<per) (h:a=16*t+k*size) : objB size per t a=true:=by
 have e:a-t*16=k*size:=by omega
 unfold objB
 rw [e,decide_eq_true (Int.mul_nonneg (by omega) (by omega)),decide_eq_true (Int.mul_lt_mul_of_pos_right hk (by omega)),decide_eq_true (Int.mul_emod_left _ _)]
 rfl
theorem objB_miss {size per t a:Int} (hs : 1≤size) (h:∀ k:Nat,(k:Int)<per→a≠16*t+k*size) : objB size per t a=false:=by
 cases e:objB size per t a
 ·rfl
 ·exfalso
  unfold objB at e
  simp only [Bool.and_eq_true,decide_eq_true_eq] at e
  obtain ⟨⟨e1,e2⟩,e3⟩:=e
  have h1:(a-t*16) / size<per:=Int.ediv_lt_of_lt_mul (by omega) e2
  have h2 : 0≤(a-t*16) / size:=Int.ediv_nonneg e1 (by omega)
  have h3:=Int.mul_ediv_add_emod (a-t*16) size
  obtain ⟨k,hk⟩:=Int.eq_ofNat_of_zero_le h2
  rw [hk] at h1 h3
  rw [e3,Int.mul_comm] at h3
  exact h k h1 (by omega)
def ChainIs (ws:List Int) (size per:Int) (x:Slab) (out:List Int) : Prop:=Follows ws per x.First [] (some out)∧(out.length:Int)=x.Free ∧ ∀ a∈out,objB size per x.At a=true
theorem Follows.mem {l:List Int} {most x:Int} {acc:List Int} {r:Option (List Int)} (h:Follows l most x acc r) : (∀ a∈acc,0≤a∧a<(l.length:Int)) → ∀ out,r=some out → ∀ a∈out,0≤a∧a<(l.length:Int):=by
 induction h with
 | done out=>intro ha o e;cases e;exact ha
 | bad=>intro _ _ e;cases e
 | @step k out r h1 hk h3 h ih =>
  intro ha o e
  refine ih (fun a hm => ?_) o e
  rcases List.mem_append.1 hm with hm|hm
  ·exact ha a hm
  ·simp at hm;subst hm;exact ⟨by omega,by omega⟩
def ordA (l:List Block) (a:Int) : Int:=if foundA l a then (l.getD (lbOf l a) ⟨0,0,0⟩).Order else -1
theorem ordA_t {l:List Block} {a:Int} (h:foundA l a=true) (hk:lbOf l a<l.length) : ordA l a=l[lbOf l a].Order:=by
 unfold ordA
 rw [if_pos h]
 simp [List.getD,hk]
theorem ordA_f {l:List Block} {a:Int} (h:foundA l a=false) : ordA l a = -1:=by
 unfold ordA
 rw [h]
 rfl
structure SlabMay (s:KSystem) (c:KCache) (i:Nat) (h:i<c.Slabs.length) : Prop where
 live:ordA s.Heap.Live c.Slabs[i].At=c.Order
 next : 0<i→(c.Slabs[i-1]'(by omega)).At<c.Slabs[i].At
 chain:∃ out,ChainIs s.Words c.Size c.Per c.Slabs[i] out
def atB (t:Int) (x:Slab) : Bool:=decide (x.At=t)
def ActMay (c:KCache) (i:Nat) (h:i<c.Active.length) : Prop:=c.Active[i] = -1∨(c.Active[i]∉c.Active.take i∧c.Slabs.any (atB c.Active[i])=true)
structure CacheMay (s:KSystem) (c:KCache) : Prop where
 lay:layoutF c.Size=(c.Order,c.Per,0)
 names : 0<c.Names.length
 active:(c.Active.length:Int)=s.Heap.Cpus
 slabs:∀ (i:Nat) (h:i<c.Slabs.length),SlabMay s c i h
 acts:∀ (i:Nat) (h:i<c.Active.length),ActMay c i h
noncomputable def cacheB (s:KSystem) (c:KCache) : Bool := @decide (CacheMay s c) (Classical.propDecidable _)
theorem cacheB_t {s:KSystem} {c:KCache} (a:CacheMay s c) : cacheB s c=true:=by unfold cacheB;exact @decide_eq_true _ (Classical.propDecidable _) a
theorem cacheB_f {s:KSystem} {c:KCache} (a : ¬ CacheMay s c) : cacheB s c=false:=by unfold cacheB;exact @decide_eq_false _ (Classical.propDecidable _) a
theorem cacheB_iff {s:KSystem} {c:KCache}:cacheB s c=true↔CacheMay s c:=by
 by_cases a:CacheMay s c
 ·simp [cacheB_t a,a]
 ·simp [cacheB_f a,a]
theorem layoutF_ok {x o n:Int} (h:layoutF x=(o,n,0)) : (1≤x∧x≤64)∧(0≤o∧o≤2)∧(1≤n∧n≤64):=by
 unfold layoutF at h
 split at h
 ·rename_i hx
  have k1 : 64 / x≤64:=Int.ediv_le_self _ (by omega)
  have k2 : 1≤64 / x:=by rw [Int.le_ediv_iff_mul_le (by omega)];omega
  have k3 : 16 / x≤16:=Int.ediv_le_self _ (by omega)
  have k4 : 32 / x≤32:=Int.ediv_le_self _ (by omega)
  split at h
  ·simp only [Prod.mk.injEq] at h
   omega
  ·split at h
   ·simp only [Prod.mk.injEq] at h
    omega
   ·simp only [Prod.mk.injEq] at h
    omega
 ·simp only [Prod.mk.injEq] at h
  omega
def namesAhead (cs:List KCache) : List ByteArray:=cs.flatMap fun c=>c.Names
def slabsAhead (cs:List KCache) : List Int:=cs.flatMap fun c=>c.Slabs.map fun x=>x.At
structure NamesIn (acc l:List ByteArray) : Prop where
 each:∀ (k:Nat) (h:k<l.length),nameB l[k]=true∧l[k]∉acc++l.take k∧(0<k→lessS (l[k-1]'(by omega)) l[k]=true)
def SlabsIn (acc:List Int) (l:List Slab) : Prop := ∀ (k:Nat) (h:k<l.length),l[k].At∉acc++(l.take k).map fun x=>x.At
structure CacheIn (s:KSystem) (i:Nat) (h:i<s.Caches.length) : Prop where
 may:CacheMay s s.Caches[i]
 size:∀ (j:Nat) (hj:j<i),(s.Caches[j]'(by omega)).Size≠s.Caches[i].Size
 names:NamesIn (namesAhead (s.Caches.take i)) s.Caches[i].Names
 slabs:SlabsIn (slabsAhead (s.Caches.take i)) s.Caches[i].Slabs
structure SystemMay (s:KSystem) : Prop where
 words:s.Words.length=4096
 heap:HeapMay s.Heap
 most:s.Caches.length≤20
 each:∀ (i:Nat) (h:i<s.Caches.length),CacheIn s i h
noncomputable def sysB (s:KSystem) : Bool := @decide (SystemMay s) (Classical.propDecidable _)
theorem sysB_t {s:KSystem} (a:SystemMay s) : sysB s=true:=by unfold sysB;exact @decide_eq_true _ (Classical.propDecidable _) a
theorem sysB_f {s:KSystem} (a : ¬ SystemMay s) : sysB s=false:=by unfold sysB;exact @decide_eq_false _ (Classical.propDecidable _) a
theorem sysB_iff {s:KSystem}:sysB s=true↔SystemMay s:=by
 by_cases a:SystemMay s
 ·simp [sysB_t a,a]
 ·simp [sysB_f a,a]
theorem namesAhead_take (cs:List KCache) (i:Nat) (h:i<cs.length) : namesAhead (cs.take (i+1))=namesAhead (cs.take i)++cs[i].Names:=by
 unfold namesAhead
 rw [List.take_succ_eq_append_getElem h,List.flatMap_append]
 simp
theorem slabsAhead_take (cs:List KCache) (i:Nat) (h:i<cs.length) : slabsAhead (cs.take (i+1))=slabsAhead (cs.take i)++cs[i].Slabs.map fun x=>x.At:=by
 unfold slabsAhead
 rw [List.take_succ_eq_append_getElem h,List.flatMap_append]
 simp
open Go.RowKit
theorem wrap_low {z:Int} (h1 : -18446744073709551616<z) (h2:z < -9223372036854775808) : IntKind.i64.wrap z=z+18446744073709551616:=by
 simp [IntKind.wrap,IntKind.bits,IntKind.signed]
 omega
theorem object_ans (r:CRow) (t a:Int) (w:World) (hs : 1≤r.Size∧r.Size≤64) (hp : 1≤r.Per∧r.Per≤64) (ht : 0≤t∧t≤255) (ha : -9223372036854775808≤a∧a≤9223372036854775807) :
  Ans Tryz.prog 43 [.agg (encC r).toArray,.int .i64 t,.int .i64 a] w fun v _=>v = .bool (objB r.Size r.Per t a):=by
 refine ans_of Tryz.func43 rfl Tryz.ntmps43 rfl ?_
 refine CW.seq (CW.region (SW.box rfl rfl fun b1 w1 hw hb1b hb1 => ?_))
 have hm:=mul_bd (x:=r.Per) (y:=r.Size) (by omega) (by omega) (by omega) (by omega)
 unfold objB
 by_cases hlo:a-t*16 < -9223372036854775808
 ·have e:=wrap_low (z:=a-t*16) (by omega) hlo
  rw [decide_eq_false (show ¬ 0≤a-t*16 by omega)]
  repeat' (first|(first|refine CW.seq ?_|refine CW.region ?_|refine CW.ret ?_)|(refine Post.seq ?_)|refine SW.nil ?_|(show SW _ _ _ _ (⟨_,_,_,_,_,some _⟩::_) _ _;first|refine SW.want_t rfl rfl (by with_reducible rfl) ?_|refine SW.skip_t rfl rfl (by with_reducible rfl) rfl ?_|refine SW.splitd_t rfl rfl rfl (by omega) ?_|refine SW.splitd_f rfl rfl rfl (by omega) ?_)|refine SW.pure rfl rfl ?_|(show SW _ _ _ _ (⟨_,Op.fieldAddr _ _ _,_,_,_,none⟩::_) _ _;refine SW.st (st_field rfl) rfl ?_)|(show SW _ _ _ _ (⟨_,Op.binOp _ _ _ _ _,_,_,_,none⟩::_) _ _;refine SW.st (st_mul rfl rfl (by omega) (by omega)) rfl ?_)|(show SW _ _ _ _ (⟨_,Op.load _ _,_,_,_,none⟩::_) _ _;refine SW.st (st_load rfl (hb1.cell rfl)) rfl ?_)|(refine SW.st ((st_subw rfl rfl).eq (congrArg (Value.int .i64) e)) rfl ?_))
  all_goals first|(exfalso;omega)|skip
  exact Post.ret1 rfl rfl ⟨_,rfl,hw,rfl⟩
 ·by_cases h0 : 0≤a-t*16
  ·have e:(a-t*16).tmod r.Size=(a-t*16) % r.Size:=Int.tmod_eq_emod_of_nonneg h0
   rw [decide_eq_true h0]
   by_cases h1:a-t*16<r.Per*r.Size
   ·rw [decide_eq_true h1]
    repeat' (first|(first|refine CW.seq ?_|refine CW.region ?_|refine CW.ret ?_)|(refine Post.seq ?_)|refine SW.nil ?_|(show SW _ _ _ _ (⟨_,_,_,_,_,some _⟩::_) _ _;first|refine SW.want_t rfl rfl (by with_reducible rfl) ?_|refine SW.splitd_t rfl rfl rfl (by omega) ?_)|refine SW.pure rfl rfl ?_|(show SW _ _ _ _ (⟨_,Op.fieldAddr _ _ _,_,_,_,none⟩::_) _ _;refine SW.st (st_field rfl) rfl ?_)|(show SW _ _ _ _ (⟨_,Op.binOp _ _ _ _ _,_,_,_,none⟩::_) _ _;first|refine SW.st (st_sub rfl rfl (by omega) (by omega)) rfl ?_|refine SW.st (st_mul rfl rfl (by omega) (by omega)) rfl ?_|refine SW.st (st_rem rfl rfl (by omega)) rfl ?_)|(show SW _ _ _ _ (⟨_,Op.load _ _,_,_,_,none⟩::_) _ _;refine SW.st (st_load rfl (hb1.cell rfl)) rfl ?_))
    all_goals first|(exfalso;omega)|skip
    refine Post.ret1 rfl rfl ⟨_,rfl,hw,?_⟩
    rw [e];rfl
   ·rw [decide_eq_false h1]
    repeat' (first|(first|refine CW.seq ?_|refine CW.region ?_|refine CW.ret ?_)|(refine Post.seq ?_)|refine SW.nil ?_|(show SW _ _ _ _ (⟨_,_,_,_,_,some _⟩::_) _ _;first|refine SW.want_t rfl rfl (by with_reducible rfl) ?_|refine SW.skip_t rfl rfl (by with_reducible rfl) rfl ?_|refine SW.splitd_t rfl rfl rfl (by omega) ?_|refine SW.splitd_f rfl rfl rfl (by omega) ?_)|refine SW.pure rfl rfl ?_|(show SW _ _ _ _ (⟨_,Op.fieldAddr _ _ _,_,_,_,none⟩::_) _ _;refine SW.st (st_field rfl) rfl ?_)|(show SW _ _ _ _ (⟨_,Op.binOp _ _ _ _ _,_,_,_,none⟩::_) _ _;first|refine SW.st (st_sub rfl rfl (by omega) (by omega)) rfl ?_|refine SW.st (st_mul rfl rfl (by omega) (by omega)) rfl ?_)|(show SW _ _ _ _ (⟨_,Op.load _ _,_,_,_,none⟩::_) _ _;refine SW.st (st_load rfl (hb1.cell rfl)) rfl ?_))
    all_goals first|(exfalso;omega)|skip
    exact Post.ret1 rfl rfl ⟨_,rfl,hw,rfl⟩
  ·rw [decide_eq_false h0]
   repeat' (first|(first|refine CW.seq ?_|refine CW.region ?_|refine CW.ret ?_)|(refine Post.seq ?_)|refine SW.nil ?_|(show SW _ _ _ _ (⟨_,_,_,_,_,some _⟩::_) _ _;first|refine SW.skip_t rfl rfl (by with_reducible rfl) rfl ?_|refine SW.splitd_f rfl rfl rfl (by omega) ?_)|refine SW.pure rfl rfl ?_|(show SW _ _ _ _ (⟨_,Op.binOp _ _ _ _ _,_,_,_,none⟩::_) _ _;first|refine SW.st (st_sub rfl rfl (by omega) (by omega)) rfl ?_|refine SW.st (st_mul rfl rfl (by omega) (by omega)) rfl ?_))
   all_goals first|(exfalso;omega)|skip
   exact Post.ret1 rfl rfl ⟨_,rfl,hw,rfl⟩
theorem isObject_ans (r:CRow) (t a:Int) (w:World) (hs : 1≤r.Size∧r.Size≤64) (hp : 1≤r.Per∧r.Per≤64) (ht : 0≤t∧t≤255) :
  Ans Tryz.prog 48 [.agg (encC r).toArray,.int .i64 t,.int .i64 a] w fun v _=>v = .bool (objB r.Size r.Per t a):=by
 refine ans_of Tryz.func48 rfl Tryz.ntmps48 rfl ?_
 refine CW.seq (CW.region (SW.box rfl rfl fun b1 w1 hw hb1b hb1 => ?_))
 repeat' (first|(first|refine CW.seq ?_|refine CW.region ?_|refine CW.block ?_)|(refine Post.seq ?_)|refine SW.nil ?_|refine SW.pure rfl rfl ?_)
 refine CW.loop (fun k:Nat=>[(1,.int .i64 t),(2,.int .i64 a),(3,.pointer (some ⟨b1,0,none⟩)),(7,.int .i64 (k:Int))]) (fun k w'=>(k:Int)≤r.Per∧Ext w w'∧Blk w' b1 44 (encC r) ∧ ∀ i:Nat,i<k→a≠16*t+i*r.Size) (fun k=>r.Per.toNat-k) 0
  ⟨rfl,rfl,rfl,rfl,trivial⟩ ⟨by omega,hw,hb1,fun i h=>by omega⟩ ?_
 clear hw hb1
 rintro k w' ⟨hk,hw,hb1,hI⟩
 by_cases hkn:(k:Int)<r.Per
 ·have hm:=mul_bd (x:=(k:Int)) (y:=r.Size) (by omega) (by omega) (by omega) (by omega)
  by_cases hx:a=16*t+k*r.Size
  ·rw [objB_hit hs.1 hkn hx]
   repeat' (first|(first|refine CW.seq ?_|refine CW.region ?_|refine CW.block ?_|refine CW.condd_t rfl (by omega) ?_|refine CW.skip ?_|refine CW.ret ?_)|(first|refine Post.seq ?_|refine Post.seq_ret ?_|refine Post.blk_ret ?_|refine Post.again_ret ?_)|refine SW.nil ?_|refine SW.pure rfl rfl ?_|(show SW _ _ _ _ (⟨_,Op.fieldAddr _ _ _,_,_,_,none⟩::_) _ _;refine SW.st (st_field rfl) rfl ?_)|(show SW _ _ _ _ (⟨_,Op.binOp _ _ _ _ _,_,_,_,none⟩::_) _ _;first|refine SW.st (st_add rfl rfl (by omega) (by omega)) rfl ?_|refine SW.st (st_mul rfl rfl (by omega) (by omega)) rfl ?_)|(show SW _ _ _ _ (⟨_,Op.load _ _,_,_,_,none⟩::_) _ _;refine SW.st (st_load rfl (hb1.cell rfl)) rfl ?_))
   all_goals first|(exfalso;omega)|skip
   exact Post.ret1 rfl rfl ⟨_,rfl,hw,rfl⟩
  ·repeat' (first|(first|refine CW.seq ?_|refine CW.region ?_|refine CW.block ?_|refine CW.condd_t rfl (by omega) ?_|refine CW.condd_f rfl (by omega) ?_|refine CW.skip ?_)|(first|refine Post.seq ?_|refine Post.blk ?_)|refine SW.nil ?_|refine SW.pure rfl rfl ?_|(show SW _ _ _ _ (⟨_,Op.fieldAddr _ _ _,_,_,_,none⟩::_) _ _;refine SW.st (st_field rfl) rfl ?_)|(show SW _ _ _ _ (⟨_,Op.binOp _ _ _ _ _,_,_,_,none⟩::_) _ _;first|refine SW.st (st_add rfl rfl (by omega) (by omega)) rfl ?_|refine SW.st (st_mul rfl rfl (by omega) (by omega)) rfl ?_)|(show SW _ _ _ _ (⟨_,Op.load _ _,_,_,_,none⟩::_) _ _;refine SW.st (st_load rfl (hb1.cell rfl)) rfl ?_))
   all_goals first|(exfalso;omega)|skip
   exact Post.again (k+1) ⟨rfl,rfl,rfl,rfl,trivial⟩ (by omega) ⟨by omega,hw,hb1,fun i h=>by
    by_cases e:i=k
    ·subst e;exact hx
    ·exact hI i (by omega)⟩
 ·rw [objB_miss hs.1 (fun i h=>hI i (by omega))]
  repeat' (first|(first|refine CW.seq ?_|refine CW.region ?_|refine CW.condd_f rfl (by omega) ?_|refine CW.ret ?_|refine CW.exit ?_)|(first|refine Post.seq ?_|refine Post.seq_exit ?_|refine Post.hit ?_|refine Post.again_exit ?_)|refine SW.nil ?_|refine SW.pure rfl rfl ?_|(show SW _ _ _ _ (⟨_,Op.fieldAddr _ _ _,_,_,_,none⟩::_) _ _;refine SW.st (st_field rfl) rfl ?_)|(show SW _ _ _ _ (⟨_,Op.load _ _,_,_,_,none⟩::_) _ _;refine SW.st (st_load rfl (hb1.cell rfl)) rfl ?_))
  exact Post.ret1 rfl rfl ⟨_,rfl,hw,rfl⟩
theorem chainF_ans (a:Int) (b4 b5:Nat) (q:CRow) (x:Slab) (w:World) (h4:Blk w b4 44 (encC q)) (h5:Blk w b5 46 (encSb x))
  (hs : 1≤q.Size∧q.Size≤64) (hp : 1≤q.Per∧q.Per≤64) (ht : 0≤x.At∧x.At≤255) (ha : 0≤a∧a<9223372036854775807) :
  Ans Tryz.prog 71 ([.int .i64 a]++[.pointer (some ⟨b4,0,none⟩),.pointer (some ⟨b5,0,none⟩)]) w fun v _=>v = .bool (!objB q.Size q.Per x.At a):=by
 refine ans_of Tryz.func71 rfl Tryz.ntmps71 rfl ?_
 have hw:=Ext.refl w
 repeat' (first|(first|refine CW.seq ?_|refine CW.region ?_|refine CW.ret ?_)|(refine Post.seq ?_)|refine SW.nil ?_|refine SW.pure rfl rfl ?_|(show SW _ _ _ _ (⟨_,Op.fieldAddr _ _ _,_,_,_,none⟩::_) _ _;refine SW.st (st_field rfl) rfl ?_)|(show SW _ _ _ _ (⟨_,Op.load _ _,_,_,_,none⟩::_) _ _;first|refine SW.st (st_loads rfl rfl ((fun _ _=>h4.cell))) rfl ?_|refine SW.st (st_load rfl (h5.cell rfl)) rfl ?_)|(show SW _ _ _ _ (⟨_,Op.call ⟨.value (.func _),_,_⟩,_,_,_,none⟩::_) _ _;(refine SW.call rfl rfl (object_ans q x.At a _ hs hp ht (by omega)) ?_;intro v w1 hw1 hv;subst hv;replace hw:=Ext.trans hw hw1;clear hw1)))
 exact Post.ret1 rfl rfl ⟨_,rfl,hw,rfl⟩
def ChainOut (lo:Nat) (ws:List Int) (size per:Int) (x:Slab) (v:Value) (w:World) : Prop :=
 (∃ out A k,ChainIs ws size per x out∧v = .tuple #[.slice A out.length k,.bool true]∧Own w lo 3 1 encI A out.length k out∧out.length≤17592186044416) ∨
 ((∀ out,¬ ChainIs ws size per x out)∧v = .tuple #[.slice none 0 0,.bool false])
theorem chain_ans (r:SRow) (q:CRow) (x:Slab) (ws:List Int) (w:World) (hl:Sl w 1 encI r.Words.A r.Words.n ws) (hn:r.Words.n*8≤140737488355328)
  (hs : 1≤q.Size∧q.Size≤64) (hp : 1≤q.Per∧q.Per≤64) (ht : 0≤x.At∧x.At≤255) :
  Ans Tryz.prog 44 [.agg (encSys r).toArray,.agg (encC q).toArray,.agg (encSb x).toArray] w fun v w'=>ChainOut w.heap.size ws q.Size q.Per x v w':=by
 refine ans_of Tryz.func44 rfl Tryz.ntmps44 rfl ?_
 refine CW.seq (CW.region (SW.box rfl rfl fun b3 w1 hw hb3b hb3 => ?_))
 refine SW.box rfl rfl fun b4 w2 hw2 hb4b hb4 => ?_
 (replace hw:=Ext.trans hw hw2;replace hb3:=hb3.ext hw2)
 refine SW.box rfl rfl fun b5 w3 hw3 hb5b hb5 => ?_
 (replace hw:=Ext.trans hw hw3;replace hb3:=hb3.ext hw3;replace hb4:=hb4.ext hw3)
 repeat' (first|(first|refine CW.seq ?_|refine CW.region ?_)|(refine Post.seq ?_)|refine SW.nil ?_|refine SW.pure rfl rfl ?_|(show SW _ _ _ _ (⟨_,Op.fieldAddr _ _ _,_,_,_,none⟩::_) _ _;refine SW.st (st_field rfl) rfl ?_)|(show SW _ _ _ _ (⟨_,Op.load _ _,_,_,_,none⟩::_) _ _;first|refine SW.st (st_load rfl (hb3.cell rfl)) rfl ?_|refine SW.st (st_load rfl (hb4.cell rfl)) rfl ?_|refine SW.st (st_load rfl (hb5.cell rfl)) rfl ?_))
 have hlo:=hw.size
 refine SW.call rfl rfl (Follow_ans _ _ _ _ _ _ _ (hl.ext hw) hn) fun v w4 hw4 hv => ?_
 obtain ⟨res,hF,hV⟩:=hv
 (replace hw:=Ext.trans hw hw4;replace hb3:=hb3.ext hw4;replace hb4:=hb4.ext hw4;replace hb5:=hb5.ext hw4)
 have hwl:=hl.len
 rcases res with _|out
 ·subst hV
  repeat' (first|(first|refine CW.seq ?_|refine CW.region ?_|refine CW.condtr rfl (by with_reducible rfl) ?_|refine CW.ret ?_)|(first|refine Post.seq ?_|refine Post.seq_ret ?_)|refine SW.nil ?_|(show SW _ _ _ _ (⟨_,_,_,_,_,some _⟩::_) _ _;first|refine SW.skip_f rfl rfl (by with_reducible rfl) rfl ?_|refine SW.splitn_t rfl rfl rfl (by omega) ?_)|refine SW.pure rfl rfl ?_)
  refine Post.ret2 rfl rfl rfl ⟨_,rfl,hw,.inr ⟨fun o h => ?_,rfl⟩⟩
  have:=hF.det h.1
  cases this
 ·obtain ⟨A,k,rfl,hO,hlen⟩:=hV
  replace hO:=hO.low hlo
  by_cases hfree:(out.length:Int)=x.Free
  ·have cC:∀ w',Ext w4 w'→Ans Tryz.prog 70 [.slice A out.length k,.func (.func 71) #[] [.pointer (some ⟨b4,0,none⟩),.pointer (some ⟨b5,0,none⟩)].toArray] w' fun v _=>v = .bool (out.any fun a => !objB q.Size q.Per x.At a):=fun w' hx =>
    ContainsFuncInt_ans _ _ _ _ _ (hO.sl.ext hx) _ [.pointer (some ⟨b4,0,none⟩),.pointer (some ⟨b5,0,none⟩)] (fun a => !objB q.Size q.Per x.At a) (fun x => .int .i64 x) (fun x=>rfl)
     (fun a ha w1 hx1=>by
      have hm:=hF.mem (by simp) out rfl a ha
      exact chainF_ans a b4 b5 q x w1 ((hb4.ext hx).ext hx1) ((hb5.ext hx).ext hx1) hs hp ht ⟨hm.1,by omega⟩) (by omega)
   have h44:=Ext.refl w4
   repeat' (first|(first|refine CW.seq ?_|refine CW.region ?_)|(refine Post.seq ?_)|refine SW.nil ?_|(show SW _ _ _ _ (⟨_,_,_,_,_,some _⟩::_) _ _;first|refine SW.want_f rfl rfl (by with_reducible rfl) ?_|refine SW.splitn_f rfl rfl rfl (by omega) ?_)|refine SW.pure rfl rfl ?_|(show SW _ _ _ _ (⟨_,Op.fieldAddr _ _ _,_,_,_,none⟩::_) _ _;refine SW.st (st_field rfl) rfl ?_)|(show SW _ _ _ _ (⟨_,Op.call ⟨.builtin .len,_,_⟩,_,_,_,none⟩::_) _ _;refine SW.st (st_len rfl) rfl ?_)|(show SW _ _ _ _ (⟨_,Op.load _ _,_,_,_,none⟩::_) _ _;refine SW.st (st_load rfl (hb5.cell rfl)) rfl ?_)|(refine SW.st (st_func (vs:=[.pointer (some ⟨b4,0,none⟩),.pointer (some ⟨b5,0,none⟩)]) rfl) rfl ?_))
   refine SW.call rfl rfl (cC _ h44) fun v w5 hw5 hv => ?_
   (replace hw:=Ext.trans hw hw5;replace hO:=hO.ext hw5)
   subst hv
   cases hany:out.any fun a => !objB q.Size q.Per x.At a
   ·repeat' (first|(first|refine CW.seq ?_|refine CW.region ?_|refine CW.condfr rfl (by with_reducible rfl) ?_|refine CW.skip ?_|refine CW.ret ?_)|(refine Post.seq ?_)|refine SW.nil ?_|refine SW.pure rfl rfl ?_)
    refine Post.ret2 rfl rfl rfl ⟨_,rfl,hw,.inl ⟨out,A,k,⟨hF,hfree,fun a ha => ?_⟩,rfl,hO,hlen⟩⟩
    rw [List.any_eq_false] at hany
    simpa using hany a ha
   ·repeat' (first|(first|refine CW.seq ?_|refine CW.region ?_|refine CW.condtr rfl (by with_reducible rfl) ?_|refine CW.ret ?_)|(first|refine Post.seq ?_|refine Post.seq_ret ?_)|refine SW.nil ?_|refine SW.pure rfl rfl ?_)
    refine Post.ret2 rfl rfl rfl ⟨_,rfl,hw,.inr ⟨fun o h => ?_,rfl⟩⟩
    obtain ⟨a,ha,hoa⟩:=List.any_eq_true.1 hany
    have e:=hF.det h.1
    injection e with e
    subst e
    rw [h.2.2 a ha] at hoa
    cases hoa
  ·repeat' (first|(first|refine CW.seq ?_|refine CW.region ?_|refine CW.condtr rfl (by with_reducible rfl) ?_|refine CW.ret ?_)|(first|refine Post.seq ?_|refine Post.seq_ret ?_)|refine SW.nil ?_|(show SW _ _ _ _ (⟨_,_,_,_,_,some _⟩::_) _ _;first|refine SW.want_f rfl rfl (by with_reducible rfl) ?_|refine SW.skip_f rfl rfl (by with_reducible rfl) rfl ?_|refine SW.splitn_t rfl rfl rfl (by omega) ?_|refine SW.splitn_f rfl rfl rfl (by omega) ?_)|refine SW.pure rfl rfl ?_|(show SW _ _ _ _ (⟨_,Op.fieldAddr _ _ _,_,_,_,none⟩::_) _ _;refine SW.st (st_field rfl) rfl ?_)|(show SW _ _ _ _ (⟨_,Op.call ⟨.builtin .len,_,_⟩,_,_,_,none⟩::_) _ _;refine SW.st (st_len rfl) rfl ?_)|(show SW _ _ _ _ (⟨_,Op.load _ _,_,_,_,none⟩::_) _ _;refine SW.st (st_load rfl (hb5.cell rfl)) rfl ?_))
   all_goals first|(exfalso;omega)|skip
   refine Post.ret2 rfl rfl rfl ⟨_,rfl,hw,.inr ⟨fun o h => ?_,rfl⟩⟩
   have e:=hF.det h.1
   injection e with e
   subst e
   exact hfree h.2.1
theorem freeIn_ans (r:SRow) (q:CRow) (x:Slab) (ws:List Int) (w:World) (hl:Sl w 1 encI r.Words.A r.Words.n ws) (hn:r.Words.n*8≤140737488355328)
  (hs : 1≤q.Size∧q.Size≤64) (hp : 1≤q.Per∧q.Per≤64) (ht : 0≤x.At∧x.At≤255) :
  Ans Tryz.prog 49 [.agg (encSys r).toArray,.agg (encC q).toArray,.agg (encSb x).toArray] w fun v w'=>ChainOut w.heap.size ws q.Size q.Per x v w':=by
 refine ans_of Tryz.func49 rfl Tryz.ntmps49 rfl ?_
 refine CW.seq (CW.region (SW.box rfl rfl fun b3 w1 hw hb3b hb3 => ?_))
 refine SW.box rfl rfl fun b4 w2 hw2 hb4b hb4 => ?_
 (replace hw:=Ext.trans hw hw2;replace hb3:=hb3.ext hw2)
 refine SW.box rfl rfl fun b5 w3 hw3 hb5b hb5 => ?_
 (replace hw:=Ext.trans hw hw3;replace hb3:=hb3.ext hw3;replace hb4:=hb4.ext hw3)
 repeat' (first|(first|refine CW.seq ?_|refine CW.region ?_)|(refine Post.seq ?_)|refine SW.nil ?_|refine SW.pure rfl rfl ?_|(show SW _ _ _ _ (⟨_,Op.fieldAddr _ _ _,_,_,_,none⟩::_) _ _;refine SW.st (st_field rfl) rfl ?_)|(show SW _ _ _ _ (⟨_,Op.load _ _,_,_,_,none⟩::_) _ _;first|refine SW.st (st_load rfl (hb3.cell rfl)) rfl ?_|refine SW.st (st_load rfl (hb4.cell rfl)) rfl ?_|refine SW.st (st_load rfl (hb5.cell rfl)) rfl ?_))
 have hlo:=hw.size
 refine SW.call rfl rfl (FollowOf_ans _ _ _ _ _ _ _ (hl.ext hw) hn) fun v w4 hw4 hv => ?_
 obtain ⟨res,hF,hV⟩:=hv
 (replace hw:=Ext.trans hw hw4;replace hb3:=hb3.ext hw4;replace hb4:=hb4.ext hw4;replace hb5:=hb5.ext hw4)
 have hwl:=hl.len
 rcases res with _|out
 ·subst hV
  repeat' (first|(first|refine CW.seq ?_|refine CW.region ?_|refine CW.condtr rfl (by with_reducible rfl) ?_|refine CW.ret ?_)|(first|refine Post.seq ?_|refine Post.seq_ret ?_)|refine SW.nil ?_|(show SW _ _ _ _ (⟨_,_,_,_,_,some _⟩::_) _ _;first|refine SW.skip_f rfl rfl (by with_reducible rfl) rfl ?_|refine SW.splitn_t rfl rfl rfl (by omega) ?_)|refine SW.pure rfl rfl ?_)
  refine Post.ret2 rfl rfl rfl ⟨_,rfl,hw,.inr ⟨fun o h => ?_,rfl⟩⟩
  have:=hF.det h.1
  cases this
 ·obtain ⟨A,k,rfl,hO,hlen⟩:=hV
  replace hO:=hO.low hlo
  by_cases hfree:(out.length:Int)=x.Free
  ·repeat' (first|(first|refine CW.seq ?_|refine CW.region ?_|refine CW.block ?_|refine CW.condn_f rfl (by omega) ?_|refine CW.skip ?_)|(refine Post.seq ?_)|refine SW.nil ?_|(show SW _ _ _ _ (⟨_,_,_,_,_,some _⟩::_) _ _;first|refine SW.want_f rfl rfl (by with_reducible rfl) ?_|refine SW.splitn_f rfl rfl rfl (by omega) ?_)|refine SW.pure rfl rfl ?_|(show SW _ _ _ _ (⟨_,Op.fieldAddr _ _ _,_,_,_,none⟩::_) _ _;refine SW.st (st_field rfl) rfl ?_)|(show SW _ _ _ _ (⟨_,Op.call ⟨.builtin .len,_,_⟩,_,_,_,none⟩::_) _ _;refine SW.st (st_len rfl) rfl ?_)|(show SW _ _ _ _ (⟨_,Op.load _ _,_,_,_,none⟩::_) _ _;refine SW.st (st_load rfl (hb5.cell rfl)) rfl ?_))
   all_goals first|(exfalso;omega)|skip
   refine CW.loop (fun j:Nat=>[(4,.pointer (some ⟨b4,0,none⟩)),(5,.pointer (some ⟨b5,0,none⟩)),(8,.slice A out.length k),(10,.int .i64 (j:Int))]) (fun j w'=>j≤out.length∧Ext w w'∧Own w' w.heap.size 3 1 encI A out.length k out∧Blk w' b4 44 (encC q)∧Blk w' b5 46 (encSb x) ∧ ∀ (i:Nat) (h:i<out.length),i<j→objB q.Size q.Per x.At out[i]=true) (fun j=>out.length-j) 0
    ⟨rfl,rfl,rfl,rfl,trivial⟩ ⟨by omega,hw,hO,hb4,hb5,fun i h h'=>by omega⟩ ?_
   clear hw hO hb4 hb5 hb3
   rintro j w' ⟨hj,hw,hO,hb4,hb5,hI⟩
   have hbase:=hO.sl.base
   by_cases hjn:j<out.length
   ·have cO:∀ w',Ans Tryz.prog 48 [.agg (encC q).toArray,.int .i64 x.At,.int .i64 out[j]] w' fun v _=>v = .bool (objB q.Size q.Per x.At out[j]):=fun w'=>isObject_ans q x.At out[j] w' hs hp ht
    cases ho:objB q.Size q.Per x.At out[j]
    ·rw [ho] at cO
     repeat' (first|(first|refine CW.seq ?_|refine CW.region ?_|refine CW.block ?_|refine CW.condd_t rfl (by omega) ?_|refine CW.condt rfl ?_|refine CW.skip ?_|refine CW.ret ?_|(apply CW.quiet1 mixed;(· kernel_rfl);rotate_left;intro w1 hw1;replace hw:=Ext.trans hw hw1;replace hO:=hO.ext hw1;replace hb4:=hb4.ext hw1;replace hb5:=hb5.ext hw1;clear hw1;rotate_right))|(first|refine Post.seq ?_|refine Post.seq_ret ?_|refine Post.blk_ret ?_|refine Post.again_ret ?_)|refine SW.nil ?_|refine SW.pure rfl rfl ?_|(show SW _ _ _ _ (⟨_,Op.fieldAddr _ _ _,_,_,_,none⟩::_) _ _;refine SW.st (st_field rfl) rfl ?_)|(show SW _ _ _ _ (⟨_,Op.indexAddr _ _ _,_,_,_,none⟩::_) _ _;refine SW.st (st_indexN rfl rfl (by assumption) (by omega)) rfl ?_)|(show SW _ _ _ _ (⟨_,Op.call ⟨.builtin .len,_,_⟩,_,_,_,none⟩::_) _ _;refine SW.st (st_len rfl) rfl ?_)|(show SW _ _ _ _ (⟨_,Op.load _ _,_,_,_,none⟩::_) _ _;first|refine SW.st (st_loads rfl rfl ((fun _ _=>hb4.cell))) rfl ?_|refine SW.st (st_load rfl (hb5.cell rfl)) rfl ?_|refine SW.st (st_load rfl (hO.sl.one hjn rfl)) rfl ?_)|(show SW _ _ _ _ (⟨_,Op.call ⟨.value (.func _),_,_⟩,_,_,_,none⟩::_) _ _;refine SW.qcall rfl rfl (fun w1 hw1=>(cO _)) ?_)|exact SW.qnil rfl)
     refine Post.ret2 rfl rfl rfl ⟨_,rfl,hw,.inr ⟨fun o h => ?_,rfl⟩⟩
     have e:=hF.det h.1
     injection e with e
     subst e
     rw [h.2.2 _ (List.getElem_mem hjn)] at ho
     cases ho
    ·rw [ho] at cO
     repeat' (first|(first|refine CW.seq ?_|refine CW.region ?_|refine CW.block ?_|refine CW.condd_t rfl (by omega) ?_|refine CW.condf rfl ?_|refine CW.skip ?_|(apply CW.quiet1 mixed;(· kernel_rfl);rotate_left;intro w1 hw1;replace hw:=Ext.trans hw hw1;replace hO:=hO.ext hw1;replace hb4:=hb4.ext hw1;replace hb5:=hb5.ext hw1;clear hw1;rotate_right))|(first|refine Post.seq ?_|refine Post.blk ?_)|refine SW.nil ?_|refine SW.pure rfl rfl ?_|(show SW _ _ _ _ (⟨_,Op.fieldAddr _ _ _,_,_,_,none⟩::_) _ _;refine SW.st (st_field rfl) rfl ?_)|(show SW _ _ _ _ (⟨_,Op.binOp _ _ _ _ _,_,_,_,none⟩::_) _ _;refine SW.st (st_add rfl rfl (by omega) (by omega)) rfl ?_)|(show SW _ _ _ _ (⟨_,Op.indexAddr _ _ _,_,_,_,none⟩::_) _ _;refine SW.st (st_indexN rfl rfl (by assumption) (by omega)) rfl ?_)|(show SW _ _ _ _ (⟨_,Op.call ⟨.builtin .len,_,_⟩,_,_,_,none⟩::_) _ _;refine SW.st (st_len rfl) rfl ?_)|(show SW _ _ _ _ (⟨_,Op.load _ _,_,_,_,none⟩::_) _ _;first|refine SW.st (st_loads rfl rfl ((fun _ _=>hb4.cell))) rfl ?_|refine SW.st (st_load rfl (hb5.cell rfl)) rfl ?_|refine SW.st (st_load rfl (hO.sl.one hjn rfl)) rfl ?_)|(show SW _ _ _ _ (⟨_,Op.call ⟨.value (.func _),_,_⟩,_,_,_,none⟩::_) _ _;refine SW.qcall rfl rfl (fun w1 hw1=>(cO _)) ?_)|exact SW.qnil rfl)
     exact Post.again (j+1) ⟨rfl,rfl,rfl,rfl,trivial⟩ (by omega) ⟨by omega,hw,hO,hb4,hb5,fun i h h'=>by
      by_cases e:i=j
      ·subst e;exact ho
      ·exact hI i h (by omega)⟩
   ·repeat' (first|(first|refine CW.seq ?_|refine CW.region ?_|refine CW.condd_f rfl (by omega) ?_|refine CW.ret ?_|refine CW.exit ?_)|(first|refine Post.seq ?_|refine Post.seq_exit ?_|refine Post.hit ?_|refine Post.again_exit ?_)|refine SW.nil ?_|refine SW.pure rfl rfl ?_|(show SW _ _ _ _ (⟨_,Op.call ⟨.builtin .len,_,_⟩,_,_,_,none⟩::_) _ _;refine SW.st (st_len rfl) rfl ?_))
    refine Post.ret2 rfl rfl rfl ⟨_,rfl,hw,.inl ⟨out,A,k,⟨hF,hfree,fun a ha => ?_⟩,rfl,hO,hlen⟩⟩
    obtain ⟨i,hi,rfl⟩:=List.getElem_of_mem ha
    exact hI i hi (by omega)
  ·repeat' (first|(first|refine CW.seq ?_|refine CW.region ?_|refine CW.condn_t rfl (by omega) ?_|refine CW.ret ?_)|(first|refine Post.seq ?_|refine Post.seq_ret ?_)|refine SW.nil ?_|(show SW _ _ _ _ (⟨_,_,_,_,_,some _⟩::_) _ _;first|refine SW.want_f rfl rfl (by with_reducible rfl) ?_|refine SW.splitn_f rfl rfl rfl (by omega) ?_)|refine SW.pure rfl rfl ?_|(show SW _ _ _ _ (⟨_,Op.fieldAddr _ _ _,_,_,_,none⟩::_) _ _;refine SW.st (st_field rfl) rfl ?_)|(show SW _ _ _ _ (⟨_,Op.call ⟨.builtin .len,_,_⟩,_,_,_,none⟩::_) _ _;refine SW.st (st_len rfl) rfl ?_)|(show SW _ _ _ _ (⟨_,Op.load _ _,_,_,_,none⟩::_) _ _;refine SW.st (st_load rfl (hb5.cell rfl)) rfl ?_))
   all_goals first|(exfalso;omega)|skip
   refine Post.ret2 rfl rfl rfl ⟨_,rfl,hw,.inr ⟨fun o h => ?_,rfl⟩⟩
   have e:=hF.det h.1
   injection e with e
   subst e
   exact hfree h.2.1
end Go.Proofs.YtigikedbffjeiaaGreat
