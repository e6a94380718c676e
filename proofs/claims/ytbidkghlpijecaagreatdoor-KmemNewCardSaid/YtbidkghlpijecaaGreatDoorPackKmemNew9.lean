/-
  Texts of the claim KmemNew, part 9: what its theorem leans on.
-/
import Derived.Test.YtbidkghlpijecaaGreatDoorPackKmemNew7
import Derived.Test.YtbidkghlpijecaaGreatDoorPackKmemNew8
import Derived.Test.YtbidkghlpijecaaGreatDoorPackKmemNew3
import Derived.Test.YtbidkghlpijecaaGreatDoorPackKmemNew6
set_option linter.unusedVariables false
set_option linter.unusedSimpArgs false
namespace Go.Proofs.YtbidkghlpijecaaGreatDoor
open Go.RowKit
section
variable {P:Program} {L:Env} {w:World} {d:Option Nat} {T:TypeId} {pos:String} {af:Array Edge} {g:Option (Nat×Bool)}
theorem st_indexArr {t e:TypeId} {len sz:Nat} [c:ArrTy P t len e sz] {x y:Operand} {ad:Addr} {i:Int} (k:Nat) (hx:opv L x=some (.pointer (some ad))) (hy:opv L y=some (.int .i64 i)) (hi:i=(k:Int)) (hk:k<len) :
 St P ⟨d,.indexAddr t x y,T,pos,af,g⟩ L w (.pointer (some (ad.add (k*sz)))) :=
 ⟨fun _ a ha w' _=>by
  subst hi
  have e1:=ha.eval hx
  have e2:=ha.eval hy
  generalize a.eval = ρ at *
  simp [execOp,e1,e2,Instr.indexAt,Instr.sureAddr,asIntOf,run_underlying c.und,run_sizeOf c.size,hk]⟩
end
theorem Post.ret0 {P:Program} {fn:Func} {R:Ending→World→Prop} {n:Nat} {L:Env} {w:World} (hr:fn.results = #[]) (h:R (.returned (.tuple #[])) w) : Post n (bodyPost P fn R) .ret L w :=
 ⟨fun a ha=>⟨ha.defers,_,by simpa using ResIs.results (rs:=[]) hr .nil ha,h⟩⟩
theorem Post.end0 {P:Program} {fn:Func} {R:Ending→World→Prop} {n:Nat} {L:Env} {w:World} (hr:fn.results = #[]) (h:R (.returned (.tuple #[])) w) : Post n (bodyPost P fn R) .normal L w :=
 ⟨fun a ha=>⟨ha.defers,_,by simpa using ResIs.results (rs:=[]) hr .nil ha,h⟩⟩
def cellsM (p:Nat→Bool) (N:Nat) (bad:Bool) : List Value:=(marksOf p N).map Value.bool++[.bool bad]
theorem cellsM_len (p:Nat→Bool) (N:Nat) (bad:Bool) : (cellsM p N bad).length=N+1:=by simp [cellsM,marksOf]
theorem cellsM_bad (p:Nat→Bool) (N:Nat) (bad:Bool) : (cellsM p N bad)[N]?=some (.bool bad):=by
 unfold cellsM
 rw [List.getElem?_append_right (by simp [marksOf])]
 simp [marksOf]
theorem cellsM_at (p:Nat→Bool) (N:Nat) (bad:Bool) {i:Nat} (h:i<N) : (cellsM p N bad)[i]?=some (.bool (p i)):=by
 unfold cellsM
 rw [List.getElem?_append_left (by simp [marksOf];omega)]
 simp [marksOf,h]
theorem cellsM_setBad (p:Nat→Bool) (N:Nat) (bad b:Bool) : (cellsM p N bad).set N (.bool b)=cellsM p N b:=by
 unfold cellsM
 rw [List.set_append_right _ _ (by simp [marksOf])]
 simp [marksOf]
theorem cellsM_set (p:Nat→Bool) (N:Nat) (bad:Bool) {i:Nat} (h:i<N) : (cellsM p N bad).set i (.bool true)=cellsM (fun j=>if j=i then true else p j) N bad:=by
 unfold cellsM
 rw [List.set_append_left _ _ (by simp [marksOf];omega),← marksOf_set,List.map_set]
theorem cellsM_congr {p q:Nat→Bool} {N:Nat} {bad:Bool} (h:∀ i,i<N→p i=q i) : cellsM p N bad=cellsM q N bad:=by
 unfold cellsM;rw [marksOf_congr h]
set_option maxHeartbeats 4000000 in
theorem mark_ans (b:Nat) (p:Nat→Bool) (bad:Bool) (N:Nat) (hN:N=256) (a n:Int) (w:World) (hB:Blk w b 224 (cellsM p N bad)) (hn : 0≤n∧n≤16) :
 AnsX Tryz.prog 178 [.pointer (some ⟨b,0,none⟩),.int .i64 a,.int .i64 n] w fun v w' => ∃ p' bad',Blk w' b 224 (cellsM p' N bad')∧w.grownBy w' (some b)∧((okM p a n∧bad'=bad∧p'=addM p a n)∨(¬ okM p a n∧bad'=true)):=by
 refine ansx_of Tryz.func178 rfl Tryz.ntmps178 rfl ?_
 have hg0:w.grownBy w (some b):=World.grownBy.refl _ _
 have hw:=Ext.refl w
 by_cases hin : 0≤a∧a<256∧n≤256-a
 ·obtain ⟨h1,h2,h3⟩:=id hin
  obtain ⟨k,rfl⟩:=Int.eq_ofNat_of_zero_le h1
  obtain ⟨m,rfl⟩:=Int.eq_ofNat_of_zero_le hn.1
  repeat' (first|(first|refine CW.seq ?_|refine CW.region ?_|refine CW.block ?_|refine CW.condd_f rfl (by omega) ?_|refine CW.skip ?_)|(refine Post.seq ?_)|refine SW.nil ?_|(show SW _ _ _ _ (⟨_,_,_,_,_,some _⟩::_) _ _;first|refine SW.want_f rfl rfl (by with_reducible rfl) ?_|refine SW.splitd_f rfl rfl rfl (by omega) ?_)|refine SW.pure rfl rfl ?_|(show SW _ _ _ _ (⟨_,Op.binOp _ _ _ _ _,_,_,_,none⟩::_) _ _;refine SW.st (st_sub rfl rfl (by omega) (by omega)) rfl ?_))
  clear hw
  refine CW.loop (fun j:Nat=>[(0,.pointer (some ⟨b,0,none⟩)),(1,.int .i64 (k:Int)),(2,.int .i64 (m:Int)),(6,.int .i64 ((k+j:Nat) : Int))])
   (fun j w'=>j≤m∧Blk w' b 224 (cellsM (addM p k (j:Int)) N bad)∧w.grownBy w' (some b) ∧ ∀ i:Nat,k≤i→i<k+j→p i=false) (fun j=>m-j) 0
   ⟨rfl,rfl,rfl,rfl,trivial⟩ ⟨by omega,by rwa [cellsM_congr (q:=p) (fun i _=>by simp [addM]<;>omega)],hg0,fun i h1 h2=>by omega⟩ ?_
  clear hB hg0
  rintro j w' ⟨hj,hB,hg,hI⟩
  have hw:=Ext.refl w'
  by_cases hjm:j<m
  ·have hlt:k+j<N:=by omega
   have hc:=hB.cell (cellsM_at _ N bad hlt)
   have hv:addM p k (j:Int) (k+j)=p (k+j):=by simp [addM]
   rw [hv] at hc
   have hc':w'.cell? (((⟨b,0,none⟩ : Addr).add 0).add ((k+j)*1))=some (.bool (p (k+j))):=by rw [add_add];simpa using hc
   cases hp:p (k+j)
   ·rw [hp] at hc'
    repeat' (first|(first|refine CW.seq ?_|refine CW.region ?_|refine CW.block ?_|refine CW.condfr rfl (by with_reducible rfl) ?_|refine CW.condd_t rfl (by omega) ?_|refine CW.skip ?_)|(refine Post.seq ?_)|refine SW.nil ?_|refine SW.pure rfl rfl ?_|(show SW _ _ _ _ (⟨_,Op.fieldAddr _ _ _,_,_,_,none⟩::_) _ _;refine SW.st (st_field rfl) rfl ?_)|(show SW _ _ _ _ (⟨_,Op.nilCheck _,_,_,_,none⟩::_) _ _;refine SW.st (st_nilCheck rfl) rfl ?_)|(show SW _ _ _ _ (⟨_,Op.binOp _ _ _ _ _,_,_,_,none⟩::_) _ _;refine SW.st (st_add rfl rfl (by omega) (by omega)) rfl ?_)|(show SW _ _ _ _ (⟨_,Op.load _ _,_,_,_,none⟩::_) _ _;refine SW.st (st_load rfl (hc')) rfl ?_)|(refine SW.st (st_indexArr (k+j) rfl rfl rfl (by omega)) rfl ?_))
    have hadr:(⟨b,0,none⟩ : Addr).add (k+j)=((⟨b,0,none⟩ : Addr).add 0).add ((k+j)*1):=by rw [add_add];simp
    refine SW.storeB (i:=k+j) hB (by rw [hadr];rfl) rfl rfl (by rw [cellsM_len];simp;omega) fun w3 hB' hg' => ?_
    rw [cellsM_set _ _ _ hlt,cellsM_congr (q:=addM p k ((j+1:Nat) : Int)) (fun i _=>by
     by_cases e:i=k+j
     ·subst e;simp [addM];omega
     ·simp only [e,if_false,addM]
      congr 1
      by_cases e1:i<k+j
      ·rw [decide_eq_true (show (i:Int)<(k:Int)+(j:Int) by omega),decide_eq_true (show (i:Int)<(k:Int)+((j+1:Nat) : Int) by omega)]
      ·rw [decide_eq_false (show ¬ (i:Int)<(k:Int)+(j:Int) by omega),decide_eq_false (show ¬ (i:Int)<(k:Int)+((j+1:Nat) : Int) by omega)])] at hB'
    have hgg:=grown_trans hg hg' (.inl rfl)
    clear hw
    have hw:=Ext.refl w3
    repeat' (first|(refine CW.region ?_)|(first|refine Post.seq ?_|refine Post.blk ?_)|refine SW.nil ?_|refine SW.pure rfl rfl ?_|(show SW _ _ _ _ (⟨_,Op.binOp _ _ _ _ _,_,_,_,none⟩::_) _ _;refine SW.st (st_add rfl rfl (by omega) (by omega)) rfl ?_))
    refine Post.again (j+1) ⟨rfl,rfl,rfl,rfl,trivial⟩ (by omega) ⟨by omega,hB',hgg,fun i h1 h2 => ?_⟩
    by_cases e:i=k+j
    ·subst e;exact hp
    ·exact hI i h1 (by omega)
   ·rw [hp] at hc'
    repeat' (first|(first|refine CW.seq ?_|refine CW.region ?_|refine CW.block ?_|refine CW.condtr rfl (by with_reducible rfl) ?_|refine CW.condd_t rfl (by omega) ?_|refine CW.skip ?_)|(refine Post.seq ?_)|refine SW.nil ?_|refine SW.pure rfl rfl ?_|(show SW _ _ _ _ (⟨_,Op.fieldAddr _ _ _,_,_,_,none⟩::_) _ _;refine SW.st (st_field rfl) rfl ?_)|(show SW _ _ _ _ (⟨_,Op.nilCheck _,_,_,_,none⟩::_) _ _;refine SW.st (st_nilCheck rfl) rfl ?_)|(show SW _ _ _ _ (⟨_,Op.binOp _ _ _ _ _,_,_,_,none⟩::_) _ _;refine SW.st (st_add rfl rfl (by omega) (by omega)) rfl ?_)|(show SW _ _ _ _ (⟨_,Op.load _ _,_,_,_,none⟩::_) _ _;refine SW.st (st_load rfl (hc')) rfl ?_)|(refine SW.st (st_indexArr (k+j) rfl rfl rfl (by omega)) rfl ?_))
    subst hN
    refine SW.storeB (i:=256) hB rfl rfl rfl (by rw [cellsM_len];rfl) fun w3 hB' hg' => ?_
    rw [cellsM_setBad] at hB'
    clear hw
    have hw:=Ext.refl w3
    repeat' (first|(refine CW.ret ?_)|(first|refine Post.seq ?_|refine Post.seq_ret ?_|refine Post.blk_ret ?_|refine Post.again_ret ?_)|refine SW.nil ?_)
    exact Post.ret0 rfl ⟨_,rfl,_,true,hB',grown_trans hg hg' (.inl rfl),.inr ⟨(fun h=>by have:=h.2.2.2 (k+j) (by omega) (by omega);rw [hp] at this;cases this),rfl⟩⟩
  ·obtain rfl:j=m:=by omega
   repeat' (first|(first|refine CW.seq ?_|refine CW.region ?_|refine CW.condd_f rfl (by omega) ?_|refine CW.exit ?_)|(first|refine Post.seq ?_|refine Post.seq_exit ?_|refine Post.hit ?_|refine Post.again_exit ?_)|refine SW.nil ?_|refine SW.pure rfl rfl ?_|(show SW _ _ _ _ (⟨_,Op.binOp _ _ _ _ _,_,_,_,none⟩::_) _ _;refine SW.st (st_add rfl rfl (by omega) (by omega)) rfl ?_))
   exact Post.end0 rfl ⟨_,rfl,_,bad,hB,hg,.inl ⟨⟨h1,h2,h3,fun i h4 h5=>hI i (by omega) (by omega)⟩,rfl,rfl⟩⟩
 ·have hno : ¬ okM p a n:=fun h=>hin ⟨h.1,h.2.1,h.2.2.1⟩
  subst hN
  repeat' (first|(first|refine CW.seq ?_|refine CW.region ?_|refine CW.condtr rfl (by with_reducible rfl) ?_|refine CW.condd_t rfl (by omega) ?_)|(refine Post.seq ?_)|refine SW.nil ?_|(show SW _ _ _ _ (⟨_,_,_,_,_,some _⟩::_) _ _;first|refine SW.want_f rfl rfl (by with_reducible rfl) ?_|refine SW.skip_f rfl rfl (by with_reducible rfl) rfl ?_|refine SW.splitd rfl rfl rfl (fun h => ?_) (fun h => ?_))|refine SW.pure rfl rfl ?_|(show SW _ _ _ _ (⟨_,Op.fieldAddr _ _ _,_,_,_,none⟩::_) _ _;refine SW.st (st_field rfl) rfl ?_)|(show SW _ _ _ _ (⟨_,Op.nilCheck _,_,_,_,none⟩::_) _ _;refine SW.st (st_nilCheck rfl) rfl ?_)|(show SW _ _ _ _ (⟨_,Op.binOp _ _ _ _ _,_,_,_,none⟩::_) _ _;refine SW.st (st_sub rfl rfl (by omega) (by omega)) rfl ?_))
  all_goals
   first
    | (exfalso;omega)
    | (refine SW.storeB (i:=256) hB rfl rfl rfl (by rw [cellsM_len];rfl) fun w3 hB' hg' => ?_
       rw [cellsM_setBad] at hB'
       clear hw
       have hw:=Ext.refl w3
       repeat' (first|(refine CW.ret ?_)|(first|refine Post.seq ?_|refine Post.seq_ret ?_)|refine SW.nil ?_)
       exact Post.ret0 rfl ⟨_,rfl,_,true,hB',hg',.inr ⟨hno,rfl⟩⟩)
open Go.RowKit
def Marks (w:World) (b N:Nat) : Option (List Block)→Prop
 | some bs=>Blk w b 224 (cellsM (covP bs) N false)
 | none => ∃ p,Blk w b 224 (cellsM p N true)
theorem Marks.ext {w w':World} {b N:Nat} {s:Option (List Block)} (h:Marks w b N s) (hx:Ext w w') : Marks w' b N s:=by
 cases s with
 | none=>obtain ⟨p,h⟩:=h;exact ⟨p,Blk.ext h hx⟩
 | some bs=>exact Blk.ext h hx
theorem Marks.bad {w:World} {b N:Nat} {s:Option (List Block)} (h:Marks w b N s) (hN:N=256) : w.cell? ((⟨b,0,none⟩ : Addr).add 256)=some (.bool s.isNone):=by
 subst hN
 cases s with
 | none=>obtain ⟨p,h⟩:=h;exact Blk.cell h (cellsM_bad _ _ _)
 | some bs=>exact Blk.cell h (cellsM_bad _ _ _)
theorem Marks.gr {w w':World} {b N:Nat} {s:Option (List Block)} (h:Marks w b N s) (hg:w.grownBy w' (some b)) : GrT w w' 224:=by
 cases s with
 | none=>obtain ⟨p,h⟩:=h;exact Blk.gr h hg
 | some bs=>exact Blk.gr h hg
theorem markB_ans (b:Nat) (s:Option (List Block)) (x:Block) (N:Nat) (hN:N=256) (w:World) (hM:Marks w b N s) (hs:goodS s) (hp : 1≤pw x.Order∧pw x.Order≤16) :
 AnsX Tryz.prog 178 [.pointer (some ⟨b,0,none⟩),.int .i64 x.At,.int .i64 (pw x.Order)] w fun v w'=>Marks w' b N (addB s x)∧w.grownBy w' (some b):=by
 cases s with
 | none =>
   obtain ⟨p,hB⟩:=hM
   refine ⟨Calls.mono (mark_ans b p true N hN x.At (pw x.Order) w hB ⟨by omega,hp.2⟩).out ?_⟩
   rintro e w' ⟨v,he,p',bad',hB',hg,h⟩
   refine ⟨v,he,?_,hg⟩
   have:bad'=true:=by rcases h with ⟨_,h,_⟩|⟨_,h⟩<;>exact h
   subst this
   exact ⟨p',hB'⟩
 | some bs =>
   refine ⟨Calls.mono (mark_ans b (covP bs) false N hN x.At (pw x.Order) w hM ⟨by omega,hp.2⟩).out ?_⟩
   rintro e w' ⟨v,he,p',bad',hB',hg,h⟩
   refine ⟨v,he,?_,hg⟩
   have hiff:=okM_iff (hs bs rfl) (b:=x) hp.1
   rcases h with ⟨h1,rfl,rfl⟩|⟨h1,rfl⟩
   ·have:addB (some bs) x=some (bs++[x]):=by simp [addB,hiff.1 h1]
    rw [this]
    show Blk w' b _ _
    rw [← cellsM_congr (fun i _=>addM_cov bs x i)]
    exact hB'
   ·have:addB (some bs) x=none:=by
     simp only [addB]
     rw [if_neg (fun hf=>h1 (hiff.2 hf))]
    rw [this]
    exact ⟨p',hB'⟩
theorem lessL_ans (r s:LRow) (a b:PList) (w:World) (ha:r.Cpu=a.Cpu∧r.Zone=a.Zone∧r.Ty=a.Ty) (hb:s.Cpu=b.Cpu∧s.Zone=b.Zone∧s.Ty=b.Ty) :
 Ans Tryz.prog 194 [.agg (encL r).toArray,.agg (encL s).toArray] w fun v _=>v = .bool (decide (aheadL a b)):=by
 refine ans_of Tryz.func194 rfl Tryz.ntmps194 rfl ?_
 refine CW.seq (CW.region (SW.box rfl rfl fun b2 w1 hw hb2b hb2 => ?_))
 refine SW.box rfl rfl fun b3 w2 hw2 hb3b hb3 => ?_
 (replace hw:=Ext.trans hw hw2;replace hb2:=hb2.ext hw2)
 obtain ⟨a1,a2,a3⟩:=ha
 obtain ⟨b1,b2',b3'⟩:=hb
 have key:aheadL a b↔(r.Cpu<s.Cpu∨(r.Cpu=s.Cpu∧(r.Zone<s.Zone∨(r.Zone=s.Zone∧r.Ty<s.Ty)))):=by unfold aheadL;rw [a1,a2,a3,b1,b2',b3']
 by_cases h1:r.Cpu<s.Cpu
 ·rw [decide_eq_true (key.2 (by omega))]
  repeat' (first|(first|refine CW.seq ?_|refine CW.region ?_|refine CW.condn_t rfl (by omega) ?_|refine CW.ret ?_)|(first|refine Post.seq ?_|refine Post.seq_ret ?_)|refine SW.nil ?_|refine SW.pure rfl rfl ?_|(show SW _ _ _ _ (⟨_,Op.fieldAddr _ _ _,_,_,_,none⟩::_) _ _;refine SW.st (st_field rfl) rfl ?_)|(show SW _ _ _ _ (⟨_,Op.load _ _,_,_,_,none⟩::_) _ _;first|refine SW.st (st_load rfl (hb2.cell rfl)) rfl ?_|refine SW.st (st_load rfl (hb3.cell rfl)) rfl ?_))
  all_goals first|(exfalso;omega)|exact Post.ret1 rfl rfl ⟨_,rfl,hw,by simp [h1]⟩
 ·by_cases h2:r.Cpu=s.Cpu
  ·by_cases h3:r.Zone<s.Zone
   ·rw [decide_eq_true (key.2 (by omega))]
    repeat' (first|(first|refine CW.seq ?_|refine CW.region ?_|refine CW.condn_t rfl (by omega) ?_|refine CW.condn_f rfl (by omega) ?_|refine CW.skip ?_|refine CW.ret ?_)|(first|refine Post.seq ?_|refine Post.seq_ret ?_)|refine SW.nil ?_|refine SW.pure rfl rfl ?_|(show SW _ _ _ _ (⟨_,Op.fieldAddr _ _ _,_,_,_,none⟩::_) _ _;refine SW.st (st_field rfl) rfl ?_)|(show SW _ _ _ _ (⟨_,Op.load _ _,_,_,_,none⟩::_) _ _;first|refine SW.st (st_load rfl (hb2.cell rfl)) rfl ?_|refine SW.st (st_load rfl (hb3.cell rfl)) rfl ?_))
    all_goals first|(exfalso;omega)|exact Post.ret1 rfl rfl ⟨_,rfl,hw,by simp [h3]⟩
   ·by_cases h4:r.Zone=s.Zone
    ·by_cases h5:r.Ty<s.Ty
     ·rw [decide_eq_true (key.2 (by omega))]
      repeat' (first|(first|refine CW.seq ?_|refine CW.region ?_|refine CW.condn_f rfl (by omega) ?_|refine CW.skip ?_|refine CW.ret ?_)|(refine Post.seq ?_)|refine SW.nil ?_|refine SW.pure rfl rfl ?_|(show SW _ _ _ _ (⟨_,Op.fieldAddr _ _ _,_,_,_,none⟩::_) _ _;refine SW.st (st_field rfl) rfl ?_)|(show SW _ _ _ _ (⟨_,Op.load _ _,_,_,_,none⟩::_) _ _;first|refine SW.st (st_load rfl (hb2.cell rfl)) rfl ?_|refine SW.st (st_load rfl (hb3.cell rfl)) rfl ?_))
      all_goals first|(exfalso;omega)|exact Post.ret1 rfl rfl ⟨_,rfl,hw,by simp [h5]⟩
     ·rw [decide_eq_false (fun h=>by have:=key.1 h;omega)]
      repeat' (first|(first|refine CW.seq ?_|refine CW.region ?_|refine CW.condn_f rfl (by omega) ?_|refine CW.skip ?_|refine CW.ret ?_)|(refine Post.seq ?_)|refine SW.nil ?_|refine SW.pure rfl rfl ?_|(show SW _ _ _ _ (⟨_,Op.fieldAddr _ _ _,_,_,_,none⟩::_) _ _;refine SW.st (st_field rfl) rfl ?_)|(show SW _ _ _ _ (⟨_,Op.load _ _,_,_,_,none⟩::_) _ _;first|refine SW.st (st_load rfl (hb2.cell rfl)) rfl ?_|refine SW.st (st_load rfl (hb3.cell rfl)) rfl ?_))
      all_goals first|(exfalso;omega)|exact Post.ret1 rfl rfl ⟨_,rfl,hw,by simp [h5]⟩
    ·rw [decide_eq_false (fun h=>by have:=key.1 h;omega)]
     repeat' (first|(first|refine CW.seq ?_|refine CW.region ?_|refine CW.condn_t rfl (by omega) ?_|refine CW.condn_f rfl (by omega) ?_|refine CW.skip ?_|refine CW.ret ?_)|(first|refine Post.seq ?_|refine Post.seq_ret ?_)|refine SW.nil ?_|refine SW.pure rfl rfl ?_|(show SW _ _ _ _ (⟨_,Op.fieldAddr _ _ _,_,_,_,none⟩::_) _ _;refine SW.st (st_field rfl) rfl ?_)|(show SW _ _ _ _ (⟨_,Op.load _ _,_,_,_,none⟩::_) _ _;first|refine SW.st (st_load rfl (hb2.cell rfl)) rfl ?_|refine SW.st (st_load rfl (hb3.cell rfl)) rfl ?_))
     all_goals first|(exfalso;omega)|exact Post.ret1 rfl rfl ⟨_,rfl,hw,by simp [h3]⟩
  ·rw [decide_eq_false (fun h=>by have:=key.1 h;omega)]
   repeat' (first|(first|refine CW.seq ?_|refine CW.region ?_|refine CW.condn_t rfl (by omega) ?_|refine CW.ret ?_)|(first|refine Post.seq ?_|refine Post.seq_ret ?_)|refine SW.nil ?_|refine SW.pure rfl rfl ?_|(show SW _ _ _ _ (⟨_,Op.fieldAddr _ _ _,_,_,_,none⟩::_) _ _;refine SW.st (st_field rfl) rfl ?_)|(show SW _ _ _ _ (⟨_,Op.load _ _,_,_,_,none⟩::_) _ _;first|refine SW.st (st_load rfl (hb2.cell rfl)) rfl ?_|refine SW.st (st_load rfl (hb3.cell rfl)) rfl ?_))
   all_goals first|(exfalso;omega)|exact Post.ret1 rfl rfl ⟨_,rfl,hw,by simp [h1]⟩
theorem aheadL_ans (r s:LRow) (a b:PList) (w:World) (ha:r.Cpu=a.Cpu∧r.Zone=a.Zone∧r.Ty=a.Ty) (hb:s.Cpu=b.Cpu∧s.Zone=b.Zone∧s.Ty=b.Ty) :
 Ans Tryz.prog 198 [.agg (encL r).toArray,.agg (encL s).toArray] w fun v _=>v = .bool (decide (aheadL a b)):=by
 refine ans_of Tryz.func198 rfl Tryz.ntmps198 rfl ?_
 refine CW.seq (CW.region (SW.box rfl rfl fun b2 w1 hw hb2b hb2 => ?_))
 refine SW.box rfl rfl fun b3 w2 hw2 hb3b hb3 => ?_
 (replace hw:=Ext.trans hw hw2;replace hb2:=hb2.ext hw2)
 obtain ⟨a1,a2,a3⟩:=ha
 obtain ⟨b1,b2',b3'⟩:=hb
 have key:aheadL a b↔(r.Cpu<s.Cpu∨(r.Cpu=s.Cpu∧(r.Zone<s.Zone∨(r.Zone=s.Zone∧r.Ty<s.Ty)))):=by unfold aheadL;rw [a1,a2,a3,b1,b2',b3']
 by_cases h1:r.Cpu<s.Cpu
 ·rw [decide_eq_true (key.2 (by omega))]
  repeat' (first|(first|refine CW.seq ?_|refine CW.region ?_|refine CW.ret ?_)|(refine Post.seq ?_)|refine SW.nil ?_|(show SW _ _ _ _ (⟨_,_,_,_,_,some _⟩::_) _ _;first|refine SW.skip_f rfl rfl (by with_reducible rfl) rfl ?_|refine SW.skip_u rfl rfl (by with_reducible rfl) rfl ?_|refine SW.splitd_t rfl rfl rfl (by omega) ?_)|refine SW.pure rfl rfl ?_|(show SW _ _ _ _ (⟨_,Op.fieldAddr _ _ _,_,_,_,none⟩::_) _ _;refine SW.st (st_field rfl) rfl ?_)|(show SW _ _ _ _ (⟨_,Op.load _ _,_,_,_,none⟩::_) _ _;first|refine SW.st (st_load rfl (hb2.cell rfl)) rfl ?_|refine SW.st (st_load rfl (hb3.cell rfl)) rfl ?_))
  all_goals first|(exfalso;omega)|exact Post.ret1 rfl rfl ⟨_,rfl,hw,by simp [h1]⟩
 ·by_cases h2:r.Cpu=s.Cpu
  ·by_cases h3:r.Zone<s.Zone
   ·rw [decide_eq_true (key.2 (by omega))]
    repeat' (first|(first|refine CW.seq ?_|refine CW.region ?_|refine CW.ret ?_)|(refine Post.seq ?_)|refine SW.nil ?_|(show SW _ _ _ _ (⟨_,_,_,_,_,some _⟩::_) _ _;first|refine SW.want_t rfl rfl (by with_reducible rfl) ?_|refine SW.want_f rfl rfl (by with_reducible rfl) ?_|refine SW.skip_f rfl rfl (by with_reducible rfl) rfl ?_|refine SW.skip_u rfl rfl (by with_reducible rfl) rfl ?_|refine SW.splitd_t rfl rfl rfl (by omega) ?_|refine SW.splitd_f rfl rfl rfl (by omega) ?_)|refine SW.pure rfl rfl ?_|(show SW _ _ _ _ (⟨_,Op.fieldAddr _ _ _,_,_,_,none⟩::_) _ _;refine SW.st (st_field rfl) rfl ?_)|(show SW _ _ _ _ (⟨_,Op.load _ _,_,_,_,none⟩::_) _ _;first|refine SW.st (st_load rfl (hb2.cell rfl)) rfl ?_|refine SW.st (st_load rfl (hb3.cell rfl)) rfl ?_))
    all_goals first|(exfalso;omega)|exact Post.ret1 rfl rfl ⟨_,rfl,hw,by simp [h3]⟩
   ·by_cases h4:r.Zone=s.Zone
    ·by_cases h5:r.Ty<s.Ty
     ·rw [decide_eq_true (key.2 (by omega))]
      repeat' (first|(first|refine CW.seq ?_|refine CW.region ?_|refine CW.ret ?_)|(refine Post.seq ?_)|refine SW.nil ?_|(show SW _ _ _ _ (⟨_,_,_,_,_,some _⟩::_) _ _;first|refine SW.want_t rfl rfl (by with_reducible rfl) ?_|refine SW.want_f rfl rfl (by with_reducible rfl) ?_|refine SW.splitd_t rfl rfl rfl (by omega) ?_|refine SW.splitd_f rfl rfl rfl (by omega) ?_)|refine SW.pure rfl rfl ?_|(show SW _ _ _ _ (⟨_,Op.fieldAddr _ _ _,_,_,_,none⟩::_) _ _;refine SW.st (st_field rfl) rfl ?_)|(show SW _ _ _ _ (⟨_,Op.load _ _,_,_,_,none⟩::_) _ _;first|refine SW.st (st_load rfl (hb2.cell rfl)) rfl ?_|refine SW.st (st_load rfl (hb3.cell rfl)) rfl ?_))
      all_goals first|(exfalso;omega)|exact Post.ret1 rfl rfl ⟨_,rfl,hw,by simp [h5]⟩
     ·rw [decide_eq_false (fun h=>by have:=key.1 h;omega)]
      repeat' (first|(first|refine CW.seq ?_|refine CW.region ?_|refine CW.ret ?_)|(refine Post.seq ?_)|refine SW.nil ?_|(show SW _ _ _ _ (⟨_,_,_,_,_,some _⟩::_) _ _;first|refine SW.want_t rfl rfl (by with_reducible rfl) ?_|refine SW.want_f rfl rfl (by with_reducible rfl) ?_|refine SW.splitd_t rfl rfl rfl (by omega) ?_|refine SW.splitd_f rfl rfl rfl (by omega) ?_)|refine SW.pure rfl rfl ?_|(show SW _ _ _ _ (⟨_,Op.fieldAddr _ _ _,_,_,_,none⟩::_) _ _;refine SW.st (st_field rfl) rfl ?_)|(show SW _ _ _ _ (⟨_,Op.load _ _,_,_,_,none⟩::_) _ _;first|refine SW.st (st_load rfl (hb2.cell rfl)) rfl ?_|refine SW.st (st_load rfl (hb3.cell rfl)) rfl ?_))
      all_goals first|(exfalso;omega)|exact Post.ret1 rfl rfl ⟨_,rfl,hw,by simp [h5]⟩
    ·rw [decide_eq_false (fun h=>by have:=key.1 h;omega)]
     repeat' (first|(first|refine CW.seq ?_|refine CW.region ?_|refine CW.ret ?_)|(refine Post.seq ?_)|refine SW.nil ?_|(show SW _ _ _ _ (⟨_,_,_,_,_,some _⟩::_) _ _;first|refine SW.want_t rfl rfl (by with_reducible rfl) ?_|refine SW.want_f rfl rfl (by with_reducible rfl) ?_|refine SW.skip_t rfl rfl (by with_reducible rfl) rfl ?_|refine SW.splitd_t rfl rfl rfl (by omega) ?_|refine SW.splitd_f rfl rfl rfl (by omega) ?_)|refine SW.pure rfl rfl ?_|(show SW _ _ _ _ (⟨_,Op.fieldAddr _ _ _,_,_,_,none⟩::_) _ _;refine SW.st (st_field rfl) rfl ?_)|(show SW _ _ _ _ (⟨_,Op.load _ _,_,_,_,none⟩::_) _ _;first|refine SW.st (st_load rfl (hb2.cell rfl)) rfl ?_|refine SW.st (st_load rfl (hb3.cell rfl)) rfl ?_))
     all_goals first|(exfalso;omega)|exact Post.ret1 rfl rfl ⟨_,rfl,hw,by simp [h3]⟩
  ·rw [decide_eq_false (fun h=>by have:=key.1 h;omega)]
   repeat' (first|(first|refine CW.seq ?_|refine CW.region ?_|refine CW.ret ?_)|(refine Post.seq ?_)|refine SW.nil ?_|(show SW _ _ _ _ (⟨_,_,_,_,_,some _⟩::_) _ _;first|refine SW.want_f rfl rfl (by with_reducible rfl) ?_|refine SW.skip_t rfl rfl (by with_reducible rfl) rfl ?_|refine SW.skip_u rfl rfl (by with_reducible rfl) rfl ?_|refine SW.splitd_f rfl rfl rfl (by omega) ?_)|refine SW.pure rfl rfl ?_|(show SW _ _ _ _ (⟨_,Op.fieldAddr _ _ _,_,_,_,none⟩::_) _ _;refine SW.st (st_field rfl) rfl ?_)|(show SW _ _ _ _ (⟨_,Op.load _ _,_,_,_,none⟩::_) _ _;first|refine SW.st (st_load rfl (hb2.cell rfl)) rfl ?_|refine SW.st (st_load rfl (hb3.cell rfl)) rfl ?_))
   all_goals first|(exfalso;omega)|exact Post.ret1 rfl rfl ⟨_,rfl,hw,by simp [h1]⟩
structure RdH2 (w:World) (r:HRow) (h:Heap) (r0 r1:ZRow) (z0 z1:Zone) : Prop where
 rd:RdH w r h
 eq:h.Zones=[z0,z1]
 n:r.Zones.n=2
 row:Sl w 4 encZ r.Zones.A r.Zones.n [r0,r1]
 z0:RdZ w r0 z0
 z1:RdZ w r1 z1
theorem RdH2.ext {w w':World} {r:HRow} {h:Heap} {r0 r1:ZRow} {z0 z1:Zone} (a:RdH2 w r h r0 r1 z0 z1) (hx:Ext w w') : RdH2 w' r h r0 r1 z0 z1 :=
 ⟨a.rd.ext hx,a.eq,a.n,a.row.ext hx,a.z0.ext hx,a.z1.ext hx⟩
theorem RdH2.c0 {w:World} {r:HRow} {h:Heap} {r0 r1:ZRow} {z0 z1:Zone} (a:RdH2 w r h r0 r1 z0 z1) (j:Nat) (u:Value) (hu:(encZ r0)[j]?=some u) : w.cell? (((r.Zones.A.getD default).add (0*4)).add j)=some u:=a.row.cell 0 (by simp) j u hu
theorem RdH2.c1 {w:World} {r:HRow} {h:Heap} {r0 r1:ZRow} {z0 z1:Zone} (a:RdH2 w r h r0 r1 z0 z1) (j:Nat) (u:Value) (hu:(encZ r1)[j]?=some u) : w.cell? (((r.Zones.A.getD default).add (1*4)).add j)=some u:=a.row.cell 1 (by simp) j u hu
theorem two_of {α : Type} {l:List α} (h:l.length=2) : ∃ a b,l=[a,b]:=by
 match l,h with
 | [a,b],_=>exact ⟨a,b,rfl⟩
theorem RdH.two {w:World} {r:HRow} {h:Heap} (a:RdH w r h) (hl:h.Zones.length=2) : ∃ r0 r1 z0 z1,RdH2 w r h r0 r1 z0 z1:=by
 obtain ⟨zs,hz⟩:=a.zones
 obtain ⟨z0,z1,e1⟩:=two_of hl
 have l0:=hz.each.len
 obtain ⟨r0,r1,e2⟩:=two_of (show zs.length=2 by omega)
 subst e2
 have l1:=hz.row.len
 have h0:=hz.each.get 0 (by simp) (by omega)
 have h1:=hz.each.get 1 (by simp) (by omega)
 simp only [e1] at h0 h1
 exact ⟨r0,r1,z0,z1,a,e1,by simpa using l1.symm,hz.row,h0,h1⟩
theorem Pzone_ans (r:HRow) (h:Heap) (r0 r1:ZRow) (z0 z1:Zone) (x:Int) (w:World) (hr:RdH2 w r h r0 r1 z0 z1) :
 Ans Tryz.prog 110 [.agg (encH r).toArray,.int .i64 x] w fun v _=>v = .int .i64 (if x<z0.To then 0 else 1):=by
 refine ans_of Tryz.func110 rfl Tryz.ntmps110 rfl ?_
 refine CW.seq (CW.region (SW.box rfl rfl fun b2 w1 hw hb2b hb2 => ?_))
 have hn:=hr.n
 have hA:=hr.row.base
 have e1:=hr.z0.to_
 by_cases hx:x<z0.To
 ·rw [if_pos hx]
  repeat' (first|(first|refine CW.seq ?_|refine CW.region ?_|refine CW.condd_t rfl (by omega) ?_|refine CW.ret ?_)|(first|refine Post.seq ?_|refine Post.seq_ret ?_)|refine SW.nil ?_|refine SW.pure rfl rfl ?_|(show SW _ _ _ _ (⟨_,Op.fieldAddr _ _ _,_,_,_,none⟩::_) _ _;refine SW.st (st_field rfl) rfl ?_)|(show SW _ _ _ _ (⟨_,Op.indexAddr _ _ _,_,_,_,none⟩::_) _ _;refine SW.st (st_indexI (0) rfl rfl (by assumption) (by omega) (by omega)) rfl ?_)|(show SW _ _ _ _ (⟨_,Op.load _ _,_,_,_,none⟩::_) _ _;first|refine SW.st (st_load rfl (hb2.cell rfl)) rfl ?_|refine SW.st (st_loadx hw rfl (hr.c0 1 _ rfl)) rfl ?_))
  exact Post.ret1 rfl rfl ⟨_,rfl,hw,rfl⟩
 ·rw [if_neg hx]
  repeat' (first|(first|refine CW.seq ?_|refine CW.region ?_|refine CW.condd_f rfl (by omega) ?_|refine CW.skip ?_|refine CW.ret ?_)|(refine Post.seq ?_)|refine SW.nil ?_|refine SW.pure rfl rfl ?_|(show SW _ _ _ _ (⟨_,Op.fieldAddr _ _ _,_,_,_,none⟩::_) _ _;refine SW.st (st_field rfl) rfl ?_)|(show SW _ _ _ _ (⟨_,Op.indexAddr _ _ _,_,_,_,none⟩::_) _ _;refine SW.st (st_indexI (0) rfl rfl (by assumption) (by omega) (by omega)) rfl ?_)|(show SW _ _ _ _ (⟨_,Op.load _ _,_,_,_,none⟩::_) _ _;first|refine SW.st (st_load rfl (hb2.cell rfl)) rfl ?_|refine SW.st (st_loadx hw rfl (hr.c0 1 _ rfl)) rfl ?_))
  exact Post.ret1 rfl rfl ⟨_,rfl,hw,rfl⟩
open Go.RowKit
structure GB (w w':World) (b:Nat) : Prop where
 g:w.grownBy w' (some b)
theorem GB.refl (w:World) (b:Nat) : GB w w b:=⟨World.grownBy.refl _ _⟩
theorem GB.ext {w w1 w2:World} {b:Nat} (h:GB w w1 b) (hx:Ext w1 w2) : GB w w2 b:=⟨grown_trans h.g (hx.gr (some b)) (.inl rfl)⟩
theorem GB.step {w w1 w2:World} {b:Nat} (h:GB w w1 b) (hg:w1.grownBy w2 (some b)) : GB w w2 b:=⟨grown_trans h.g hg (.inl rfl)⟩
theorem markP_ans (b:Nat) (s:Option (List Block)) (p:Int) (N:Nat) (hN:N=256) (w:World) (hM:Marks w b N s) (hs:goodS s) :
 AnsX Tryz.prog 178 [.pointer (some ⟨b,0,none⟩),.int .i64 p,.int .i64 1] w fun v w'=>Marks w' b N (addB s (pageB p))∧w.grownBy w' (some b):=by
 have h:=markB_ans b s (pageB p) N hN w hM hs (by simp [pageB,pw_zero])
 simp only [pageB,pw_zero] at h ⊢
 exact h
def ListsRes (w wE:World) (b N:Nat) (s:Option (List Block)) (h:Heap) (to:Int) (v:Value) (w':World) : Prop :=
 Ext w w'∧wE.grownBy w' (some b)∧((v = .bool true∧ListsOk h.Cpus to h.Lists∧Marks w' b N (addAll s (pagesB h.Lists)))∨(v = .bool false ∧ ¬ (ListsOk h.Cpus to h.Lists∧(addAll s (pagesB h.Lists)).isSome=true)))
structure LPre (cpus to:Int) (ls:List PList) (k:Nat) : Prop where
 head:∀ (i:Nat) (h:i<ls.length),i<k→headOk cpus ls[i]
 next:∀ (i:Nat) (h:i+1<ls.length),i+1<k→aheadL ls[i] ls[i+1]
 zone:∀ (i:Nat) (h:i<ls.length),i<k → ∀ p∈(ls[i]).Pages,(p<to↔(ls[i]).Zone=0)
theorem LPre.nil (cpus to:Int) (ls:List PList) : LPre cpus to ls 0:=⟨fun i _ h=>by omega,fun i _ h=>by omega,fun i _ h=>by omega⟩
theorem LPre.all {cpus to:Int} {ls:List PList} {k:Nat} (h:LPre cpus to ls k) (hk:ls.length≤k) : ListsOk cpus to ls:=⟨fun i hi=>h.head i hi (by omega),fun i hi=>h.next i hi (by omega),fun i hi=>h.zone i hi (by omega)⟩
theorem LPre.snoc {cpus to:Int} {ls:List PList} {k:Nat} (h:LPre cpus to ls k) (hk:k<ls.length) (h1:headOk cpus ls[k]) (h2:∀ (h : 0<k),aheadL ls[k-1] ls[k]) (h3:∀ p∈(ls[k]).Pages,(p<to↔(ls[k]).Zone=0)) : LPre cpus to ls (k+1):=by
 refine ⟨fun i hi hik => ?_,fun i hi hik => ?_,fun i hi hik => ?_⟩
 ·by_cases e:i=k
  ·subst e;exact h1
  ·exact h.head i hi (by omega)
 ·by_cases e:i+1=k
  ·subst e;exact h2 (by omega)
  ·exact h.next i hi (by omega)
 ·by_cases e:i=k
  ·subst e;exact h3
  ·exact h.zone i hi (by omega)
theorem pagesB_none {s:Option (List Block)} {ls:List PList} {k j:Nat} (hk:k<ls.length) (hj:j≤(ls[k]).Pages.length) (h:addAll (addAll s (pagesB (ls.take k))) (((ls[k]).Pages.take j).map pageB)=none) : addAll s (pagesB ls)=none:=by
 rw [← addAll_append] at h
 have e:pagesB ls=(pagesB (ls.take k)++((ls[k]).Pages.take j).map pageB)++(((ls[k]).Pages.drop j).map pageB++pagesB (ls.drop (k+1))):=by
  have e1:ls=ls.take (k+1)++ls.drop (k+1):=by simp
  have e2:((ls[k]).Pages.take j).map pageB++((ls[k]).Pages.drop j).map pageB=(ls[k]).Pages.map pageB:=by rw [← List.map_append,List.take_append_drop]
  have e3:pagesB ls=pagesB (ls.take (k+1))++pagesB (ls.drop (k+1)):=by unfold pagesB;rw [← List.flatMap_append,← e1]
  rw [e3,pagesB_take _ _ hk,← e2]
  simp only [List.append_assoc]
 rw [e,addAll_append,h,addAll_none]
set_option maxHeartbeats 8000000 in
theorem lists_ans (r:HRow) (h:Heap) (r0 r1:ZRow) (z0 z1:Zone) (b N:Nat) (hN:N=256) (s:Option (List Block)) (w wE:World) (hw:Ext w wE) (hbw:w.heap.size≤b) (hr:RdH2 w r h r0 r1 z0 z1) (hM:Marks wE b N s) (hgs:goodS s) (hsm:r.Lists.n≤1000000000000000000) :
 AnsX Tryz.prog 179 [.agg (encH r).toArray,.pointer (some ⟨b,0,none⟩)] wE (ListsRes w wE b N s h z0.To):=by
 refine ansx_of Tryz.func179 rfl Tryz.ntmps179 rfl ?_
 have hE:=GB.refl wE b
 refine CW.seq (CW.region (SW.box rfl rfl fun b2 w2 hw2 hb2b hb2 => ?_))
 (replace hw:=Ext.trans hw hw2;replace hM:=hM.ext hw2;replace hE:=hE.ext hw2)
 obtain ⟨ls,hl⟩:=hr.rd.lists
 have hcp:=hr.rd.cpus
 obtain ⟨hl1,hl2⟩:=hl.len
 have hA:=hl.row.base
 repeat' (first|(first|refine CW.seq ?_|refine CW.region ?_|refine CW.block ?_)|(refine Post.seq ?_)|refine SW.nil ?_|refine SW.pure rfl rfl ?_|(show SW _ _ _ _ (⟨_,Op.fieldAddr _ _ _,_,_,_,none⟩::_) _ _;refine SW.st (st_field rfl) rfl ?_)|(show SW _ _ _ _ (⟨_,Op.call ⟨.builtin .len,_,_⟩,_,_,_,none⟩::_) _ _;refine SW.st (st_len rfl) rfl ?_)|(show SW _ _ _ _ (⟨_,Op.load _ _,_,_,_,none⟩::_) _ _;refine SW.st (st_load rfl (hb2.cell rfl)) rfl ?_))
 refine CW.loop (fun k:Nat=>[(1,.pointer (some ⟨b,0,none⟩)),(2,.pointer (some ⟨b2,0,none⟩)),(10,.slice r.Lists.A r.Lists.n r.Lists.c),(11,.int .i64 (r.Lists.n:Int)),(12,.int .i64 (k:Int))])
  (fun k w'=>k≤r.Lists.n∧Ext w w'∧GB wE w' b∧Blk w' b2 41 (encH r)∧Marks w' b N (addAll s (pagesB (h.Lists.take k)))∧LPre h.Cpus z0.To h.Lists k) (fun k=>r.Lists.n-k) 0
  ⟨rfl,rfl,rfl,rfl,rfl,trivial⟩ ⟨by omega,hw,hE,hb2,hM,.nil _ _ _⟩ ?_
 clear hw hE hb2 hM hw2
 rintro k w' ⟨hk,hw,hE,hb2,hM,hP⟩
 by_cases hkn:k<r.Lists.n
 ·have hkl:k<ls.length:=by omega
  have hkh:k<h.Lists.length:=by omega
  have hrl:=hl.each.get k hkl hkh
  have hlc:=hrl.cpu
  have hlz:=hrl.zone
  have hlt:=hrl.ty
  have hln:=hrl.pages.len
  have hAp:=hrl.pages.base
  have hpg:=hrl.pages
  have hrow:=hl.row.all hkn
  have hrow':=hl.row.all (i:=k-1) (show k-1<r.Lists.n by omega)
  have hgk:goodS (addAll s (pagesB (h.Lists.take k))):=goodS_all hgs fun x hx=>by
   unfold pagesB at hx
   obtain ⟨y,_,hy⟩:=List.mem_flatMap.1 hx
   obtain ⟨p,_,rfl⟩:=List.mem_map.1 hy
   simp [pageB,pw_zero]
  repeat' (first|(first|refine CW.seq ?_|refine CW.region ?_|refine CW.block ?_|refine CW.condd_t rfl (by omega) ?_|refine CW.skip ?_)|(refine Post.seq ?_)|refine SW.nil ?_|refine SW.pure rfl rfl ?_|(show SW _ _ _ _ (⟨_,Op.indexAddr _ _ _,_,_,_,none⟩::_) _ _;refine SW.st (st_indexN rfl rfl (by assumption) (by omega)) rfl ?_)|(show SW _ _ _ _ (⟨_,Op.load _ _,_,_,_,none⟩::_) _ _;refine SW.st (st_loadsx hw rfl rfl ((hrow))) rfl ?_))
  refine SW.alloc rfl fun b6 w1 hw1 hb6b hb6 => ?_
  repeat' (refine SW.pure rfl rfl ?_)
  refine SW.storeAgg hb6 rfl rfl rfl rfl (Enc.one (enc:=encL) _) fun w2 hb6' hg => ?_
  have hXX:=hw1.own hb6b hg
  have hb6w:w.heap.size≤b6:=Nat.le_trans hw.size hb6b
  replace hw:=Ext.trans hw hXX
  replace hb2:=hb2.ext hXX
  replace hM:=hM.ext hXX
  replace hE:=hE.ext hXX
  replace hb6:=hb6'
  clear hb6' hw1 hg hXX
  repeat' (first|(refine CW.seq ?_)|(refine Post.seq ?_)|refine SW.nil ?_)
  by_cases hhd:headOk r.Cpus h.Lists[k]
  ·obtain ⟨e1,e2,e3,e4⟩:=id hhd
   obtain ⟨q,hq⟩ : ∃ q,decide (aheadL (h.Lists[k-1]'(by omega)) h.Lists[k])=q:=⟨_,rfl⟩
   have hrl1:=hl.each.get (k-1) (by omega) (by omega)
   have cL:∀ w',Ans Tryz.prog 194 [.agg (encL (ls[k-1]'(by omega))).toArray,.agg (encL ls[k]).toArray] w' fun v _=>v = .bool q:=fun w'=>by
    have:=lessL_ans (ls[k-1]'(by omega)) ls[k] (h.Lists[k-1]'(by omega)) h.Lists[k] w' ⟨hrl1.cpu,hrl1.zone,hrl1.ty⟩ ⟨hlc,hlz,hlt⟩
    rwa [hq] at this
   have hcase:k=0∨(0<k∧q=true)∨(0<k∧q=false):=by cases q<;>simp<;>omega
   rw [or_comm,or_assoc] at hcase
   rcases hcase with ⟨hk0,rfl⟩|⟨hk0,rfl⟩|hk0
   rotate_left
   ·repeat' (first|(first|refine CW.seq ?_|refine CW.region ?_|refine CW.condt rfl ?_|refine CW.ret ?_|(apply CW.quiet1 mixed;(· kernel_rfl);rotate_left;intro w1 hw1;replace hw:=Ext.trans hw hw1;replace hb2:=hb2.ext hw1;replace hb6:=hb6.ext hw1;replace hM:=hM.ext hw1;replace hE:=hE.ext hw1;clear hw1;rotate_right))|(first|refine Post.seq ?_|refine Post.seq_ret ?_|refine Post.blk_ret ?_|refine Post.again_ret ?_)|refine SW.nil ?_|(show SW _ _ _ _ (⟨_,_,_,_,_,some _⟩::_) _ _;first|refine SW.want_t rfl rfl (by with_reducible rfl) ?_|refine SW.want_f rfl rfl (by with_reducible rfl) ?_|refine SW.splitd_t rfl rfl rfl (by omega) ?_|refine SW.splitd_f rfl rfl rfl (by omega) ?_)|refine SW.pure rfl rfl ?_|(show SW _ _ _ _ (⟨_,Op.fieldAddr _ _ _,_,_,_,none⟩::_) _ _;refine SW.st (st_field rfl) rfl ?_)|(show SW _ _ _ _ (⟨_,Op.binOp _ _ _ _ _,_,_,_,none⟩::_) _ _;refine SW.st (st_sub rfl rfl (by omega) (by omega)) rfl ?_)|(show SW _ _ _ _ (⟨_,Op.indexAddr _ _ _,_,_,_,none⟩::_) _ _;refine SW.st (st_indexI (k-1) rfl rfl (by assumption) (by omega) (by omega)) rfl ?_)|(show SW _ _ _ _ (⟨_,Op.call ⟨.builtin .len,_,_⟩,_,_,_,none⟩::_) _ _;refine SW.st (st_len rfl) rfl ?_)|(show SW _ _ _ _ (⟨_,Op.load _ _,_,_,_,none⟩::_) _ _;first|refine SW.st (st_load rfl (hb6.cell rfl)) rfl ?_|refine SW.st (st_load rfl (hb2.cell rfl)) rfl ?_|refine SW.st (st_loadsx hw rfl rfl ((hrow'))) rfl ?_|refine SW.st (st_loads rfl rfl ((fun _ _=>hb6.cell))) rfl ?_)|(show SW _ _ _ _ (⟨_,Op.call ⟨.value (.func _),_,_⟩,_,_,_,none⟩::_) _ _;refine SW.qcall rfl rfl (fun w1 hw1=>(cL _)) ?_)|exact SW.qnil rfl)
    exact Post.ret1 rfl rfl ⟨_,rfl,hw,hE.g,.inr ⟨rfl,fun hh=>by
     have:=hh.1.next (k-1) (by omega)
     simp only [show k-1+1=k by omega] at this
     exact of_decide_eq_false hq this⟩⟩
   all_goals
    have hah:∀ (h0 : 0<k),aheadL (h.Lists[k-1]'(by omega)) h.Lists[k]:=fun h0=>by first|exact of_decide_eq_true hq|omega
    repeat' (first|(first|refine CW.seq ?_|refine CW.region ?_|refine CW.block ?_|refine CW.condfr rfl (by with_reducible rfl) ?_|refine CW.condf rfl ?_|refine CW.skip ?_|(apply CW.quiet1 mixed;(· kernel_rfl);rotate_left;intro w1 hw1;replace hw:=Ext.trans hw hw1;replace hb2:=hb2.ext hw1;replace hb6:=hb6.ext hw1;replace hM:=hM.ext hw1;replace hE:=hE.ext hw1;clear hw1;rotate_right))|(refine Post.seq ?_)|refine SW.nil ?_|(show SW _ _ _ _ (⟨_,_,_,_,_,some _⟩::_) _ _;first|refine SW.want_t rfl rfl (by with_reducible rfl) ?_|refine SW.want_f rfl rfl (by with_reducible rfl) ?_|refine SW.skip_t rfl rfl (by with_reducible rfl) rfl ?_|refine SW.splitd_t rfl rfl rfl (by omega) ?_|refine SW.splitd_f rfl rfl rfl (by omega) ?_)|refine SW.pure rfl rfl ?_|(show SW _ _ _ _ (⟨_,Op.fieldAddr _ _ _,_,_,_,none⟩::_) _ _;refine SW.st (st_field rfl) rfl ?_)|(show SW _ _ _ _ (⟨_,Op.binOp _ _ _ _ _,_,_,_,none⟩::_) _ _;refine SW.st (st_sub rfl rfl (by omega) (by omega)) rfl ?_)|(show SW _ _ _ _ (⟨_,Op.indexAddr _ _ _,_,_,_,none⟩::_) _ _;refine SW.st (st_indexI (k-1) rfl rfl (by assumption) (by omega) (by omega)) rfl ?_)|(show SW _ _ _ _ (⟨_,Op.call ⟨.builtin .len,_,_⟩,_,_,_,none⟩::_) _ _;refine SW.st (st_len rfl) rfl ?_)|(show SW _ _ _ _ (⟨_,Op.load _ _,_,_,_,none⟩::_) _ _;first|refine SW.st (st_load rfl (hb6.cell rfl)) rfl ?_|refine SW.st (st_load rfl (hb2.cell rfl)) rfl ?_|refine SW.st (st_loadsx hw rfl rfl ((hrow'))) rfl ?_|refine SW.st (st_loads rfl rfl ((fun _ _=>hb6.cell))) rfl ?_)|(show SW _ _ _ _ (⟨_,Op.call ⟨.value (.func _),_,_⟩,_,_,_,none⟩::_) _ _;refine SW.qcall rfl rfl (fun w1 hw1=>(cL _)) ?_)|exact SW.qnil rfl)
    clear cL hq hrow hrow'
    refine CW.loop (fun j:Nat=>[(1,.pointer (some ⟨b,0,none⟩)),(2,.pointer (some ⟨b2,0,none⟩)),(6,.pointer (some ⟨b6,0,none⟩)),(10,.slice r.Lists.A r.Lists.n r.Lists.c),(11,.int .i64 (r.Lists.n:Int)),(12,.int .i64 (k:Int)),(75,.slice ls[k].Pages.A ls[k].Pages.n ls[k].Pages.c),(76,.int .i64 (ls[k].Pages.n:Int)),(77,.int .i64 (j:Int))])
     (fun j w'=>j≤ls[k].Pages.n∧Ext w w'∧GB wE w' b∧Blk w' b2 41 (encH r)∧Blk w' b6 142 (encL ls[k])∧Marks w' b N (addAll (addAll s (pagesB (h.Lists.take k))) ((h.Lists[k].Pages.take j).map pageB)) ∧ ∀ (i:Nat) (hi:i<h.Lists[k].Pages.length),i<j→(h.Lists[k].Pages[i]<z0.To↔h.Lists[k].Zone=0)) (fun j=>ls[k].Pages.n-j) 0
     ⟨rfl,rfl,rfl,rfl,rfl,rfl,rfl,rfl,rfl,trivial⟩ ⟨by omega,hw,hE,hb2,hb6,hM,fun i _ h=>by omega⟩ ?_
    clear hw hE hb2 hb6 hM hb6b hb6w
    rintro j w' ⟨hj,hw,hE,hb2,hb6,hM,hZ⟩
    by_cases hjn:j<ls[k].Pages.n
    ·have hjl:j<h.Lists[k].Pages.length:=by omega
     repeat' (first|(first|refine CW.seq ?_|refine CW.region ?_|refine CW.block ?_|refine CW.condd_t rfl (by omega) ?_|refine CW.skip ?_)|(refine Post.seq ?_)|refine SW.nil ?_|refine SW.pure rfl rfl ?_|(show SW _ _ _ _ (⟨_,Op.indexAddr _ _ _,_,_,_,none⟩::_) _ _;refine SW.st (st_indexN rfl rfl (by assumption) (by omega)) rfl ?_)|(show SW _ _ _ _ (⟨_,Op.load _ _,_,_,_,none⟩::_) _ _;refine SW.st (st_loadx hw rfl (hpg.one hjn rfl)) rfl ?_))
     refine SW.callX rfl rfl (markP_ans b _ h.Lists[k].Pages[j] N hN _ hM (goodS_all hgk fun x hx=>by
      obtain ⟨p,_,rfl⟩:=List.mem_map.1 hx
      simp [pageB,pw_zero])) fun v w5 hv => ?_
     obtain ⟨hM2,hg5⟩:=hv
     have hG:=hM.gr hg5
     replace hw:=hw.own hbw hg5
     replace hE:=hE.step hg5
     (replace hb2:=hb2.grT hG rfl;replace hb6:=hb6.grT hG rfl)
     have e5:addB (addAll (addAll s (pagesB (h.Lists.take k))) ((h.Lists[k].Pages.take j).map pageB)) (pageB h.Lists[k].Pages[j])=addAll (addAll s (pagesB (h.Lists.take k))) ((h.Lists[k].Pages.take (j+1)).map pageB):=by
      rw [List.take_succ_eq_append_getElem hjl,List.map_append,addAll_append];rfl
     rw [e5] at hM2
     have hbad:=hM2.bad hN
     generalize hp:h.Lists[k].Pages[j]=p
     obtain ⟨y,hy⟩ : ∃ y,(if p<z0.To then (0:Int) else 1)=y:=⟨_,rfl⟩
     have cZ:∀ w',Ext w w'→Ans Tryz.prog 110 [.agg (encH r).toArray,.int .i64 p] w' fun v _=>v = .int .i64 y:=fun w' hx=>by
      have:=Pzone_ans r h r0 r1 z0 z1 p w' (hr.ext hx)
      rwa [hy] at this
     cases hs:addAll (addAll s (pagesB (h.Lists.take k))) ((h.Lists[k].Pages.take (j+1)).map pageB) with
     | none =>
       rw [hs] at hbad
       repeat' (first|(first|refine CW.seq ?_|refine CW.region ?_|refine CW.condtr rfl (by with_reducible rfl) ?_|refine CW.ret ?_|(apply CW.quiet1 mixed;(· kernel_rfl);rotate_left;intro w1 hw1;replace hw:=Ext.trans hw hw1;replace hb2:=hb2.ext hw1;replace hb6:=hb6.ext hw1;replace hM2:=hM2.ext hw1;replace hE:=hE.ext hw1;clear hw1;rotate_right))|(first|refine Post.seq ?_|refine Post.seq_ret ?_|refine Post.blk_ret ?_|refine Post.again_ret ?_)|refine SW.nil ?_|(show SW _ _ _ _ (⟨_,_,_,_,_,some _⟩::_) _ _;refine SW.skip rfl rfl rfl rfl ?_)|refine SW.pure rfl rfl ?_|(show SW _ _ _ _ (⟨_,Op.fieldAddr _ _ _,_,_,_,none⟩::_) _ _;refine SW.st (st_field rfl) rfl ?_)|(show SW _ _ _ _ (⟨_,Op.nilCheck _,_,_,_,none⟩::_) _ _;refine SW.st (st_nilCheck rfl) rfl ?_)|(show SW _ _ _ _ (⟨_,Op.load _ _,_,_,_,none⟩::_) _ _;refine SW.st (st_load rfl hbad) rfl ?_)|exact SW.qnil rfl)
       exact Post.ret1 rfl rfl ⟨_,rfl,hw,hE.g,.inr ⟨rfl,fun hh=>by
        have:=hh.2
        rw [pagesB_none hkh (by omega) hs] at this
        cases this⟩⟩
     | some bs =>
       rw [hs] at hbad
       by_cases hz:y=ls[k].Zone
       ·repeat' (first|(first|refine CW.seq ?_|refine CW.region ?_|refine CW.condn_f rfl (by omega) ?_|refine CW.skip ?_|(apply CW.quiet1 mixed;(· kernel_rfl);rotate_left;intro w1 hw1;replace hw:=Ext.trans hw hw1;replace hb2:=hb2.ext hw1;replace hb6:=hb6.ext hw1;replace hM2:=hM2.ext hw1;replace hE:=hE.ext hw1;clear hw1;rotate_right))|(first|refine Post.seq ?_|refine Post.blk ?_)|refine SW.nil ?_|(show SW _ _ _ _ (⟨_,_,_,_,_,some _⟩::_) _ _;refine SW.want rfl rfl ?_)|refine SW.pure rfl rfl ?_|(show SW _ _ _ _ (⟨_,Op.fieldAddr _ _ _,_,_,_,none⟩::_) _ _;refine SW.st (st_field rfl) rfl ?_)|(show SW _ _ _ _ (⟨_,Op.nilCheck _,_,_,_,none⟩::_) _ _;refine SW.st (st_nilCheck rfl) rfl ?_)|(show SW _ _ _ _ (⟨_,Op.binOp _ _ _ _ _,_,_,_,none⟩::_) _ _;refine SW.st (st_add rfl rfl (by omega) (by omega)) rfl ?_)|(show SW _ _ _ _ (⟨_,Op.load _ _,_,_,_,none⟩::_) _ _;first|refine SW.st (st_load rfl hbad) rfl ?_|refine SW.st (st_load rfl (hb6.cell rfl)) rfl ?_|refine SW.st (st_loads rfl rfl ((fun _ _=>hb2.cell))) rfl ?_)|(show SW _ _ _ _ (⟨_,Op.call ⟨.value (.func _),_,_⟩,_,_,_,none⟩::_) _ _;refine SW.qcall rfl rfl (fun w1 hw1=>(cZ _ (Ext.trans hw hw1))) ?_)|exact SW.qnil rfl)
        refine Post.again (j+1) ⟨rfl,rfl,rfl,rfl,rfl,rfl,rfl,rfl,rfl,trivial⟩ (by omega) ⟨by omega,hw,hE,hb2,hb6,hM2,fun i hi hij => ?_⟩
        by_cases e:i=j
        ·subst e
         rw [hp]
         split at hy<;>constructor<;>intro _<;>omega
        ·exact hZ i hi (by omega)
       ·repeat' (first|(first|refine CW.seq ?_|refine CW.region ?_|refine CW.condn_t rfl (by omega) ?_|refine CW.ret ?_|(apply CW.quiet1 mixed;(· kernel_rfl);rotate_left;intro w1 hw1;replace hw:=Ext.trans hw hw1;replace hb2:=hb2.ext hw1;replace hb6:=hb6.ext hw1;replace hM2:=hM2.ext hw1;replace hE:=hE.ext hw1;clear hw1;rotate_right))|(first|refine Post.seq ?_|refine Post.seq_ret ?_|refine Post.blk_ret ?_|refine Post.again_ret ?_)|refine SW.nil ?_|(show SW _ _ _ _ (⟨_,_,_,_,_,some _⟩::_) _ _;refine SW.want rfl rfl ?_)|refine SW.pure rfl rfl ?_|(show SW _ _ _ _ (⟨_,Op.fieldAddr _ _ _,_,_,_,none⟩::_) _ _;refine SW.st (st_field rfl) rfl ?_)|(show SW _ _ _ _ (⟨_,Op.nilCheck _,_,_,_,none⟩::_) _ _;refine SW.st (st_nilCheck rfl) rfl ?_)|(show SW _ _ _ _ (⟨_,Op.load _ _,_,_,_,none⟩::_) _ _;first|refine SW.st (st_load rfl hbad) rfl ?_|refine SW.st (st_load rfl (hb6.cell rfl)) rfl ?_|refine SW.st (st_loads rfl rfl ((fun _ _=>hb2.cell))) rfl ?_)|(show SW _ _ _ _ (⟨_,Op.call ⟨.value (.func _),_,_⟩,_,_,_,none⟩::_) _ _;refine SW.qcall rfl rfl (fun w1 hw1=>(cZ _ (Ext.trans hw hw1))) ?_)|exact SW.qnil rfl)
        exact Post.ret1 rfl rfl ⟨_,rfl,hw,hE.g,.inr ⟨rfl,fun hh=>by
         have:=hh.1.zone k hkh p (by rw [← hp];exact List.getElem_mem _)
         split at hy<;>omega⟩⟩
    ·obtain rfl:j=ls[k].Pages.n:=by omega
     rw [List.take_of_length_le (l:=h.Lists[k].Pages) (by omega),← addAll_append,← pagesB_take _ _ hkh] at hM
     repeat' (first|(first|refine CW.seq ?_|refine CW.region ?_|refine CW.condd_f rfl (by omega) ?_|refine CW.exit ?_)|(first|refine Post.seq ?_|refine Post.seq_exit ?_|refine Post.hit ?_|refine Post.blk ?_|refine Post.again_exit ?_)|refine SW.nil ?_|refine SW.pure rfl rfl ?_|(show SW _ _ _ _ (⟨_,Op.binOp _ _ _ _ _,_,_,_,none⟩::_) _ _;refine SW.st (st_add rfl rfl (by omega) (by omega)) rfl ?_))
     refine Post.again (k+1) ⟨rfl,rfl,rfl,rfl,rfl,trivial⟩ (by omega) ⟨by omega,hw,hE,hb2,hM,hP.snoc hkh (by rwa [← hcp]) hah fun p hp => ?_⟩
     obtain ⟨i,hi,rfl⟩:=List.getElem_of_mem hp
     exact hZ i hi (by omega)
  ·have hno : ¬ ListsOk h.Cpus z0.To h.Lists:=fun hh=>hhd (by have:=hh.head k hkh;rwa [← hcp] at this)
   have hhd' : ¬ (((0≤ls[k].Cpu∧ls[k].Cpu<r.Cpus)∧(0≤ls[k].Zone∧ls[k].Zone≤1)∧(0≤ls[k].Ty∧ls[k].Ty≤2)∧(1≤ls[k].Pages.n∧ls[k].Pages.n≤8))):=fun hh=>hhd (by unfold headOk;omega)
   have hcs:ls[k].Cpu<0∨(0≤ls[k].Cpu∧(r.Cpus≤ls[k].Cpu∨(ls[k].Cpu<r.Cpus∧(ls[k].Zone<0∨(0≤ls[k].Zone∧(1<ls[k].Zone∨(ls[k].Zone≤1∧(ls[k].Ty<0∨(0≤ls[k].Ty∧(3≤ls[k].Ty∨(ls[k].Ty<3∧(ls[k].Pages.n=0∨(0<ls[k].Pages.n∧8<ls[k].Pages.n))))))))))))):=by omega
   rcases hcs with d|⟨d1,d|⟨d2,d|⟨d3,d|⟨d4,d|⟨d5,d|⟨d6,d|⟨d7,d⟩⟩⟩⟩⟩⟩⟩
   repeat' (first|(first|refine CW.seq ?_|refine CW.region ?_|refine CW.condtr rfl (by with_reducible rfl) ?_|refine CW.ret ?_|(apply CW.quiet1 mixed;(· kernel_rfl);rotate_left;intro w1 hw1;replace hw:=Ext.trans hw hw1;replace hb2:=hb2.ext hw1;replace hb6:=hb6.ext hw1;replace hM:=hM.ext hw1;replace hE:=hE.ext hw1;clear hw1;rotate_right))|(first|refine Post.seq ?_|refine Post.seq_ret ?_|refine Post.blk_ret ?_|refine Post.again_ret ?_)|refine SW.nil ?_|(show SW _ _ _ _ (⟨_,_,_,_,_,some _⟩::_) _ _;first|refine SW.want_f rfl rfl (by with_reducible rfl) ?_|refine SW.skip_f rfl rfl (by with_reducible rfl) rfl ?_|refine SW.skip_u rfl rfl (by with_reducible rfl) rfl ?_|refine SW.splitd_t rfl rfl rfl (by omega) ?_|refine SW.splitd_f rfl rfl rfl (by omega) ?_)|refine SW.pure rfl rfl ?_|(show SW _ _ _ _ (⟨_,Op.fieldAddr _ _ _,_,_,_,none⟩::_) _ _;refine SW.st (st_field rfl) rfl ?_)|(show SW _ _ _ _ (⟨_,Op.call ⟨.builtin .len,_,_⟩,_,_,_,none⟩::_) _ _;refine SW.st (st_len rfl) rfl ?_)|(show SW _ _ _ _ (⟨_,Op.load _ _,_,_,_,none⟩::_) _ _;first|refine SW.st (st_load rfl (hb6.cell rfl)) rfl ?_|refine SW.st (st_load rfl (hb2.cell rfl)) rfl ?_)|exact SW.qnil rfl)
   all_goals exact Post.ret1 rfl rfl ⟨_,rfl,hw,hE.g,.inr ⟨rfl,fun hh=>hno hh.1⟩⟩
 ·obtain rfl:k=r.Lists.n:=by omega
  rw [List.take_of_length_le (l:=h.Lists) (by omega)] at hM
  repeat' (first|(first|refine CW.seq ?_|refine CW.region ?_|refine CW.condd_f rfl (by omega) ?_|refine CW.ret ?_|refine CW.exit ?_)|(first|refine Post.seq ?_|refine Post.seq_exit ?_|refine Post.hit ?_|refine Post.again_exit ?_)|refine SW.nil ?_|refine SW.pure rfl rfl ?_)
  exact Post.ret1 rfl rfl ⟨_,rfl,hw,hE.g,.inl ⟨rfl,hP.all (by omega),hM⟩⟩
open Go.RowKit
theorem addAll_fits {l:List Block}:∀ {s:Option (List Block)},(addAll s l).isSome=true → ∀ b∈l,0≤b.At∧b.At+pw b.Order≤256:=by
 induction l with
 | nil=>intro s _ b hb;simp at hb
 | cons x l ih =>
   intro s h b hb
   have h':(addAll (addB s x) l).isSome=true:=h
   rcases List.mem_cons.1 hb with rfl|hb
   ·cases e:addB s b with
    | none=>rw [e,addAll_none] at h';cases h'
    | some bs=>obtain ⟨cs,_,hf,_⟩:=addB_some e;exact ⟨hf.1,hf.2.1⟩
   ·exact ih h' b hb
def liveC (b:Block) : Prop:=(0≤b.Order∧b.Order≤4)∧0≤b.At∧b.At % pw b.Order=0∧tyOk b.Ty
structure VPre (l:List Block) (k:Nat) : Prop where
 each:∀ (i:Nat) (h:i<l.length),i<k→liveC l[i]
 next:∀ (i:Nat) (h:i+1<l.length),i+1<k→l[i].At<l[i+1].At
theorem VPre.nil (l:List Block) : VPre l 0:=⟨fun i _ h=>by omega,fun i _ h=>by omega⟩
theorem VPre.snoc {l:List Block} {k:Nat} (h:VPre l k) (hk:k<l.length) (h1:liveC l[k]) (h2:∀ (h : 0<k),l[k-1].At<l[k].At) : VPre l (k+1):=by
 refine ⟨fun i hi hik => ?_,fun i hi hik => ?_⟩
 ·by_cases e:i=k
  ·subst e;exact h1
  ·exact h.each i hi (by omega)
 ·by_cases e:i+1=k
  ·subst e;exact h2 (by omega)
  ·exact h.next i hi (by omega)
theorem VPre.ok {l:List Block} {k:Nat} {s:Option (List Block)} (h:VPre l k) (hk:l.length≤k) (hf:(addAll s l).isSome=true) : LiveOk l:=by
 refine ⟨fun i hi => ?_,fun i hi=>h.next i hi (by omega)⟩
 obtain ⟨h1,h2,h3,h4⟩:=h.each i hi (by omega)
 have h5:=addAll_fits hf _ (List.getElem_mem hi)
 have h6:=pw_le h1.1 h1.2
 exact ⟨h1,⟨h2,by omega⟩,h3,h4⟩
def outM (n:Int) : Bool:=decide (n<0) || decide (256<n)
theorem Pout_ans (x:Int) (w:World) : Ans Tryz.prog 177 ([.int .i64 x]++[]) w fun v _=>v = .bool (outM x):=by
 refine ans_of Tryz.func177 rfl Tryz.ntmps177 rfl ?_
 have hw:=Ext.refl w
 have hcs:x<0∨(0≤x∧(256<x∨x≤256)):=by omega
 rcases hcs with d|⟨d1,d|d⟩
 repeat' (first|(first|refine CW.seq ?_|refine CW.region ?_|refine CW.ret ?_)|(refine Post.seq ?_)|refine SW.nil ?_|(show SW _ _ _ _ (⟨_,_,_,_,_,some _⟩::_) _ _;first|refine SW.want_f rfl rfl (by with_reducible rfl) ?_|refine SW.skip_f rfl rfl (by with_reducible rfl) rfl ?_|refine SW.splitd_t rfl rfl rfl (by omega) ?_|refine SW.splitd_f rfl rfl rfl (by omega) ?_)|refine SW.pure rfl rfl ?_)
 all_goals exact Post.ret1 rfl rfl ⟨_,rfl,hw,by unfold outM;simp;omega⟩
end Go.Proofs.YtbidkghlpijecaaGreatDoor
