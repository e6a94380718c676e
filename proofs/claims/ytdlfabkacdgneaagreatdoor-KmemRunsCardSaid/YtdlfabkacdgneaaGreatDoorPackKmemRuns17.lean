/- Part 17 of what kmemRuns_holds leans on. -/
import Derived.Test.YtdlfabkacdgneaaGreatDoorPackKmemRuns13
import Derived.Test.YtdlfabkacdgneaaGreatDoorPackKmemRuns14
set_option maxHeartbeats 16000000
set_option linter.unusedVariables false
set_option linter.unusedSimpArgs false
set_option linter.defProp false
namespace Go.Proofs.YtdlfabkacdgneaaGreatDoor
open Go.RowKit
variable {a cpu:Int} {s:aj} {u:aj×Int} {i:Nat}
def qK(c:aO):ByteArray:=c.Names.getD 0 ⟨#[]⟩
def pq(s:aj)(h:Heap):aj:=⟨s.Words,h,s.ab⟩
def j1(s:aj)(cpu:Int):Prop:=0<=cpu∧cpu<s.Heap.bl
inductive ks(s:aj)(cpu a:Int):aj×Int->Prop where
 | bad (h:ef s=false):ks s cpu a (.zero,8)
 | range (h:ef s=true) (hc:¬j1 s cpu):ks s cpu a (.zero,1)
 | obj {i:Nat} {u:aj×Int} (h:ef s=true) (hc:j1 s cpu) (hi:i<s.ab.length) (ho:oF s a (some i)) (hp:nt s (qK s.ab[i]) cpu a u):ks s cpu a u
 | no (h:ef s=true) (hc:j1 s cpu) (ho:oF s a none) (hw:ct s a=false):ks s cpu a (.zero,4)
 | whole (h:ef s=true) (hc:j1 s cpu) (ho:oF s a none) (hw:ct s a=true):ks s cpu a (pq s (ee s.Heap cpu (a / 16)).2,0)
theorem ks.c7{v:aj×Int}(x:ks s cpu a u)(y:ks s cpu a v):u=v:=by
 cases x with
 | bad h=>cases y<;>grind
 | range h e=>cases y<;>grind
 | obj h e k c i=>cases y with
   | bad h'=>grind
   | range _ d=>grind
   | obj _ _ _ b f=>cases c.c7 b;exact i.c7 f
   | no _ _ b|whole _ _ b=>cases c.c7 b
 | no h e c j=>cases y with
   | bad h'=>grind
   | range _ d=>grind
   | obj _ _ _ b=>cases c.c7 b
   | no=>rfl
   | whole _ _ _ g=>grind
 | whole h e c j=>cases y with
   | bad h'=>grind
   | range _ d=>grind
   | obj _ _ _ b=>cases c.c7 b
   | no _ _ _ g=>grind
   | whole=>rfl
theorem gb(h:ct s a=true):bx s.Heap.Live (a / 16)=true∧0<=a∧a % 16=0:=by
 unfold ct at h<;>grind
theorem BP(b:aA s)(c:j1 s cpu)(d:ct s a=true):(ee s.Heap cpu (a / 16)).1=0:=by
 rw[mi (ch.2 b.heap) c (gb d).1]
theorem KD(a:s.bU)(b:i<s.ab.length):(qK s.ab[i]).size<=140737488351232:=by
 unfold qK;rcases Ps s.ab[i].Names.length with h|h
 ·rw[List.length_eq_zero_iff.1 h];decide
 have:=a.names _ (Pf b) _ (Pf h);grind
end Go.Proofs.YtdlfabkacdgneaaGreatDoor
