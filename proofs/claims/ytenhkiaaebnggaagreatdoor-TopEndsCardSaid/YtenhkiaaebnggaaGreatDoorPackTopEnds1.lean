/- Part 1 of what topEnds_holds leans on. -/
import Derived.Test.YtenhkiaaebnggaaGreatDoorPackTopEnds0
import Derived.Test.YtenhkiaaebnggaaGreatDoorChecked
import Derived.Lib.AppendZerosOnto
import Derived.Lib.Overlaps
import Derived.Room.Entries
set_option linter.unusedVariables false
set_option linter.unusedSimpArgs false
set_option linter.defProp false
open Go.Proofs.Tryz
namespace Go.Proofs.YtenhkiaaebnggaaGreatDoor
instance:ik prog 3 := {}
instance:dn prog 3 (.int .i64 0) 1 8 := {}
instance:ik prog 4 := {}
instance:dn prog 4 (.bool false) 1 1 := {}
instance:ik prog 5 := {}
instance:ik prog 9 := {}
instance:dn prog 9 (.string ByteArray.empty) 1 16 := {}
instance:bu prog 22 85 4 := {}
instance:ik prog 25 := {}
instance:bu prog 25 79 2 := {}
instance:fG prog 27 2 := {}
instance:iz prog 27 [(0,1),(1,1)] [.slice none 0 0,.slice none 0 0] := {}
instance:bj prog 27 0 0 25 := {}
instance:bj prog 27 1 1 25 := {}
instance:dn prog 29 (.agg #[.slice none 0 0,.slice none 0 0,.int .i64 0,.int .i64 0,.int .i64 0]) 5 72 := {}
instance:fG prog 29 5 := {}
instance:iz prog 29 [(0,2),(2,1),(3,1),(4,1)] [.slice none 0 0,.slice none 0 0,.int .i64 0,.int .i64 0,.int .i64 0] := {}
instance:bj prog 29 0 0 27 := {}
instance:bj prog 29 1 2 3 := {}
instance:bj prog 29 2 3 3 := {}
instance:bj prog 29 3 4 3 := {}
instance:ik prog 32 := {}
instance:bu prog 32 35 7 := {}
instance:dn prog 35 (.agg #[.int .i64 0,.int .i64 0,.int .i64 0,.int .i64 0,.int .i64 0,.int .i64 0,.string ByteArray.empty]) 7 64 := {}
instance:fG prog 35 7 := {}
instance:iz prog 35 [(0,1),(1,1),(2,1),(3,1),(4,1),(5,1),(6,1)] [.int .i64 0,.int .i64 0,.int .i64 0,.int .i64 0,.int .i64 0,.int .i64 0,.string ByteArray.empty] := {}
instance:bj prog 35 0 0 3 := {}
instance:bj prog 35 1 1 3 := {}
instance:bj prog 35 2 2 3 := {}
instance:bj prog 35 3 3 3 := {}
instance:bj prog 35 4 4 3 := {}
instance:bj prog 35 5 5 3 := {}
instance:bj prog 35 6 6 9 := {}
instance:ik prog 36 := {}
instance:bu prog 36 3 1 := {}
instance:ik prog 37 := {}
instance:bu prog 37 113 4 := {}
instance:ik prog 38 := {}
instance:bu prog 38 155 4 := {}
instance:ik prog 39 := {}
instance:bu prog 39 143 3 := {}
instance:dn prog 41 (.agg #[.slice none 0 0,.slice none 0 0,.int .i64 0,.slice none 0 0,.slice none 0 0]) 5 104 := {}
instance:fG prog 41 5 := {}
instance:iz prog 41 [(0,1),(1,1),(2,1),(3,1),(4,1)] [.slice none 0 0,.slice none 0 0,.int .i64 0,.slice none 0 0,.slice none 0 0] := {}
instance:bj prog 41 0 0 37 := {}
instance:bj prog 41 1 1 36 := {}
instance:bj prog 41 2 2 3 := {}
instance:bj prog 41 3 3 38 := {}
instance:bj prog 41 4 4 39 := {}
instance:ik prog 42 := {}
instance:bu prog 42 103 6 := {}
instance:dn prog 44 (.agg #[.slice none 0 0,.slice none 0 0,.slice none 0 0,.int .i64 0,.slice none 0 0,.slice none 0 0,.slice none 0 0]) 7 152 := {}
instance:fG prog 44 7 := {}
instance:iz prog 44 [(0,1),(1,5),(6,1)] [.slice none 0 0,.slice none 0 0,.slice none 0 0,.int .i64 0,.slice none 0 0,.slice none 0 0,.slice none 0 0] := {}
instance:bj prog 44 0 0 36 := {}
instance:bj prog 44 1 1 41 := {}
instance:bj prog 44 2 6 42 := {}
instance:ik prog 45 := {}
instance:bu prog 45 56 3 := {}
instance:ik prog 46 := {}
instance:bu prog 46 50 6 := {}
instance:iz prog 48 [(0,7),(7,1),(8,1),(9,1)] [.slice none 0 0,.slice none 0 0,.slice none 0 0,.int .i64 0,.slice none 0 0,.slice none 0 0,.slice none 0 0,.slice none 0 0,.slice none 0 0,.slice none 0 0] := {}
instance:bj prog 48 0 0 44 := {}
instance:bj prog 48 1 7 32 := {}
instance:bj prog 48 2 8 45 := {}
instance:bj prog 48 3 9 46 := {}
instance:dn prog 50 (.agg #[.int .i64 0,.int .i64 0,.int .i64 0,.string ByteArray.empty,.int .i64 0,.bool false]) 6 56 := {}
instance:fG prog 50 6 := {}
instance:iz prog 50 [(0,1),(1,1),(2,1),(3,1),(4,1),(5,1)] [.int .i64 0,.int .i64 0,.int .i64 0,.string ByteArray.empty,.int .i64 0,.bool false] := {}
instance:bj prog 50 0 0 3 := {}
instance:bj prog 50 1 1 3 := {}
instance:bj prog 50 2 2 3 := {}
instance:bj prog 50 3 3 9 := {}
instance:bj prog 50 4 4 3 := {}
instance:bj prog 50 5 5 4 := {}
instance:ik prog 51 := {}
instance:bu prog 51 9 1 := {}
instance:ik prog 52 := {}
instance:dn prog 56 (.agg #[.int .i64 0,.int .i64 0,.slice none 0 0]) 3 40 := {}
instance:fG prog 56 3 := {}
instance:iz prog 56 [(0,1),(1,1),(2,1)] [.int .i64 0,.int .i64 0,.slice none 0 0] := {}
instance:bj prog 56 0 0 52 := {}
instance:bj prog 56 1 1 3 := {}
instance:bj prog 56 2 2 36 := {}
instance:bu prog 63 81 8 := {}
instance:zu prog 74 6 3 1 := {}
instance:fG prog 74 6 := {}
instance:dn prog 79 (.agg #[.int .i64 0,.int .i64 0]) 2 16 := {}
instance:fG prog 79 2 := {}
instance:iz prog 79 [(0,1),(1,1)] [.int .i64 0,.int .i64 0] := {}
instance:bj prog 79 0 0 3 := {}
instance:bj prog 79 1 1 3 := {}
instance:dn prog 81 (.agg #[.int .i64 0,.int .i64 0,.int .i64 0,.int .i64 0,.int .i64 0,.int .i64 0,.string ByteArray.empty,.int .i64 0]) 8 72 := {}
instance:fG prog 81 8 := {}
instance:iz prog 81 [(0,7),(7,1)] [.int .i64 0,.int .i64 0,.int .i64 0,.int .i64 0,.int .i64 0,.int .i64 0,.string ByteArray.empty,.int .i64 0] := {}
instance:bj prog 81 0 0 35 := {}
instance:bj prog 81 1 7 3 := {}
instance:dn prog 85 (.agg #[.int .i64 0,.int .i64 0,.int .i64 0,.int .i64 0]) 4 32 := {}
instance:fG prog 85 4 := {}
instance:bj prog 85 0 0 3 := {}
instance:bj prog 85 1 1 3 := {}
instance:bj prog 85 2 2 3 := {}
instance:bj prog 85 3 3 3 := {}
instance:ik prog 101 := {}
instance:bu prog 101 107 3 := {}
instance:dn prog 103 (.agg #[.slice none 0 0,.int .i64 0,.int .i64 0,.int .i64 0,.slice none 0 0,.slice none 0 0]) 6 96 := {}
instance:fG prog 103 6 := {}
instance:iz prog 103 [(0,1),(1,1),(2,1),(3,1),(4,1),(5,1)] [.slice none 0 0,.int .i64 0,.int .i64 0,.int .i64 0,.slice none 0 0,.slice none 0 0] := {}
instance:bj prog 103 0 0 51 := {}
instance:bj prog 103 1 1 3 := {}
instance:bj prog 103 2 2 3 := {}
instance:bj prog 103 3 3 3 := {}
instance:bj prog 103 4 4 101 := {}
instance:bj prog 103 5 5 36 := {}
instance:dn prog 107 (.agg #[.int .i64 0,.int .i64 0,.int .i64 0]) 3 24 := {}
instance:fG prog 107 3 := {}
instance:iz prog 107 [(0,1),(1,1),(2,1)] [.int .i64 0,.int .i64 0,.int .i64 0] := {}
instance:bj prog 107 0 0 3 := {}
instance:bj prog 107 1 1 3 := {}
instance:bj prog 107 2 2 3 := {}
instance:bu prog 109 4 1 := {}
instance:dn prog 113 (.agg #[.int .i64 0,.int .i64 0,.slice none 0 0,.slice none 0 0]) 4 64 := {}
instance:fG prog 113 4 := {}
instance:iz prog 113 [(0,1),(1,1),(2,1),(3,1)] [.int .i64 0,.int .i64 0,.slice none 0 0,.slice none 0 0] := {}
instance:bj prog 113 0 0 3 := {}
instance:bj prog 113 1 1 3 := {}
instance:bj prog 113 2 2 39 := {}
instance:bj prog 113 3 3 36 := {}
instance:ik prog 123 := {}
instance:dn prog 123 (.pointer none) 1 8 := {}
instance:dn prog 143 (.agg #[.int .i64 0,.int .i64 0,.int .i64 0]) 3 24 := {}
instance:fG prog 143 3 := {}
instance:iz prog 143 [(0,1),(1,1),(2,1)] [.int .i64 0,.int .i64 0,.int .i64 0] := {}
instance:bj prog 143 0 0 3 := {}
instance:bj prog 143 1 1 3 := {}
instance:bj prog 143 2 2 3 := {}
instance:dn prog 155 (.agg #[.int .i64 0,.int .i64 0,.int .i64 0,.slice none 0 0]) 4 48 := {}
instance:fG prog 155 4 := {}
instance:iz prog 155 [(0,1),(1,1),(2,1),(3,1)] [.int .i64 0,.int .i64 0,.int .i64 0,.slice none 0 0] := {}
instance:bj prog 155 0 0 3 := {}
instance:bj prog 155 1 1 3 := {}
instance:bj prog 155 2 2 3 := {}
instance:bj prog 155 3 3 36 := {}
instance:bu prog 164 5 1 := {}
instance:zu prog 185 256 4 1 := {}
instance:iz prog 187 [(0,256),(256,1)] [.bool false,.bool false,.bool false,.bool false,.bool false,.bool false,.bool false,.bool false,.bool false,.bool false,.bool false,.bool false,.bool false,.bool false,.bool false,.bool false,.bool false,.bool false,.bool false,.bool false,.bool false,.bool false,.bool false,.bool false,.bool false,.bool false,.bool false,.bool false,.bool false,.bool false,.bool false,.bool false,.bool false,.bool false,.bool false,.bool false,.bool false,.bool false,.bool false,.bool false,.bool false,.bool false,.bool false,.bool false,.bool false,.bool false,.bool false,.bool false,.bool false,.bool false,.bool false,.bool false,.bool false,.bool false,.bool false,.bool false,.bool false,.bool false,.bool false,.bool false,.bool false,.bool false,.bool false,.bool false,.bool false,.bool false,.bool false,.bool false,.bool false,.bool false,.bool false,.bool false,.bool false,.bool false,.bool false,.bool false,.bool false,.bool false,.bool false,.bool false,.bool false,.bool false,.bool false,.bool false,.bool false,.bool false,.bool false,.bool false,.bool false,.bool false,.bool false,.bool false,.bool false,.bool false,.bool false,.bool false,.bool false,.bool false,.bool false,.bool false,.bool false,.bool false,.bool false,.bool false,.bool false,.bool false,.bool false,.bool false,.bool false,.bool false,.bool false,.bool false,.bool false,.bool false,.bool false,.bool false,.bool false,.bool false,.bool false,.bool false,.bool false,.bool false,.bool false,.bool false,.bool false,.bool false,.bool false,.bool false,.bool false,.bool false,.bool false,.bool false,.bool false,.bool false,.bool false,.bool false,.bool false,.bool false,.bool false,.bool false,.bool false,.bool false,.bool false,.bool false,.bool false,.bool false,.bool false,.bool false,.bool false,.bool false,.bool false,.bool false,.bool false,.bool false,.bool false,.bool false,.bool false,.bool false,.bool false,.bool false,.bool false,.bool false,.bool false,.bool false,.bool false,.bool false,.bool false,.bool false,.bool false,.bool false,.bool false,.bool false,.bool false,.bool false,.bool false,.bool false,.bool false,.bool false,.bool false,.bool false,.bool false,.bool false,.bool false,.bool false,.bool false,.bool false,.bool false,.bool false,.bool false,.bool false,.bool false,.bool false,.bool false,.bool false,.bool false,.bool false,.bool false,.bool false,.bool false,.bool false,.bool false,.bool false,.bool false,.bool false,.bool false,.bool false,.bool false,.bool false,.bool false,.bool false,.bool false,.bool false,.bool false,.bool false,.bool false,.bool false,.bool false,.bool false,.bool false,.bool false,.bool false,.bool false,.bool false,.bool false,.bool false,.bool false,.bool false,.bool false,.bool false,.bool false,.bool false,.bool false,.bool false,.bool false,.bool false,.bool false,.bool false,.bool false,.bool false,.bool false,.bool false,.bool false,.bool false,.bool false,.bool false,.bool false,.bool false,.bool false,.bool false,.bool false,.bool false,.bool false,.bool false,.bool false,.bool false,.bool false,.bool false] := {}
instance:bj prog 187 0 0 185 := {}
instance:bj prog 187 1 256 4 := {}
instance:zu prog 235 2 3 1 := {}
instance:fG prog 235 2 := {}
instance:zu prog 236 3 235 2 := {}
instance:Body prog 4:=ax func4
instance:Body prog 5:=ax func5
instance:Body prog 6:=ax func6
instance:Body prog 7:=ax func7
instance:Body prog 8:=ax func8
instance:Body prog 9:=ax func9
instance:Body prog 10:=ax func10
instance:Body prog 11:=ax func11
instance:Body prog 12:=ax func12
instance:Body prog 13:=ax func13
instance:Body prog 14:=ax func14
instance:Body prog 15:=ax func15
instance:Body prog 16:=ax func16
instance:Body prog 17:=ax func17
instance:Body prog 18:=ax func18
instance:Body prog 19:=ax func19
instance:Body prog 20:=ax func20
instance:Body prog 21:=ax func21
instance:Body prog 22:=ax func22
instance:Body prog 23:=ax func23
instance:Body prog 24:=ax func24
instance:Body prog 25:=ax func25
instance:Body prog 26:=ax func26
instance:Body prog 27:=ax func27
instance:Body prog 28:=ax func28
instance:Body prog 29:=ax func29
instance:Body prog 30:=ax func30
instance:Body prog 31:=ax func31
instance:Body prog 32:=ax func32
instance:Body prog 33:=ax func33
instance:Body prog 34:=ax func34
instance:Body prog 35:=ax func35
instance:Body prog 36:=ax func36
instance:Body prog 37:=ax func37
instance:Body prog 38:=ax func38
instance:Body prog 39:=ax func39
instance:Body prog 40:=ax func40
instance:Body prog 41:=ax func41
instance:Body prog 42:=ax func42
instance:Body prog 43:=ax func43
instance:Body prog 44:=ax func44
instance:Body prog 45:=ax func45
instance:Body prog 46:=ax func46
instance:Body prog 47:=ax func47
instance:Body prog 48:=ax func48
instance:Body prog 49:=ax func49
instance:Body prog 50:=ax func50
instance:Body prog 51:=ax func51
instance:Body prog 52:=ax func52
instance:Body prog 53:=ax func53
instance:Body prog 54:=ax func54
instance:Body prog 55:=ax func55
instance:Body prog 56:=ax func56
instance:Body prog 57:=ax func57
instance:Body prog 58:=ax func58
instance:Body prog 59:=ax func59
instance:Body prog 60:=ax func60
instance:Body prog 61:=ax func61
instance:Body prog 62:=ax func62
instance:Body prog 63:=ax func63
instance:Body prog 64:=ax func64
instance:Body prog 65:=ax func65
instance:Body prog 66:=ax func66
instance:Body prog 67:=ax func67
instance:Body prog 68:=ax func68
instance:Body prog 69:=ax func69
instance:Body prog 70:=ax func70
instance:Body prog 71:=ax func71
instance:Body prog 72:=ax func72
instance:Body prog 73:=ax func73
instance:Body prog 74:=ax func74
instance:Body prog 75:=ax func75
instance:Body prog 76:=ax func76
instance:Body prog 77:=ax func77
instance:Body prog 78:=ax func78
instance:Body prog 79:=ax func79
instance:Body prog 80:=ax func80
instance:Body prog 81:=ax func81
instance:Body prog 82:=ax func82
instance:Body prog 83:=ax func83
instance:Body prog 84:=ax func84
instance:Body prog 85:=ax func85
instance:Body prog 88:=ax func88
instance:Body prog 89:=ax func89
instance:Body prog 90:=ax func90
instance:Body prog 91:=ax func91
instance:Body prog 92:=ax func92
instance:Body prog 93:=ax func93
instance:Body prog 94:=ax func94
instance:Body prog 95:=ax func95
instance:Body prog 96:=ax func96
instance:Body prog 97:=ax func97
instance:Body prog 98:=ax func98
instance:Body prog 99:=ax func99
instance:Body prog 100:=ax func100
instance:Body prog 101:=ax func101
instance:Body prog 102:=ax func102
instance:Body prog 103:=ax func103
instance:Body prog 104:=ax func104
instance:Body prog 105:=ax func105
instance:Body prog 106:=ax func106
instance:Body prog 107:=ax func107
instance:Body prog 110:=ax func110
instance:Body prog 111:=ax func111
instance:Body prog 112:=ax func112
instance:Body prog 113:=ax func113
instance:Body prog 114:=ax func114
instance:Body prog 115:=ax func115
instance:Body prog 116:=ax func116
instance:Body prog 117:=ax func117
instance:Body prog 118:=ax func118
instance:Body prog 119:=ax func119
instance:Body prog 120:=ax func120
instance:Body prog 121:=ax func121
instance:Body prog 122:=ax func122
instance:Body prog 123:=ax func123
instance:Body prog 124:=ax func124
instance:Body prog 125:=ax func125
instance:Body prog 126:=ax func126
instance:Body prog 127:=ax func127
instance:Body prog 128:=ax func128
instance:Body prog 129:=ax func129
instance:Body prog 130:=ax func130
instance:Body prog 131:=ax func131
instance:Body prog 132:=ax func132
instance:Body prog 133:=ax func133
instance:Body prog 134:=ax func134
instance:Body prog 135:=ax func135
instance:Body prog 137:=ax func137
instance:Body prog 138:=ax func138
instance:Body prog 139:=ax func139
instance:Body prog 140:=ax func140
instance:Body prog 141:=ax func141
instance:Body prog 142:=ax func142
instance:Body prog 143:=ax func143
instance:Body prog 144:=ax func144
instance:Body prog 145:=ax func145
instance:Body prog 146:=ax func146
instance:Body prog 148:=ax func148
instance:Body prog 149:=ax func149
instance:Body prog 150:=ax func150
instance:Body prog 151:=ax func151
instance:Body prog 152:=ax func152
instance:Body prog 153:=ax func153
instance:Body prog 154:=ax func154
instance:Body prog 156:=ax func156
instance:Body prog 162:=ax func162
instance:Body prog 163:=ax func163
instance:Body prog 164:=ax func164
instance:Body prog 165:=ax func165
instance:Body prog 173:=ax func173
instance:Body prog 174:=ax func174
instance:Body prog 175:=ax func175
def mixed:prog.follows .mixedOrders=true:=by kernel_rfl
structure Region where
 aT:Int
 ay:Int
 deriving DecidableEq
structure Block where
 At:Int
 Order:Int
 Ty:Int
 deriving DecidableEq
structure aj where
 aT:Int
 To:Int
 ai:List Block
 Types:List Int
 deriving DecidableEq
structure aS where
 gl:Int
 aj:Int
 Ty:Int
 av:List Int
structure Heap where
 bl:List aj
 dP:List Int
 bJ:Int
 au:List aS
 Live:List Block
structure Slab where
 At:Int
 ai:Int
 cj:Int
 deriving DecidableEq
open Go.RowKit
variable {α:Type}
def qW (A:Option Addr) (n c:Nat) (x k:Int) (w:World) (hn:n<=2305843009213693952) : bI prog 122 [.slice A n c,.int .i64 x,.int .i64 k] w fun v _=>v = .bool (decide (0<=x∧0<=k∧k<=n∧x+k<=n)):=by
 refine Wj func122 ntmps122 ?_;repeat' (first|refine Wz ?_|refine SW.gp rfl rfl rfl (fun h => ?_) (fun h => ?_))
 all_goals refine ae.bh rfl rfl ⟨_,rfl,Ext.refl _,?_⟩
 all_goals congr 1
 all_goals symm
 all_goals first|(refine decide_eq_true ?_;omega)|(refine decide_eq_false ?_;omega)|(rw [decide_eq_decide];omega)
def zI (w:World) (e sz:Nat) (enc : α -> List Value) (n:Nat) (l:List α) : Value->World->Prop:=fun v w' => ∃ A c,v = .slice A n c∧Own w' w.heap.size e sz enc A n c l
def dC (A:Option Addr) (n c:Nat) (l:List Int) (w:World) (hl:Sl w 1 bt A n l) (hn:n*8<=140737488355328) : bI prog 32 [.slice A n c] w (zI w 3 1 bt n l):=by
 refine Wj func32 ntmps32 ?_;have hw:=Ext.refl w;refine Wz ?_;refine SW.st (sq rfl rfl) rfl ?_;repeat' (first|refine Wz ?_|(refine CW.cond rfl (fun h => ?_) (fun h => ?_)))
 ·have G9:n=0:=by
   rcases aeL n with h0|h0
   ·exact h0
   ·have:=hl.base h0;simp_all
  subst G9;have:l=[]:=aeN hl.len
  subst this;exact ae.bh rfl rfl ⟨_,rfl,hw,none,0,rfl,Own.fC _ _ _ _ _ _⟩
 ·refine SW.zB rfl fun b w1 ah hb => ?_
  have hw:=hw.trans ah;refine Wz ?_;refine SW.vj (afX n) (afn l) (Own.fC w1 w.heap.size _ _ bt (some ⟨b,0,none⟩)) (hl.ext hw) hw.size rfl rfl rfl (by omega) (by omega) fun A2 c2 w2 hO hg => ?_
  have hw:=aD hw hg (aew _) (by simp [aG]);refine Wz ?_;exact ae.bh rfl rfl ⟨_,rfl,hw,A2,c2,rfl,hO⟩
def O6 (k:Int) (w:World) : bI prog 16 [.int .i64 k] w fun v w' =>
 if 0<=k∧k<=256 then ∃ A c,v = .tuple #[.slice A (16*k).toNat c,.int .i64 0]∧Own w' w.heap.size 3 1 bt A (16*k).toNat c (List.replicate (16*k).toNat 0) else v = .tuple #[.slice none 0 0,.int .i64 1]:=by
 refine Wj func16 ntmps16 ?_;have hw:=Ext.refl w;repeat' (first|refine Wz ?_|(refine CW.vd rfl (fun h => ?_) (fun h => ?_))|refine SW.gp rfl rfl rfl (fun h => ?_) (fun h => ?_))
 ·refine ae.dl rfl rfl rfl ⟨_,rfl,hw,?_⟩;rw [if_neg (by omega)]
 ·refine ae.dl rfl rfl rfl ⟨_,rfl,hw,?_⟩;rw [if_neg (by omega)]
 ·refine SW.make (enc:=bt) (k:=(16*k).toNat) 0 rfl rfl (by omega) (by omega) (by omega) rfl fun A c w1 ah hO => ?_
  have hw:=hw.trans ah;refine Wz ?_;refine ae.dl rfl rfl rfl ⟨_,rfl,hw,?_⟩;rw [if_pos (by omega)];exact ⟨A,c,rfl,hO⟩
def Region.ok (r:Region) : Prop:=0<=r.aT∧1<=r.ay∧r.ay<=256∧r.aT+r.ay<=256
instance (r:Region) : Decidable r.ok:=inferInstanceAs (Decidable (_∧_))
def iB (r:Region) : List Value:=[.int .i64 r.aT,.int .i64 r.ay]
def rR (r:Region) (w:World) : bI prog 125 [.agg (iB r).toArray] w fun v _=>v = .int .i64 (if r.ok then 0 else 1):=by
 refine Wj func125 ntmps125 ?_;refine Ww fun b w1 hw hb hB => ?_;repeat' (first|refine Wz ?_|(refine CW.vd rfl (fun h => ?_) (fun h => ?_))|refine SW.gp rfl rfl rfl (fun h => ?_) (fun h => ?_))
 all_goals refine ae.bh rfl rfl ⟨_,rfl,hw,?_⟩
 all_goals first|rw [if_pos (by unfold Region.ok;omega)] | rw [if_neg (by unfold Region.ok;omega)]
instance:iK iB 2:=⟨fun _=>rfl,fun r u hu=>by simp [iB] at hu;rcases hu with rfl|rfl<;>rfl⟩
def iw (l:List Region) : Prop:=l.length<=40 ∧ ∀ (i:Nat) (h:i<l.length),(l[i]).ok ∧ ∀ (h0 : 0<i),(l[i-1]'(by omega)).aT+(l[i-1]'(by omega)).ay<(l[i]).aT
noncomputable def fg (l:List Region) : Bool := @decide (iw l) (Classical.propDecidable _)
def mB {l:List Region} (h:iw l) : fg l=true:=by unfold fg;exact @decide_eq_true _ (Classical.propDecidable _) h
def qX {l:List Region} (h : ¬ iw l) : fg l=false:=by unfold fg;exact @decide_eq_false _ (Classical.propDecidable _) h
def vl {l:List Region}:fg l=true↔iw l:=by
 by_cases h:iw l
 ·simp [mB h,h]
 ·simp [qX h,h]
def sv {r:Region} (h:r.ok) (w:World) : bI prog 125 [.agg (iB r).toArray] w fun v _=>v = .int .i64 0:=(rR r w).mono fun _ _ _ hv=>by rw [hv,if_pos h]
def zJ {r:Region} (h : ¬ r.ok) (w:World) : bI prog 125 [.agg (iB r).toArray] w fun v _=>v = .int .i64 1:=(rR r w).mono fun _ _ _ hv=>by rw [hv,if_neg h]
def zK {r:Region} (h:r.ok) (w:World) : bI prog 74 [.agg (iB r).toArray] w fun v _=>v = .int .i64 (r.aT+r.ay):=by
 obtain ⟨h1,h2,h3,h4⟩:=h;refine Wj func74 ntmps74 ?_;refine Ww fun b w1 hw hb hB => ?_;refine Wz ?_;exact ae.bh rfl rfl ⟨_,rfl,hw,rfl⟩
def aO (b:Block) : List Value:=[.int .i64 b.At,.int .i64 b.Order,.int .i64 b.Ty]
instance:iK aO 3:=⟨fun _=>rfl,fun r u hu=>by simp [aO] at hu;rcases hu with rfl|rfl|rfl<;>rfl⟩
def bd (b:Slab) : List Value:=[.int .i64 b.At,.int .i64 b.ai,.int .i64 b.cj]
instance:iK bd 3:=⟨fun _=>rfl,fun r u hu=>by simp [bd] at hu;rcases hu with rfl|rfl|rfl<;>rfl⟩
def lI (A:Option Addr) (n c:Nat) (l:List Block) (w:World) (hl:Sl w 3 aO A n l) (hn:n*24<=140737488355328) : bI prog 71 [.slice A n c] w (zI w 143 3 aO n l):=by
 refine Wj func71 ntmps71 ?_;have hw:=Ext.refl w;refine Wz ?_;refine SW.st (sq rfl rfl) rfl ?_;repeat' (first|refine Wz ?_|(refine CW.cond rfl (fun h => ?_) (fun h => ?_)))
 ·have G9:n=0:=by
   rcases aeL n with h0|h0
   ·exact h0
   ·have:=hl.base h0;simp_all
  subst G9;have:l=[]:=aeN hl.len
  subst this;exact ae.bh rfl rfl ⟨_,rfl,hw,none,0,rfl,Own.fC _ _ _ _ _ _⟩
 ·refine SW.zB rfl fun b w1 ah hb => ?_
  have hw:=hw.trans ah;refine Wz ?_;refine SW.vj (afX n) (afn l) (Own.fC w1 w.heap.size _ _ aO (some ⟨b,0,none⟩)) (hl.ext hw) hw.size rfl rfl rfl (by omega) (by omega) fun A2 c2 w2 hO hg => ?_
  have hw:=aD hw hg (aew _) (by simp [aG]);refine Wz ?_;exact ae.bh rfl rfl ⟨_,rfl,hw,A2,c2,rfl,hO⟩
variable {a o:Int} {z:aj}
def pw (o:Int) : Int:=2 ^ o.toNat
def fQ (h0 : 0<=o) (h4:o<=4) : (o=0∧pw o=1)∨(o=1∧pw o=2)∨(o=2∧pw o=4)∨(o=3∧pw o=8)∨(o=4∧pw o=16):=by
 have:o=0∨o=1∨o=2∨o=3∨o=4:=by omega
 rcases this with rfl|rfl|rfl|rfl|rfl<;>decide
def cM (h0 : 0<=o) (h4:o<=4) : 1<=pw o∧pw o<=16:=by rcases fQ h0 h4 with h|h|h|h|h<;>omega
def qY (h0 : 0<=o) (h4:o<=4) : pw (o+1)=2*pw o:=by
 have:o=0∨o=1∨o=2∨o=3∨o=4:=by omega
 rcases this with rfl|rfl|rfl|rfl|rfl<;>decide
def beside (a o:Int) : Int:=if a % (2*pw o)=0 then a+pw o else a-pw o
def vm:∀ a<256,∀ o<4,a % 2 ^ o=0->((a ^^^ 2 ^ o:Nat) : Int)=if (a:Int) % (2*2 ^ o)=0 then (a:Int)+2 ^ o else (a:Int)-2 ^ o:=by decide +kernel
def Ha {a:Nat} (ha:a<256) (h0 : 0<=o) (h4:o<4) (h:(a:Int) % pw o=0) : ((a ^^^ 2 ^ o.toNat:Nat) : Int)=beside a o:=by
 have:o=0∨o=1∨o=2∨o=3:=by omega
 rcases this with rfl|rfl|rfl|rfl
 ·exact vm a ha 0 (by omega) (by simp only [pw] at h;omega)
 ·exact vm a ha 1 (by omega) (by
   rw [show pw 1=2 by decide] at h;simp;omega)
 ·exact vm a ha 2 (by omega) (by
   rw [show pw 2=4 by decide] at h;simp;omega)
 ·exact vm a ha 3 (by omega) (by
   rw [show pw 3=8 by decide] at h;simp;omega)
def ky (f t a o:Int) : Prop:=0<=o∧o<=4∧f<=a∧a<t∧a % pw o=0
instance (f t a o:Int) : Decidable (ky f t a o):=inferInstanceAs (Decidable (_∧_))
def lf (t:Int) : Prop:=0<=t∧t<=2
instance (t:Int) : Decidable (lf t):=inferInstanceAs (Decidable (_∧_))
def nu (a b:Block) : Prop:=a.At+pw a.Order<=b.At ∧ ¬ (b.Order<4∧a.Order=b.Order∧a.At=beside b.At b.Order)
instance (a b:Block) : Decidable (nu a b):=inferInstanceAs (Decidable (_∧_))
def lq (f t:Int) (b:Block) : Prop:=ky f t b.At b.Order∧lf b.Ty
instance (f t:Int) (b:Block) : Decidable (lq f t b):=inferInstanceAs (Decidable (_∧_))
def fR (f t:Int) : Prop:=0<=f∧f<=t∧t<=256∧f % 16=0∧t % 16=0
instance (f t:Int) : Decidable (fR f t):=inferInstanceAs (Decidable (_∧_))
structure bW (z:aj) : Prop where
 ok:fR z.aT z.To
 len : 8*(z.Types.length:Int)=z.To-z.aT
 types:∀ t∈z.Types,lf t
 eV:∀ (i:Nat) (h:i<z.ai.length),lq z.aT z.To z.ai[i]
 next:∀ (i:Nat) (h:i+1<z.ai.length),nu z.ai[i] z.ai[i+1]
noncomputable def fT (z:aj) : Bool := @decide (bW z) (Classical.propDecidable _)
def yM (h:bW z) : fT z=true:=by unfold fT;exact @decide_eq_true _ (Classical.propDecidable _) h
def qZ (h : ¬ bW z) : fT z=false:=by unfold fT;exact @decide_eq_false _ (Classical.propDecidable _) h
def fD:fT z=true↔bW z:=by
 by_cases h:bW z
 ·simp [yM h,h]
 ·simp [qZ h,h]
def idxOf (p : α -> Bool) (l:List α) : Int:=if l.any p then (l.findIdx p:Int) else -1
def km (l:List Block) : Int:=(l.map fun b=>pw b.Order).sum
def vn (l:List Block) (k:Nat) (h:k<l.length) : km (l.take (k+1))=km (l.take k)+pw l[k].Order:=by
 unfold km;rw [aeA h,aeV,List.sum_append];simp
def pI (h:bW z) : ∀ k,k<=z.ai.length->0<=km (z.ai.take k)∧km (z.ai.take k)<=16*(k:Int)
 | 0,_=>by simp [km]
 | k+1,hk=>by
   have ih:=pI h k (by omega);have hb:=(h.eV k (by omega)).1;have:=cM hb.1 hb.2.1
   rw [vn _ _ (by omega)];omega
def I7 (hz:bW z) (h1:z.aT<=a) (h2:a<z.To) : ∃ k:Nat,(a-z.aT) / 8=k∧k<z.Types.length:=by
 have:=hz.len
 exact ⟨((a-z.aT) / 8).toNat,by omega,by omega⟩
variable {f:Int} {cs:List Value} {b lo oV:Nat} {w w':World}
structure fY where
 A:Option Addr
 n:Nat
 c:Nat
def fY.v (s:fY) : Value := .slice s.A s.n s.c
def fY.nil:fY:=⟨none,0,0⟩
structure eG where
 aT:Int
 To:Int
 ai:fY
 Types:fY
def dq (z:eG) : List Value:=[.int .i64 z.aT,.int .i64 z.To,z.ai.v,z.Types.v]
instance:iK dq 4:=⟨fun _=>rfl,fun r u hu=>by simp [dq,fY.v] at hu;rcases hu with rfl|rfl|rfl|rfl<;>rfl⟩
def fU (r:eG) : ∀ v∈dq r,v.oneCell'=true:=iK.one (enc:=dq) r
structure Hb (w:World) (r:eG) (z:aj) : Prop where
 from_:r.aT=z.aT
 pJ:r.To=z.To
 free:Sl w 3 aO r.ai.A r.ai.n z.ai
 types:Sl w 1 bt r.Types.A r.Types.n z.Types
structure iS (w:World) (lo:Nat) (r:eG) (z:aj) : Prop where
 from_:r.aT=z.aT
 pJ:r.To=z.To
 free:Own w lo 143 3 aO r.ai.A r.ai.n r.ai.c z.ai
 types:Own w lo 3 1 bt r.Types.A r.Types.n r.Types.c z.Types
def Hb.ext {r:eG} {z:aj} (h:Hb w r z) (hx:Ext w w') : Hb w' r z:=⟨h.from_,h.pJ,h.free.ext hx,h.types.ext hx⟩
def iS.ext {r:eG} {z:aj} (h:iS w lo r z) (hx:Ext w w') : iS w' lo r z:=⟨h.from_,h.pJ,h.free.ext hx,h.types.ext hx⟩
def iS.low {r:eG} {z:aj} (h:iS w lo r z) (hl:oV<=lo) : iS w oV r z:=⟨h.from_,h.pJ,h.free.low hl,h.types.low hl⟩
def iS.rd {r:eG} {z:aj} (h:iS w lo r z) : Hb w r z:=⟨h.from_,h.pJ,h.free.sl,h.types.sl⟩
def iS.eV {t:Nat} {r:eG} {z:aj} (h:iS w lo r z) (hB:aR w b t cs) (hg:w.grownBy w' (some b)) (h1:Nat.beq t 143=false) (h2:Nat.beq t 3=false) : iS w' lo r z :=
 ⟨h.from_,h.pJ,h.free.grown hg (.inr (h.free.fr hB h1)),h.types.grown hg (.inr (h.types.fr hB h2))⟩
def aj.zero:aj:=⟨0,0,[],[]⟩
def eG.zero:eG:=⟨0,0,.nil,.nil⟩
def iS.zero (w:World) (lo:Nat) : iS w lo .zero .zero:=⟨rfl,rfl,Own.fC _ _ _ _ _ _,Own.fC _ _ _ _ _ _⟩
def tp (r:eG) (z:aj) (w:World) (hr:Hb w r z) (hn:r.ai.n*24<=140737488355328) (hm:r.Types.n*8<=140737488355328) :
 bI prog 72 [.agg (dq r).toArray] w fun v w' => ∃ s,v = .agg (dq s).toArray∧iS w' w.heap.size s z∧s.ai.n=r.ai.n∧s.Types.n=r.Types.n:=by
 refine Wj func72 ntmps72 ?_;refine Ww fun b w1 hw hb hB => ?_;refine SW.alloc rfl fun b2 w2 bq aq qO => ?_
 have vo:=hw.up aq
 have bG:b2≠b:=by have:=hB.lt;omega
 obtain ⟨hw,hB⟩:=cT bq hw hB;have EG:=hb;refine Wz ?_;refine CW.any 7 mixed (db (by kernel_rfl)) rfl fun w1 ah aI => ?_
 obtain ⟨hw,hB,qO⟩:=cd ah hw hB qO;clear ah;refine Wa ?_;refine SA.bZ 2 ?_;refine Wk (lI _ _ _ _ _ (hr.free.ext hw) hn) fun v w4 ar hv => ?_
 obtain ⟨X,c4,rfl,hX⟩:=hv;have hX:=hX.low hw.size;obtain ⟨hw,hB,qO⟩:=cd ar hw hB qO;refine SW.nil (ae.sa ar ?_);refine Wa ?_;refine SA.bZ 5 ?_;refine Wk (dC _ _ _ _ _ (hr.types.ext hw) hm) fun v w4 ar hv => ?_
 obtain ⟨Y,d4,rfl,hY⟩:=hv;have hY:=hY.low hw.size;obtain ⟨hX,hw,hB,qO⟩:=dJ ar hX hw hB qO;refine SW.nil (ae.sa ar ?_);refine SA.fZ ?_;skip;refine Wb (i:=2) hB fun w5 wA hg => ?_
 have hw:=hw.own EG hg;have hX:=hX.grown hg (.inr (hX.fr hB rfl));have hY:=hY.grown hg (.inr (hY.fr hB rfl));have qO:=qO.grown hg (by simpa using bG);refine Wz ?_;refine Wb (i:=3) wA fun w6 WQ hg => ?_
 have hw:=hw.own EG hg;have hX:=hX.grown hg (.inr (hX.fr wA rfl));have hY:=hY.grown hg (.inr (hY.fr wA rfl));have qO:=qO.grown hg (by simpa using bG);repeat' (first|refine Wz ?_|refine Wm ((fun _ _=>WQ.cell)) ?_)
 refine Wg qO (fU ⟨r.aT,r.To,⟨X,r.ai.n,c4⟩,⟨Y,r.Types.n,d4⟩⟩) fun w7 cK hg => ?_
 have hw:=hw.own vo hg;have hX:=hX.grown hg (.inr (hX.fr qO rfl));have hY:=hY.grown hg (.inr (hY.fr qO rfl));refine Wz ?_;exact ae.EW rfl rfl cK rfl ⟨_,rfl,hw,⟨r.aT,r.To,⟨X,r.ai.n,c4⟩,⟨Y,r.Types.n,d4⟩⟩,rfl,⟨hr.from_,hr.pJ,hX,hY⟩,rfl,rfl⟩
def jG (f t:Int) : Int×aj:=if fR f t then (0,⟨f,t,[],List.replicate ((t-f) / 8).toNat 1⟩) else (1,.zero)
def yN (lo:Nat) (r:Int×aj) (v:Value) (w:World) : Prop := ∃ s:eG,v = .tuple #[.agg (dq s).toArray,.int .i64 r.1]∧iS w lo s r.2
def uD {t:Int} (h : ¬ fR f t) : jG f t=(1,.zero):=if_neg h
def mC {t:Int} (h:fR f t) : jG f t=(0,⟨f,t,[],List.replicate ((t-f) / 8).toNat 1⟩):=if_pos h
def DI {x:Int} (h : 0<=x) : x.tmod 16=x % 16:=ae7 h
def O7 (k i:Nat) (h:i<k) : (List.replicate i (1:Int)++List.replicate (k-i) 0).set i 1=List.replicate (i+1) 1++List.replicate (k-(i+1)) 0:=by
 apply afj (by simp;omega);intro j h1 h2;rw [aeP];by_cases hj:i=j
 ·subst hj;simp
 ·simp only [hj,if_false,List.getElem_append,List.length_replicate,List.getElem_replicate];by_cases h3:j<i
  ·simp [h3,show j<i+1 by omega]
  ·simp [h3,show ¬ j<i+1 by omega]
def zL (f t:Int) (w:World) (hf : -9223372036854775808<=f∧f<=9223372036854775807) (ht : -9223372036854775808<=t∧t<=9223372036854775807) : bI prog 39 [.int .i64 f,.int .i64 t] w (yN w.heap.size (jG f t)):=by
 refine Wj func39 ntmps39 ?_;refine CW.seq (CW.region (SW.alloc rfl fun b4 w1 hw fw aE => ?_));have dQ:=fw;by_cases mm:fR f t
 ·obtain ⟨h1,h2,h3,h4,h5⟩:=id mm;have m1:=DI h1;have m2:=DI (show 0<=t by omega);rw [mC mm];obtain ⟨k,hk⟩ : ∃ k:Nat,(t-f) / 8=k:=⟨((t-f) / 8).toNat,by omega⟩;refine Wz ?_;refine SW.make (enc:=bt) (k:=k) 0 rfl rfl (by omega) (by omega) (by omega) rfl fun A c w2 bq hO => ?_
  have hO:=hO.low hw.size;(obtain ⟨hw,aE⟩:=cT bq hw aE);refine Wz ?_;refine SW.alloc rfl fun b6 w1 ah dv ap => ?_
  have cQ:=hw.up dv
  have Rz:b4≠b6:=by have:=aE.lt;omega
  obtain ⟨hw,aE,hO⟩:=cd ah hw aE hO;refine Wg ap (fU ⟨f,t,.nil,⟨A,k,c⟩⟩) fun w2 bQ hg => ?_
  have hw:=hw.own cQ hg;have hO:=hO.grown hg (.inr (hO.fr ap rfl));have aE:=aE.grown hg (by simpa using Rz);have ap:=bQ;clear bQ ah hg dv;have hA:=hO.sl.base;refine Wz ?_
  refine CW.loop (fun i:Nat=>[(4,.pointer (some ⟨b4,0,none⟩)),(6,.pointer (some ⟨b6,0,none⟩)),(40,.int .i64 (k:Int)),(41,.int .i64 (i:Int))])
   (fun i w'=>i<=k∧Ext w w'∧aR w' b4 113 (dq .zero)∧aR w' b6 113 (dq ⟨f,t,.nil,⟨A,k,c⟩⟩)∧Own w' w.heap.size 3 1 bt A k c (List.replicate i 1++List.replicate (k-i) 0)) (fun i=>k-i) 0
   ⟨rfl,rfl,rfl,rfl,trivial⟩ ⟨by omega,hw,aE,ap,by simpa using hO⟩ ?_
  clear hw aE ap hO;rintro i w' ⟨hi,hw,aE,ap,hO⟩
  have hA:=hO.sl.base;by_cases EX:i<k
  ·refine Wz ?_;refine SW.qT i hO rfl rfl EX fun w3 BM hg => ?_
   have hw:=aD hw hg (aew _) hO.aW;have aE:=aE.grown hg (fun e=>hO.fr aE rfl e.symm);have ap:=ap.grown hg (fun e=>hO.fr ap rfl e.symm);rw [O7 k i EX] at BM;refine Wz ?_;exact ae.again (i+1) ⟨rfl,rfl,rfl,rfl,trivial⟩ (by omega) ⟨by omega,hw,aE,ap,BM⟩
  ·obtain rfl:i=k:=by omega
   simp only [Nat.sub_self,List.replicate_zero,List.append_nil] at hO;refine Wz ?_;refine Wg aE (fU ⟨f,t,.nil,⟨A,i,c⟩⟩) fun w5 cK hg => ?_
   have hw:=hw.own dQ hg;have hO:=hO.grown hg (.inr (hO.fr aE rfl));refine Wz ?_;refine ae.dj rfl rfl rfl cK rfl ⟨_,rfl,hw,⟨f,t,.nil,⟨A,i,c⟩⟩,rfl,rfl,rfl,Own.fC _ _ _ _ _ _,?_⟩;simp only [hk,Int.toNat_natCast];exact hO
 ·rw [uD mm];unfold fR at mm;have m1:=fun h => @DI f h
  have m2:=fun h => @DI t h
  by_cases h1 : 0<=f
  ·have m1:=m1 h1;by_cases h2:f<=t
   ·have m2:=m2 (by omega);repeat' (first|refine Wz ?_|refine SW.gp rfl rfl rfl (fun h => ?_) (fun h => ?_)|refine SW.Dy rfl rfl rfl (fun h => ?_) (fun h => ?_))
    all_goals
     first
      | (exfalso;omega)
      | (refine Wg aE (fU .zero) fun w5 cK hg => ?_
         have hw:=hw.own dQ hg;refine Wz ?_;exact ae.dj rfl rfl rfl cK rfl ⟨_,rfl,hw,.zero,rfl,iS.zero _ _⟩)
   ·repeat' (first|refine Wz ?_|refine SW.gp rfl rfl rfl (fun h => ?_) (fun h => ?_))
    all_goals
     refine Wg aE (fU .zero) fun w5 cK hg => ?_
     have hw:=hw.own dQ hg;refine Wz ?_;exact ae.dj rfl rfl rfl cK rfl ⟨_,rfl,hw,.zero,rfl,iS.zero _ _⟩
  ·refine Wz ?_
   all_goals
    refine Wg aE (fU .zero) fun w5 cK hg => ?_
    have hw:=hw.own dQ hg;refine Wz ?_;exact ae.dj rfl rfl rfl cK rfl ⟨_,rfl,hw,.zero,rfl,iS.zero _ _⟩
variable {k:Nat} {y:Operand} {t ty:TypeId} {p:α -> Bool}
section
variable {P:Program} {L:Env} {w:World} {d:Option Nat} {T:TypeId} {pos:String} {af:Array Edge} {g:Option (Nat×Bool)}
def RA {x:Operand} {i j:Int} (a b:Nat) (hx:cy L x=some (.int .i64 i)) (hy:cy L y=some (.int .i64 j)) (ha:i=(a:Int)) (hb:j=(b:Int)) (mR:a<9223372036854775808) (iL:b<9223372036854775808) :
 St P ⟨d,.binOp .xor t x y ty,T,pos,af,g⟩ L w (.int .i64 ((a ^^^ b:Nat) : Int)) :=
 ⟨fun n A hA w' _=>by
  have e1:=hA.eval hx;have e2:=hA.eval hy;subst ha hb;generalize A.eval = ρ at *
  have e8:a ^^^ b<2 ^ 63:=Nat.xor_lt_two_pow (by omega) (by omega)
  have e:(BitVec.ofInt 64 (a:Int) ^^^ BitVec.ofInt 64 (b:Int)).toNat=a ^^^ b:=by
   rw [BitVec.toNat_xor,BitVec.ofInt_natCast,BitVec.ofInt_natCast,BitVec.toNat_ofNat,BitVec.toNat_ofNat,af9 (by omega),af9 (by omega)]
  have aX:(Op.intBits .xor .i64 (a:Int) (b:Int)).run P w' = .ok (.int .i64 ((a ^^^ b:Nat) : Int)) w':=by
   have:Op.intBits .xor .i64 (a:Int) (b:Int)=(pure (.int .i64 (IntKind.i64.wrap ((BitVec.ofInt 64 (a:Int) ^^^ BitVec.ofInt 64 (b:Int)).toNat:Nat))) : Sem Value):=rfl
   rw [this,e,ju (by omega) (by omega)]
   rfl
  have aq:(binOp .xor t (.int .i64 (a:Int)) (.int .i64 (b:Int))).run P w' = .ok (.int .i64 ((a ^^^ b:Nat) : Int)) w':=by
   have:binOp .xor t (.int .i64 (a:Int)) (.int .i64 (b:Int))=Op.intBits .xor .i64 (a:Int) (b:Int):=by simp [binOp]
   rw [this,aX]
  simp [execOp,e1,e2,eqGuard,aq]⟩
def n9 {x:Operand} {i j:Int} (a o:Int) (hx:cy L x=some (.int .i64 i)) (hy:cy L y=some (.int .i64 j)) (hi:i=a) (hj:j=pw o) (h : 0<=a∧a<256∧0<=o∧o<4∧a % pw o=0) :
 St P ⟨d,.binOp .xor t x y ty,T,pos,af,g⟩ L w (.int .i64 (beside a o)):=by
 obtain ⟨h1,h2,h3,h4,h5⟩:=h;subst hi hj;obtain ⟨k,rfl⟩:=aeE h1;have hp:=cM h3 (by omega);have e:pw o=((2 ^ o.toNat:Nat) : Int):=by unfold pw;simp
 have e8:(2 ^ o.toNat:Nat)<9223372036854775808:=by omega
 have:=RA (P:=P) (t:=t) (ty:=ty) (w:=w) (d:=d) (T:=T) (pos:=pos) (af:=af) (g:=g) k (2 ^ o.toNat) hx hy rfl e (by omega) e8
 rw [Ha (by omega) h3 h4 h5] at this;exact this
end
def tq (r:eG) (b:Block) (w:World) (h0 : 0<=r.aT) : bI prog 127 [.agg (dq r).toArray,.agg (aO b).toArray] w fun v _=>v = .bool (decide (ky r.aT r.To b.At b.Order)):=by
 refine Wj func127 ntmps127 ?_;refine Ww fun b1 w1 hw aX h1 => ?_;refine SW.box rfl rfl fun b2 w2 bq aq h2 => ?_
 (obtain ⟨hw,h1⟩:=cT bq hw h1);by_cases hf:ky r.aT r.To b.At b.Order
 ·obtain ⟨a1,a2,a3,a4,a5⟩:=id hf;have hp:=cM a1 a2;rw [decide_eq_true hf];have e:b.At.tmod (pw b.Order)=0:=by rw [ae7 (by omega)];exact a5
  repeat' (first|refine Wz ?_|((apply CW.bH mixed;(· kernel_rfl);rotate_left;intro w1 ah;obtain ⟨hw,h1,h2⟩:=cd ah hw h1 h2;clear ah;rotate_right))|(refine SW.st (fO (r:=pw b.Order) rfl rfl (by omega) (by omega) (by simp [pw]) (by omega) (by omega)) rfl ?_)|exact SW.eU rfl)
  exact ae.bh rfl rfl ⟨_,rfl,hw,by simp [e]⟩
 ·rw [decide_eq_false hf];by_cases a1 : 0<=b.Order
  ·by_cases a2:b.Order<=4
   ·by_cases a3:r.aT<=b.At
    ·by_cases a4:b.At<r.To
     ·have hp:=cM a1 a2
      have e:b.At.tmod (pw b.Order)≠0:=by
       rw [ae7 (by omega)];exact fun a5=>hf ⟨a1,a2,a3,a4,a5⟩
      repeat' (first|refine Wz ?_|((apply CW.bH mixed;(· kernel_rfl);rotate_left;intro w1 ah;obtain ⟨hw,h1,h2⟩:=cd ah hw h1 h2;clear ah;rotate_right))|(refine SW.st (fO (r:=pw b.Order) rfl rfl (by omega) (by omega) (by simp [pw]) (by omega) (by omega)) rfl ?_)|exact SW.eU rfl)
      exact ae.bh rfl rfl ⟨_,rfl,hw,by simp [e]⟩
     ·repeat' (first|refine Wz ?_|((apply CW.bH mixed;(· kernel_rfl);rotate_left;intro w1 ah;obtain ⟨hw,h1,h2⟩:=cd ah hw h1 h2;clear ah;rotate_right))|exact SW.eU rfl)
      exact ae.bh rfl rfl ⟨_,rfl,hw,by simp [*]⟩
    ·repeat' (first|refine Wz ?_|((apply CW.bH mixed;(· kernel_rfl);rotate_left;intro w1 ah;obtain ⟨hw,h1,h2⟩:=cd ah hw h1 h2;clear ah;rotate_right))|exact SW.eU rfl)
     exact ae.bh rfl rfl ⟨_,rfl,hw,by simp [*]⟩
   ·repeat' (first|refine Wz ?_|((apply CW.bH mixed;(· kernel_rfl);rotate_left;intro w1 ah;obtain ⟨hw,h1,h2⟩:=cd ah hw h1 h2;clear ah;rotate_right))|exact SW.eU rfl)
    exact ae.bh rfl rfl ⟨_,rfl,hw,by simp [*]⟩
  ·repeat' (first|refine Wz ?_|((apply CW.bH mixed;(· kernel_rfl);rotate_left;intro w1 ah;obtain ⟨hw,h1,h2⟩:=cd ah hw h1 h2;clear ah;rotate_right))|exact SW.eU rfl)
   exact ae.bh rfl rfl ⟨_,rfl,hw,by simp [*]⟩
def p9 (b:Block) (w:World) (h : 0<=b.Order∧b.Order<=4) (ha : 0<=b.At∧b.At<=256) : bI prog 128 [.agg (aO b).toArray] w fun v _=>v = .int .i64 (b.At+pw b.Order):=by
 refine Wj func128 ntmps128 ?_;refine Ww fun b1 w1 hw aX h1 => ?_;have hp:=cM h.1 h.2;repeat' (first|refine Wz ?_|((apply CW.bH mixed;(· kernel_rfl);rotate_left;intro w1 ah;obtain ⟨hw,h1⟩:=cT ah hw h1;clear ah;rotate_right))|(refine SW.st (fO (r:=pw b.Order) rfl rfl (by omega) (by omega) (by simp [pw]) (by omega) (by omega)) rfl ?_)|exact SW.eU rfl)
 exact ae.bh rfl rfl ⟨_,rfl,hw,rfl⟩
def oa {l:List α} (h:k<l.length) (hp:p l[k]=true) (hf:∀ j (hj:j<l.length),j<k->p l[j]=false) : idxOf p l=(k:Int):=by
 have e:l.findIdx p=k:=(List.findIdx_eq h).2 ⟨hp,fun j hj=>hf j (by omega) hj⟩
 have e2:l.any p=true:=aeG.2 ⟨l[k],aet h,hp⟩
 simp [idxOf,e,e2]
def lg {l:List α} (hf:∀ j (hj:j<l.length),p l[j]=false) : idxOf p l = -1∧l.any p=false:=by
 have e:l.any p=false:=by
  rw [aeS];intro x hx;obtain ⟨j,hj,rfl⟩:=aeu hx;simp [hf j hj]
 exact ⟨by simp [idxOf,e],e⟩
def lJ (p : α -> Bool) (l:List α) : decide (0<=idxOf p l)=l.any p:=by
 unfold idxOf;by_cases h:l.any p=true
 ·simp [h]
 ·simp [h]
def wB (A:Option Addr) (n c:Nat) (l:List Int) (w:World) (hl:Sl w 1 bt A n l) (f:FuncId) (cap:List Value) [Body prog f] (p:Int->Bool) (arg:Int->Value) (pK:∀ x,arg x=(if 1=1 then (bt x)[0]?.getD undef else .agg (bt x).toArray))
 (hf:∀ x∈l,∀ w',Ext w w'->bI prog f ([arg x]++cap) w' fun v _=>v = .bool (p x)) (hn:n<=9223372036854775807) :
 bI prog 142 [.slice A n c,.func (.func f) #[] cap.toArray] w fun v _=>v = .int .i64 (idxOf p l):=by
 refine Wj func142 ntmps142 ?_;have hw:=Ext.refl w;have hA:=hl.base;refine Wz ?_;refine CW.loop (fun k:Nat=>[(0,.slice A n c),(1,.func (.func f) #[] cap.toArray),(7,.int .i64 (n:Int)),(8,.int .i64 (k:Int))]) (fun k w'=>k<=n∧Ext w w' ∧ ∀ j (hj:j<l.length),j<k->p l[j]=false) (fun k=>n-k) 0 ⟨rfl,rfl,rfl,rfl,trivial⟩ ⟨by omega,hw,fun j _ h=>by omega⟩ ?_;clear hw;rintro k w' ⟨bP,hw,hI⟩
 by_cases hk:k<n
 ·have hx:=pK (l[k]'(hl.lt hk));have xE:=hf (l[k]'(hl.lt hk)) (aet _);rw [hx] at xE;repeat' (first|refine Wz ?_|refine Wn hw (hl.one hk rfl) ?_)
  refine SW.vk rfl rfl rfl (xE _ hw) fun v w1 ah hv => ?_
  subst hv;have hw:=hw.trans ah;cases hp:p (l[k]'(hl.lt hk))
  ·refine Wz ?_;refine ae.again (k+1) ⟨rfl,rfl,rfl,rfl,trivial⟩ (by omega) ⟨by omega,hw,fun j hj h => ?_⟩;by_cases my:j=k
   ·subst my;exact hp
   ·exact hI j hj (by omega)
  ·refine Wz ?_;exact ae.bh rfl rfl ⟨_,rfl,hw,by rw [oa (hl.lt hk) hp hI]⟩
 ·refine Wz ?_;exact ae.bh rfl rfl ⟨_,rfl,hw,by rw [(lg (fun j hj=>hI j hj (by have:=hl.len;omega))).1]⟩
def iY (A:Option Addr) (n c:Nat) (l:List Int) (w:World) (hl:Sl w 1 bt A n l) (f:FuncId) (cap:List Value) [Body prog f] (p:Int->Bool) (arg:Int->Value) (pK:∀ x,arg x=(if 1=1 then (bt x)[0]?.getD undef else .agg (bt x).toArray))
 (hf:∀ x∈l,∀ w',Ext w w'->bI prog f ([arg x]++cap) w' fun v _=>v = .bool (p x)) (hn:n<=9223372036854775807) :
 bI prog 100 [.slice A n c,.func (.func f) #[] cap.toArray] w fun v _=>v = .bool (l.any p):=by
 refine Wj func100 ntmps100 ?_;have hw:=Ext.refl w;repeat' (first|refine Wz ?_|(refine Wk (wB _ _ _ _ _ (hl.ext hw) f cap p arg pK (fun x hx w1 h1=>hf x hx w1 (hw.trans h1)) hn) ?_;intro v w1 ah hv;subst hv;have hw:=hw.trans ah;clear ah))
 exact ae.bh rfl rfl ⟨_,rfl,hw,by rw [lJ]⟩
def ow (A:Option Addr) (n c:Nat) (l:List Block) (w:World) (hl:Sl w 3 aO A n l) (f:FuncId) (cap:List Value) [Body prog f] (p:Block->Bool) (arg:Block->Value) (pK:∀ x,arg x=(if 3=1 then (aO x)[0]?.getD undef else .agg (aO x).toArray))
 (hf:∀ x∈l,∀ w',Ext w w'->bI prog f ([arg x]++cap) w' fun v _=>v = .bool (p x)) (hn:n<=9223372036854775807) :
 bI prog 152 [.slice A n c,.func (.func f) #[] cap.toArray] w fun v _=>v = .int .i64 (idxOf p l):=by
 refine Wj func152 ntmps152 ?_;have hw:=Ext.refl w;have hA:=hl.base;refine Wz ?_;refine CW.loop (fun k:Nat=>[(0,.slice A n c),(1,.func (.func f) #[] cap.toArray),(7,.int .i64 (n:Int)),(8,.int .i64 (k:Int))]) (fun k w'=>k<=n∧Ext w w' ∧ ∀ j (hj:j<l.length),j<k->p l[j]=false) (fun k=>n-k) 0 ⟨rfl,rfl,rfl,rfl,trivial⟩ ⟨by omega,hw,fun j _ h=>by omega⟩ ?_;clear hw;rintro k w' ⟨bP,hw,hI⟩
 by_cases hk:k<n
 ·have hx:=pK (l[k]'(hl.lt hk));have xE:=hf (l[k]'(hl.lt hk)) (aet _);rw [hx] at xE;repeat' (first|refine Wz ?_|refine Wo hw ((hl.all hk)) ?_)
  refine SW.vk rfl rfl rfl (xE _ hw) fun v w1 ah hv => ?_
  subst hv;have hw:=hw.trans ah;cases hp:p (l[k]'(hl.lt hk))
  ·refine Wz ?_;refine ae.again (k+1) ⟨rfl,rfl,rfl,rfl,trivial⟩ (by omega) ⟨by omega,hw,fun j hj h => ?_⟩;by_cases my:j=k
   ·subst my;exact hp
   ·exact hI j hj (by omega)
  ·refine Wz ?_;exact ae.bh rfl rfl ⟨_,rfl,hw,by rw [oa (hl.lt hk) hp hI]⟩
 ·refine Wz ?_;exact ae.bh rfl rfl ⟨_,rfl,hw,by rw [(lg (fun j hj=>hI j hj (by have:=hl.len;omega))).1]⟩
def mu (A:Option Addr) (n c:Nat) (l:List Block) (w:World) (hl:Sl w 3 aO A n l) (f:FuncId) (cap:List Value) [Body prog f] (p:Block->Bool) (arg:Block->Value) (pK:∀ x,arg x=(if 3=1 then (aO x)[0]?.getD undef else .agg (aO x).toArray))
 (hf:∀ x∈l,∀ w',Ext w w'->bI prog f ([arg x]++cap) w' fun v _=>v = .bool (p x)) (hn:n<=9223372036854775807) :
 bI prog 123 [.slice A n c,.func (.func f) #[] cap.toArray] w fun v _=>v = .bool (l.any p):=by
 refine Wj func123 ntmps123 ?_;have hw:=Ext.refl w;repeat' (first|refine Wz ?_|(refine Wk (ow _ _ _ _ _ (hl.ext hw) f cap p arg pK (fun x hx w1 h1=>hf x hx w1 (hw.trans h1)) hn) ?_;intro v w1 ah hv;subst hv;have hw:=hw.trans ah;clear ah))
 exact ae.bh rfl rfl ⟨_,rfl,hw,by rw [lJ]⟩
def DJ (t:Int) : Bool := !decide (lf t)
def Hc {t:Int} (h:lf t) : DJ t=false:=by simp [DJ,h]
def Hd {t:Int} (h : ¬ lf t) : DJ t=true:=by simp [DJ,h]
def zM (t:Int) (w:World) : bI prog 126 ([.int .i64 t]++[]) w fun v _=>v = .bool (DJ t):=by
 refine Wj func126 ntmps126 ?_;have hw:=Ext.refl w;by_cases h1 : 0<=t
 ·by_cases h2:t<=2
  ·rw [Hc ⟨h1,h2⟩];refine Wz ?_;all_goals exact ae.bh rfl rfl ⟨_,rfl,hw,by simp;try omega⟩
  ·rw [Hd (fun h=>h2 h.2)];refine Wz ?_;all_goals exact ae.bh rfl rfl ⟨_,rfl,hw,by simp;try omega⟩
 ·rw [Hd (fun h=>h1 h.1)];refine Wz ?_;all_goals exact ae.bh rfl rfl ⟨_,rfl,hw,by simp;try omega⟩
set_option maxHeartbeats 4000000 in
def lh (r:eG) (z:aj) (w:World) (hr:Hb w r z) (hf:r.ai.n<=2305843009213693952) (ht:r.Types.n<=2305843009213693952) (h1 : -9223372036854775808<=r.aT∧r.aT<=9223372036854775807) (h2 : -9223372036854775808<=r.To∧r.To<=9223372036854775807) :
 bI prog 75 [.agg (dq r).toArray] w fun v _=>v = .int .i64 (if fT z then 0 else 8):=by
 refine Wj func75 ntmps75 ?_;refine Ww fun b1 w1 hw lD aX => ?_;have eF:=hr.from_;have eT:=hr.pJ;have O8:=hr.free.len;have T0:=hr.types.len;refine Wz ?_;refine Wk (zL r.aT r.To _ h1 h2) fun v w2 bq hv => ?_
 (obtain ⟨hw,aX⟩:=cT bq hw aX);by_cases mm:fR r.aT r.To
 ·rw [mC mm] at hv;obtain ⟨s,rfl,hs⟩:=hv;obtain ⟨o1,o2,o3,o4,o5⟩:=id mm;have ov:∀ {p:Prop},(bW z->False)->p ∨ ¬ bW z:=fun h => .inr h
  by_cases Za : 8*(z.Types.length:Int)=z.To-z.aT
  ·refine Wz ?_;refine SW.alloc rfl fun b3 w1 ah cg ao => ?_
   have gm:=hw.up cg
   have zN:b1≠b3:=by have:=aX.lt;omega
   obtain ⟨hw,aX,hs⟩:=cd ah hw aX hs;refine Wg ao (fU _) fun w2 ef hg => ?_
   have hw:=hw.own gm hg;have hs:=hs.eV ao hg rfl rfl;have aX:=aX.grown hg (by simpa using zN);have ao:=ef;clear ef ah hg cg
   have cO:∀ w',Ext w w'->bI prog 100 [.slice r.Types.A r.Types.n r.Types.c,.func (.func 126) #[] ([] : List Value).toArray] w' fun v _=>v = .bool (z.Types.any DJ):=fun w' h =>
    iY _ _ _ _ _ (hr.types.ext h) _ [] DJ (fun x => .int .i64 x) (fun x=>rfl) (fun x _ w1 _=>zM x w1) (by omega)
   cases J3:z.Types.any DJ
   ·rw [J3] at cO
    have zO:∀ t∈z.Types,lf t:=fun t Tq=>by
     rw [aeS] at J3;have:=J3 t Tq
     simp [DJ] at this;exact this
    repeat' (first|refine Wz ?_|(refine Wk (cO _ hw) ?_;intro v w1 ah hv;subst hv;obtain ⟨hw,aX⟩:=cT ah hw aX;clear ah))
    refine CW.loop (fun k:Nat=>[(1,.pointer (some ⟨b1,0,none⟩)),(5,.func (.func 126) #[] #[]),(35,.slice r.ai.A r.ai.n r.ai.c),(36,.int .i64 (r.ai.n:Int)),(37,.int .i64 (k:Int))])
     (fun k w'=>k<=r.ai.n∧Ext w w'∧aR w' b1 113 (dq r)∧(∀ (i:Nat) (h:i<z.ai.length),i<k->lq z.aT z.To z.ai[i])∧(∀ (i:Nat) (h:i+1<z.ai.length),i+1<k->nu z.ai[i] z.ai[i+1]))
     (fun k=>r.ai.n-k) 0 ⟨rfl,rfl,rfl,rfl,rfl,trivial⟩ ⟨by omega,hw,aX,fun i h hi=>by omega,fun i h hi=>by omega⟩ ?_
    clear hw aX ao cO hs;rintro k w' ⟨hk,hw,aX,hI,hN⟩
    have hA:=hr.free.base;by_cases gC:k<r.ai.n
    ·have iR:=hr.free.lt gC;repeat' (first|refine Wz ?_|refine Wo hw ((hr.free.all gC)) ?_)
     refine SW.alloc rfl fun b7 w3 nL iT bc => ?_
     have gn:=hw.up iT
     have bG:b1≠b7:=by have:=aX.lt;omega
     (obtain ⟨hw,aX⟩:=cT nL hw aX);refine Wz ?_;refine Wg bc (iK.one (enc:=aO) _) fun w4 bp hg => ?_
     have hw:=hw.own gn hg;have aX:=aX.grown hg (by simpa using bG);by_cases Cr:lq z.aT z.To z.ai[k]
     ·obtain ⟨Tr,He⟩:=id Cr;obtain ⟨f1,f2,f3,f4,f5⟩:=id Tr;have hp:=cM f1 f2
      have cF:∀ w',Ext w w'->bI prog 127 [.agg (dq r).toArray,.agg (aO z.ai[k]).toArray] w' fun v _=>v = .bool true:=fun w' _=>by
       have:=tq r z.ai[k] w' (by omega)
       rwa [eF,eT,decide_eq_true Tr] at this
      have cD:∀ w',bI prog 126 ([.int .i64 (z.ai[k]).Ty]++[]) w' fun v _=>v = .bool false:=fun w'=>by
       have:=zM (z.ai[k]).Ty w'
       rwa [Hc He] at this
      by_cases BG:k=0
      ·subst BG;repeat' (first|refine Wz ?_|((apply CW.bH mixed;(· kernel_rfl);rotate_left;intro w1 ah;obtain ⟨hw,aX,bp⟩:=cd ah hw aX bp;clear ah;rotate_right))|refine SW.want rfl rfl ?_|refine SW.dI rfl rfl (fun w1 ah=>(cF _ (hw.trans ah))) ?_|(refine SW.uC rfl rfl rfl (fun w1 _=>cD w1) ?_)|exact SW.eU rfl)
       refine ae.again (0+1) ⟨rfl,rfl,rfl,rfl,rfl,trivial⟩ (by omega) ⟨by omega,hw,aX,fun i h hi => ?_,fun i h hi=>by omega⟩;obtain rfl:i=0:=by omega
       exact Cr
      ·obtain ⟨j,rfl⟩ : ∃ j,k=j+1:=⟨k-1,by omega⟩;have hj:j<r.ai.n:=by omega
       have pZ:=hr.free.lt hj;obtain ⟨⟨g1,g2,g3,g4,g5⟩,_⟩:=hI j pZ (by omega);have cE:∀ w',bI prog 128 [.agg (aO z.ai[j]).toArray] w' fun v _=>v = .int .i64 ((z.ai[j]).At+pw (z.ai[j]).Order):=fun w'=>p9 _ _ ⟨g1,g2⟩ ⟨by omega,by omega⟩
       by_cases e8:(z.ai[j]).At+pw (z.ai[j]).Order<=(z.ai[j+1]).At
       ·by_cases Ts:(z.ai[j+1]).Order<4∧(z.ai[j]).Order=(z.ai[j+1]).Order∧(z.ai[j]).At=beside (z.ai[j+1]).At (z.ai[j+1]).Order
        ·obtain ⟨u1,u2,u3⟩:=id Ts;repeat' (first|refine Wz ?_|((apply CW.bH mixed;(· kernel_rfl);rotate_left;intro w1 ah;obtain ⟨hw,aX,bp⟩:=cd ah hw aX bp;clear ah;rotate_right))|refine SW.st (cn (j) rfl rfl (by assumption) (by omega) (by omega)) rfl ?_|refine Wo hw ((hr.free.all hj)) ?_|refine Wn hw (hr.free.jF hj rfl) ?_|refine SW.dI rfl rfl (fun w1 ah=>(cF _ (hw.trans ah))) ?_|refine SW.dI rfl rfl (fun w1 ah=>(cE _)) ?_|(refine SW.uC rfl rfl rfl (fun w1 _=>cD w1) ?_)|(refine SW.st (fO (r:=pw (z.ai[j+1]).Order) rfl rfl (by omega) (by omega) (by simp [pw]) (by omega) (by omega)) rfl ?_)|(refine SW.st (n9 (z.ai[j+1]).At (z.ai[j+1]).Order rfl rfl rfl rfl ⟨by omega,by omega,f1,u1,f5⟩) rfl ?_)|exact SW.eU rfl)
         refine ae.bh rfl rfl ⟨_,rfl,hw,?_⟩;rw [qZ (fun h=>(h.next j iR).2 Ts)];rfl
        ·by_cases u1:(z.ai[j+1]).Order<4
         ·by_cases u2:(z.ai[j]).Order=(z.ai[j+1]).Order
          ·have u3 : ¬ (z.ai[j]).At=beside (z.ai[j+1]).At (z.ai[j+1]).Order:=fun u3=>Ts ⟨u1,u2,u3⟩
           repeat' (first|refine Wz ?_|((apply CW.bH mixed;(· kernel_rfl);rotate_left;intro w1 ah;obtain ⟨hw,aX,bp⟩:=cd ah hw aX bp;clear ah;rotate_right))|refine SW.want rfl rfl ?_|refine SW.st (cn (j) rfl rfl (by assumption) (by omega) (by omega)) rfl ?_|refine Wo hw ((hr.free.all hj)) ?_|refine Wn hw (hr.free.jF hj rfl) ?_|refine SW.dI rfl rfl (fun w1 ah=>(cF _ (hw.trans ah))) ?_|refine SW.dI rfl rfl (fun w1 ah=>(cE _)) ?_|(refine SW.uC rfl rfl rfl (fun w1 _=>cD w1) ?_)|(refine SW.st (fO (r:=pw (z.ai[j+1]).Order) rfl rfl (by omega) (by omega) (by simp [pw]) (by omega) (by omega)) rfl ?_)|(refine SW.st (n9 (z.ai[j+1]).At (z.ai[j+1]).Order rfl rfl rfl rfl ⟨by omega,by omega,f1,u1,f5⟩) rfl ?_)|exact SW.eU rfl)
           refine ae.again (j+1+1) ⟨rfl,rfl,rfl,rfl,rfl,trivial⟩ (by omega) ⟨by omega,hw,aX,fun i h hi => ?_,fun i h hi => ?_⟩
           ·by_cases o6:i=j+1
            ·subst o6;exact Cr
            ·exact hI i h (by omega)
           ·by_cases o6:i=j
            ·subst o6;exact ⟨e8,Ts⟩
            ·exact hN i h (by omega)
          ·repeat' (first|refine Wz ?_|((apply CW.bH mixed;(· kernel_rfl);rotate_left;intro w1 ah;obtain ⟨hw,aX,bp⟩:=cd ah hw aX bp;clear ah;rotate_right))|refine SW.want rfl rfl ?_|refine SW.st (cn (j) rfl rfl (by assumption) (by omega) (by omega)) rfl ?_|refine Wo hw ((hr.free.all hj)) ?_|refine Wn hw (hr.free.jF hj rfl) ?_|refine SW.dI rfl rfl (fun w1 ah=>(cF _ (hw.trans ah))) ?_|refine SW.dI rfl rfl (fun w1 ah=>(cE _)) ?_|(refine SW.uC rfl rfl rfl (fun w1 _=>cD w1) ?_)|exact SW.eU rfl)
           refine ae.again (j+1+1) ⟨rfl,rfl,rfl,rfl,rfl,trivial⟩ (by omega) ⟨by omega,hw,aX,fun i h hi => ?_,fun i h hi => ?_⟩
           ·by_cases o6:i=j+1
            ·subst o6;exact Cr
            ·exact hI i h (by omega)
           ·by_cases o6:i=j
            ·subst o6;exact ⟨e8,Ts⟩
            ·exact hN i h (by omega)
         ·repeat' (first|refine Wz ?_|((apply CW.bH mixed;(· kernel_rfl);rotate_left;intro w1 ah;obtain ⟨hw,aX,bp⟩:=cd ah hw aX bp;clear ah;rotate_right))|refine SW.want rfl rfl ?_|refine SW.st (cn (j) rfl rfl (by assumption) (by omega) (by omega)) rfl ?_|refine Wo hw ((hr.free.all hj)) ?_|refine SW.dI rfl rfl (fun w1 ah=>(cF _ (hw.trans ah))) ?_|refine SW.dI rfl rfl (fun w1 ah=>(cE _)) ?_|(refine SW.uC rfl rfl rfl (fun w1 _=>cD w1) ?_)|exact SW.eU rfl)
          refine ae.again (j+1+1) ⟨rfl,rfl,rfl,rfl,rfl,trivial⟩ (by omega) ⟨by omega,hw,aX,fun i h hi => ?_,fun i h hi => ?_⟩
          ·by_cases o6:i=j+1
           ·subst o6;exact Cr
           ·exact hI i h (by omega)
          ·by_cases o6:i=j
           ·subst o6;exact ⟨e8,Ts⟩
           ·exact hN i h (by omega)
       ·repeat' (first|refine Wz ?_|((apply CW.bH mixed;(· kernel_rfl);rotate_left;intro w1 ah;obtain ⟨hw,aX,bp⟩:=cd ah hw aX bp;clear ah;rotate_right))|refine SW.want rfl rfl ?_|refine SW.st (cn (j) rfl rfl (by assumption) (by omega) (by omega)) rfl ?_|refine Wo hw ((hr.free.all hj)) ?_|refine SW.dI rfl rfl (fun w1 ah=>(cF _ (hw.trans ah))) ?_|refine SW.dI rfl rfl (fun w1 ah=>(cE _)) ?_|(refine SW.uC rfl rfl rfl (fun w1 _=>cD w1) ?_)|exact SW.eU rfl)
        refine ae.bh rfl rfl ⟨_,rfl,hw,?_⟩;rw [qZ (fun h=>e8 (h.next j iR).1)];rfl
     ·have Qv:fT z=false:=qZ (fun h=>Cr (h.eV k iR))
      by_cases Tr:ky z.aT z.To (z.ai[k]).At (z.ai[k]).Order
      ·have He : ¬ lf (z.ai[k]).Ty:=fun h=>Cr ⟨Tr,h⟩
       have cF:∀ w',Ext w w'->bI prog 127 [.agg (dq r).toArray,.agg (aO z.ai[k]).toArray] w' fun v _=>v = .bool true:=fun w' _=>by
        have:=tq r z.ai[k] w' (by omega)
        rwa [eF,eT,decide_eq_true Tr] at this
       have cD:∀ w',bI prog 126 ([.int .i64 (z.ai[k]).Ty]++[]) w' fun v _=>v = .bool true:=fun w'=>by
        have:=zM (z.ai[k]).Ty w'
        rwa [Hd He] at this
       repeat' (first|refine Wz ?_|((apply CW.bH mixed;(· kernel_rfl);rotate_left;intro w1 ah;obtain ⟨hw,aX,bp⟩:=cd ah hw aX bp;clear ah;rotate_right))|refine SW.want rfl rfl ?_|refine SW.dI rfl rfl (fun w1 ah=>(cF _ (hw.trans ah))) ?_|(refine SW.uC rfl rfl rfl (fun w1 _=>cD w1) ?_)|exact SW.eU rfl)
       exact ae.bh rfl rfl ⟨_,rfl,hw,by rw [Qv];rfl⟩
      ·have cF:∀ w',Ext w w'->bI prog 127 [.agg (dq r).toArray,.agg (aO z.ai[k]).toArray] w' fun v _=>v = .bool false:=fun w' _=>by
        have:=tq r z.ai[k] w' (by omega)
        rwa [eF,eT,decide_eq_false Tr] at this
       repeat' (first|refine Wz ?_|((apply CW.bH mixed;(· kernel_rfl);rotate_left;intro w1 ah;obtain ⟨hw,aX,bp⟩:=cd ah hw aX bp;clear ah;rotate_right))|refine SW.skip rfl rfl rfl rfl ?_|refine SW.dI rfl rfl (fun w1 ah=>(cF _ (hw.trans ah))) ?_|exact SW.eU rfl)
       exact ae.bh rfl rfl ⟨_,rfl,hw,by rw [Qv];rfl⟩
    ·refine Wz ?_;refine ae.bh rfl rfl ⟨_,rfl,hw,?_⟩;rw [yM ⟨by rw [<- eF,<- eT];exact mm,Za,zO,fun i h=>hI i h (by omega),fun i h=>hN i h (by omega)⟩];rfl
   ·rw [J3] at cO;repeat' (first|refine Wz ?_|(refine Wk (cO _ hw) ?_;intro v w1 ah hv;subst hv;obtain ⟨hw,aX⟩:=cT ah hw aX;clear ah))
    refine ae.bh rfl rfl ⟨_,rfl,hw,?_⟩
    rw [qZ (fun h=>by
     rw [aeG] at J3;obtain ⟨t,h1,h2⟩:=J3;rw [Hc (h.types t h1)] at h2;cases h2)];rfl
  ·refine Wz ?_;refine SW.alloc rfl fun b3 w1 ah cg ao => ?_
   have gm:=hw.up cg
   have zN:b1≠b3:=by have:=aX.lt;omega
   obtain ⟨hw,aX,hs⟩:=cd ah hw aX hs;refine Wg ao (fU _) fun w2 ef hg => ?_
   have hw:=hw.own gm hg;have hs:=hs.eV ao hg rfl rfl;have aX:=aX.grown hg (by simpa using zN);have ao:=ef;clear ef ah hg cg;refine Wz ?_;refine ae.bh rfl rfl ⟨_,rfl,hw,?_⟩;rw [qZ (fun h=>Za h.len)];rfl
 ·rw [uD mm] at hv;obtain ⟨s,rfl,hs⟩:=hv;refine Wz ?_;refine SW.alloc rfl fun b3 w1 ah cg ao => ?_
  have gm:=hw.up cg
  have zN:b1≠b3:=by have:=aX.lt;omega
  obtain ⟨hw,aX,hs⟩:=cd ah hw aX hs;refine Wg ao (fU _) fun w2 ef hg => ?_
  have hw:=hw.own gm hg;have hs:=hs.eV ao hg rfl rfl;have aX:=aX.grown hg (by simpa using zN);have ao:=ef;clear ef ah hg cg;refine Wz ?_;refine ae.bh rfl rfl ⟨_,rfl,hw,?_⟩;rw [qZ (fun h=>mm (by rw [eF,eT];exact h.ok))];rfl
variable {l:List Block} {i j:Nat}
def BH (a o:Int) (b:Block) : Bool:=decide (b.At=a) && decide (b.Order=o)
def mS (l:List Block) (a o:Int) : List Block:=l.filter fun b => !BH a o b
def jm:Nat->List Block->Int->Int->List Block×Int×Int
 | 0,l,a,o=>(l,a,o)
 | f+1,l,a,o=>if o<4 then (if l.any (BH (beside a o) o) then jm f (mS l (beside a o) o) (min a (beside a o)) (o+1) else (l,a,o)) else (l,a,o)
def bE (l:List Block) (a:Int) : Nat:=l.findIdx fun b=>decide (a<=b.At)
def aM (l:List α) (i:Nat) (b : α) : List α := l.take i++[b]++l.drop i
def kz (l:List Block) (a o:Int) : Bool:=l.any fun x=>decide (x.At<a+pw o) && decide (a<x.At+pw x.Order)
def sw (l:List Block) : Prop:=l.Pairwise fun x y=>x.At+pw x.Order<=y.At
structure EY (f t:Int) (l:List Block) (a o:Int) : Prop where
 sw:sw l
 eV:∀ b∈l,lq f t b
 fit:ky f t a o
 ON:∀ b∈l,b.At+pw b.Order<=a∨a+pw o<=b.At
def jV (h:sw l) (hj:j<l.length) (o6:i<j) : (l[i]'(by omega)).At+pw (l[i]'(by omega)).Order<=l[j].At:=by
 unfold sw at h;rw [aeB] at h;exact h i j (by omega) hj o6
def qa (h:bW z) : sw z.ai:=by
 have key:∀ (d i:Nat) (hj:i+d+1<z.ai.length),(z.ai[i]'(by omega)).At+pw (z.ai[i]'(by omega)).Order<=z.ai[i+d+1].At:=by
  intro d;induction d with
  | zero=>intro i hj;exact (h.next i hj).1
  | succ d ih =>
    intro i hj;have h1:=ih i (by omega);have h2:=(h.next (i+d+1) (by omega)).1;have hb:=(h.eV (i+d+1) (by omega)).1;have:=cM hb.1 hb.2.1
    have e:z.ai[i+(d+1)+1]=z.ai[i+d+1+1]'(by omega):=rfl
    rw [e];omega
 unfold sw;rw [aeB];intro i j hi hj o6;have:=key (j-i-1) i (by omega)
 have e:i+(j-i-1)+1=j:=by omega
 simp only [e] at this;exact this
def My {t:Int} (h:sw l) (hb:∀ b∈l,lq f t b) {x y:Block} (hx:x∈l) (hy:y∈l) : x=y∨x.At+pw x.Order<=y.At∨y.At+pw y.Order<=x.At:=by
 obtain ⟨i,hi,rfl⟩:=aeu hx;obtain ⟨j,hj,rfl⟩:=aeu hy;rcases ae6 i j with h1|h1|h1
 ·exact .inr (.inl (jV h hj h1))
 ·subst h1;exact .inl rfl
 ·exact .inr (.inr (jV h hi h1))
def RC {t:Int} (h:sw l) (hb:∀ b∈l,lq f t b) (hi:i<l.length) (hj:j<l.length) (e:l[i].At=l[j].At) : i=j:=by
 have p1:=hb _ (aet hi);have p2:=hb _ (aet hj);have q1:=cM p1.1.1 p1.1.2.1;have q2:=cM p2.1.1 p2.1.2.1;rcases ae6 i j with h1|h1|h1
 ·have:=jV h hj h1;omega
 ·exact h1
 ·have:=jV h hi h1;omega
def zP (h : 0<=a) (h0 : 0<=o) (h4:o<4) (hm:a % pw o=0) : (min a (beside a o)) % pw (o+1)=0∧(beside a o=a+pw o∨beside a o=a-pw o)∧(beside a o) % pw o=0:=by
 rw [qY h0 (by omega)];unfold beside;have hp:=fQ h0 (show o<=4 by omega);generalize pw o=q at *
 rcases hp with ⟨e,rfl⟩|⟨e,rfl⟩|⟨e,rfl⟩|⟨e,rfl⟩|⟨e,rfl⟩<;>split<;>omega
def kn {b:Block}:BH a o b=true↔b.At=a∧b.Order=o:=by simp [BH]
def EY.step {t:Int} (h:EY f t l a o) (h0 : 0<=f) (ho:o<4) (iU:l.any (BH (beside a o) o)=true) : EY f t (mS l (beside a o) o) (min a (beside a o)) (o+1):=by
 obtain ⟨b,hb,hi⟩:=aeG.1 iU;obtain ⟨e1,e2⟩:=kn.1 hi;obtain ⟨f1,f2,f3,f4,f5⟩:=h.fit;obtain ⟨g1,g2,g3,g4,g5⟩:=(h.eV b hb).1;obtain ⟨k1,k2,k3⟩:=zP (by omega) f1 ho f5;have hp:=qY f1 f2;have VT:=cM f1 f2;refine ⟨h.sw.sublist List.filter_sublist,fun x hx=>h.eV x ((agH.1 hx).1),⟨by omega,by omega,by omega,by omega,k1⟩,fun x hx => ?_⟩;have lj:=(agH.1 hx).1
 have ox:BH (beside a o) o x=false:=by
  have:=(agH.1 hx).2
  simpa using this
 have hd:=h.ON x lj;have WR:=cM (h.eV x lj).1.1 (h.eV x lj).1.2.1;rcases My h.sw h.eV hb lj with e|e|e
 ·subst e;rw [hi] at ox;cases ox
 ·rw [hp];rw [e2] at e;omega
 ·rw [hp];omega
def EZ {t:Int} (h0 : 0<=f) : ∀ (k:Nat) {l:List Block} {a o:Int},EY f t l a o->EY f t (jm k l a o).1 (jm k l a o).2.1 (jm k l a o).2.2∧(jm k l a o).1.length<=l.length
 | 0,l,a,o,h=>⟨h,aew _⟩
 | k+1,l,a,o,h=>by
   simp only [jm];split
   ·rename_i ho;split
    ·rename_i iU;have ih:=EZ h0 k (h.step h0 ho iU);exact ⟨ih.1,aev ih.2 (agc _ _)⟩
    ·exact ⟨h,aew _⟩
   ·exact ⟨h,aew _⟩
def I8 (hi:i<=l.length) (h1:∀ (k:Nat) (h:k<l.length),k<i->l[k].At<a) (h2:∀ h:i<l.length,a<=l[i].At) : bE l a=i:=by
 unfold bE;by_cases h:i<l.length
 ·exact (List.findIdx_eq h).2 ⟨by simpa using h2 h,fun j hj=>by simpa using h1 j (by omega) hj⟩
 ·have e:i=l.length:=by omega
  subst e;rw [List.findIdx_eq_length];intro x hx;obtain ⟨k,hk,rfl⟩:=aeu hx;simpa using h1 k hk hk
def I9 (l:List Block) (a:Int) : bE l a<=l.length:=List.findIdx_le_length
def qb (hk:k<bE l a) : (l[k]'(afp hk (I9 l a))).At<a:=by
 have:=List.not_of_lt_findIdx hk
 simpa using this
def E0 (h:bE l a<l.length) : a<=(l[bE l a]).At:=by
 have:=List.findIdx_getElem (w:=h)
 exact of_decide_eq_true this
def wC (l:List Block) (a o:Int) : Bool:=if h:bE l a<l.length then decide ((l[bE l a]).At=a∧(l[bE l a]).Order=o) else false
def J4 {t:Int} (hu:sw l) (hb:∀ b∈l,lq f t b) (a o:Int) : l.any (BH a o)=wC l a o:=by
 unfold wC;by_cases h:bE l a<l.length
 ·rw [dif_pos h];by_cases hh:(l[bE l a]).At=a∧(l[bE l a]).Order=o
  ·rw [decide_eq_true hh];exact aeG.2 ⟨_,aet h,kn.2 hh⟩
  ·rw [decide_eq_false hh,aeS];intro x hx hi;obtain ⟨e1,e2⟩:=kn.1 hi;obtain ⟨j,hj,rfl⟩:=aeu hx;have h1:=E0 h;rcases ae6 j (bE l a) with e8|e8|e8
   ·have:=qb e8;omega
   ·subst e8;exact hh ⟨e1,e2⟩
   ·have:=jV hu hj e8
    have hp:=hb _ (aet h);have:=cM hp.1.1 hp.1.2.1
    omega
 ·rw [dif_neg h,aeS];intro x hx hi;obtain ⟨e1,e2⟩:=kn.1 hi;obtain ⟨j,hj,rfl⟩:=aeu hx;have:=qb (show j<bE l a by omega)
  omega
def BN {t:Int} (hu:sw l) (hb:∀ b∈l,lq f t b) (hi:i<l.length) (h1:l[i].At=a) (h2:l[i].Order=o) : l.eraseIdx i=mS l a o:=by
 have bG:∀ (j:Nat) (hj:j<l.length),j≠i->BH a o l[j]=false:=fun j hj ji=>by
  cases hh:BH a o l[j] with
  | false=>rfl
  | true =>
    obtain ⟨e1,e2⟩:=kn.1 hh;exact absurd (RC hu hb hj hi (by omega)) ji
 have e:l=l.take i++l[i]::l.drop (i+1):=by simp
 have hL:∀ x∈l.take i,BH a o x=false:=fun x hx=>by
  obtain ⟨j,hj,rfl⟩:=aeu hx;simp at hj;rw [ae3];exact bG j (by omega) (by omega)
 have hR:∀ x∈l.drop (i+1),BH a o x=false:=fun x hx=>by
  obtain ⟨j,hj,rfl⟩:=aeu hx;simp at hj;rw [afl];exact bG _ (by omega) (by omega)
 have hm:BH a o l[i]=true:=kn.2 ⟨h1,h2⟩
 unfold mS;rw [aeR]
 conv=>rhs;rw [e]
 rw [List.filter_append,List.filter_cons];simp only [hm,Bool.not_true,Bool.false_eq_true,if_false];rw [af0.2 (fun x hx=>by simp [hL x hx]),af0.2 (fun x hx=>by simp [hR x hx])]
noncomputable def ga (z:aj) (a o:Int) : Int×aj :=
 if fT z then (if ky z.aT z.To a o then (if kz z.ai a o then (5,⟨0,0,[],[]⟩) else
  (0,⟨z.aT,z.To,aM (jm 5 z.ai a o).1 (bE (jm 5 z.ai a o).1 (jm 5 z.ai a o).2.1) ⟨(jm 5 z.ai a o).2.1,(jm 5 z.ai a o).2.2,z.Types.getD (((jm 5 z.ai a o).2.1-z.aT) / 8).toNat 0⟩,z.Types⟩)) else (1,⟨0,0,[],[]⟩)) else (8,⟨0,0,[],[]⟩)
def zQ {f t:Int} (hz:bW z) (hf:ky z.aT z.To a o) (h:kz z.ai a o=false) : EY z.aT z.To z.ai a o:=by
 refine ⟨qa hz,fun b hb => ?_,hf,fun b hb => ?_⟩
 ·obtain ⟨i,hi,rfl⟩:=aeu hb;exact hz.eV i hi
 ·unfold kz at h;rw [aeS] at h;have:=h b hb
  simp at this;omega
section
variable {P:Program} {n:Nat} {Q:Exit->Act->World->Prop} {L:Env} {w:World}
def O9 (n:Nat) (K:Env->World->Prop) (Q:Exit->Act->World->Prop) : Exit->Act->World->Prop
 | .normal,a,w' => ∃ L',Fit n a L'∧K L' w'
 | e,a,w'=>Q e a w'
def CW.RD {c:Code} (K:Env->World->Prop) (h:CW P n c (O9 n K Q) L w) (k:∀ L' w',K L' w'->ae n Q .normal L' w') : CW P n c Q L w :=
 ⟨fun a ha=>wp_mono (h.out a ha) fun e a' w' h'=>by
  cases e with
  | normal=>obtain ⟨L',hf,hk⟩:=h';exact (k L' w' hk).out a' hf
  | _=>exact h'⟩
def CW.J5 {c:Code} {id:Nat} (K:Env->World->Prop) (h:CW P n c (Exit.inBlock id (O9 n K Q)) L w) (k:∀ L' w',K L' w'->ae n Q .normal L' w') : CW P n c (Exit.inBlock id Q) L w :=
 ⟨fun a ha=>wp_mono (h.out a ha) fun e a' w' h'=>by
  cases e with
  | normal=>obtain ⟨L',hf,hk⟩:=h';exact (k L' w' hk).out a' hf
  | exit j =>
    simp only [Exit.inBlock] at h' ⊢;split
    ·rename_i hj;rw [if_pos hj] at h';obtain ⟨L',hf,hk⟩:=h';exact (k L' w' hk).out a' hf
    ·rename_i hj;rw [if_neg hj] at h';exact h'
  | _=>exact h'⟩
def ae.mD {K:Env->World->Prop} (h:K L w) : ae n (O9 n K Q) .normal L w:=⟨fun _ ha=>⟨L,ha,h⟩⟩
def ae.Mz {K:Env->World->Prop} {id:Nat} (h:ae n Q (.exit id) L w) : ae n (O9 n K Q) (.exit id) L w:=⟨fun a ha=>h.out a ha⟩
end
variable {af:Array Edge} {ops:Array Oper} {ts:Array TypeId} {Q:Exit->Act->World->Prop} {fn:Func} {lk:IntKind} {args ka:List Value} {bytes c2 d dd m sz:Nat} {A X:Option Addr} {row T3:Option Nat} {P:Program} {T e tn:TypeId} {w1 w2:World} {enc:α -> List Value}
def lay (ka:List Value) (o:Nat) (cs:List Value) : List Value:=ka.take o++cs++ka.drop (o+cs.length)
def Ja (ka:List Value) (o:Nat) : lay ka o []=ka:=by simp [lay]
def eH (X Y Z cs:List Value) (h:cs.length=Y.length) {o:Nat} (ho:o=X.length) : lay (X++Y++Z) o cs=X++cs++Z:=by
 subst ho;unfold lay;rw [aey X Y Z,List.take_left,h];congr 1
 rw [<- aey,List.drop_append];have e:List.drop (X.length+Y.length) (X++Y)=[]:=afH (by simp)
 rw [e];simp
def Own.opened [E:iK enc sz] {n c:Nat} {l:List α} (h:Own w lo e sz enc A n c l) (hc : 0<c) :
 ∃ g rest,A=some ⟨g,0,none⟩∧lo<=g∧aR w g e (l.flatMap enc++rest)∧n*sz+rest.length=c*sz∧n<=c∧c<=maxLen∧aG A c=some g:=by
 rcases h.row with ⟨_,h0⟩|⟨_,g,ka,rfl,h1,h2,h3,h4,h5,h6⟩
 ·omega
 ·refine ⟨g,ka.toList.drop (n*sz),rfl,h1,?_,?_,h3,h4,by simp [aG,Nat.pos_iff_ne_zero.1 hc]⟩
  ·unfold aR;rw [<- h6,aex];simpa using h2
  ·have:n*sz<=c*sz:=aeW _ h3
   simp;omega
def Own.closed [E:iK enc sz] {n c g:Nat} {l:List α} {rest:List Value} (hl:l.length=n) (hB:aR w g e (l.flatMap enc++rest)) (hr:n*sz+rest.length=c*sz) (hn:n<=c) (hc : 0<c) (hm:c<=maxLen) (dt:lo<=g) :
 Own w lo e sz enc (some ⟨g,0,none⟩) n c l:=by
 have nK:(l.flatMap enc).length=n*sz:=by rw [aQ,hl]
 refine ⟨hl,.inr ⟨hc,g,_,rfl,dt,hB,hn,hm,?_,?_⟩⟩
 ·simp [nK];omega
 ·rw [<- nK];simp
def Own.pre [E:iK enc sz] {n c:Nat} {l:List α} (h:Own w lo e sz enc A n c l) (hi:i<=n) : Own w lo e sz enc A i c (l.take i):=by
 rcases aeL c with hc|hc
 ·have h1:=h.le.1;have:n=0:=by omega
  subst hc this;obtain rfl:i=0:=by omega
  simpa using Own.fC w lo e sz enc A
 ·obtain ⟨g,rest,rfl,h1,h2,h3,h4,h5,_⟩:=h.opened hc;refine Own.closed (rest:=(l.drop i).flatMap enc++rest) (by simp [h.len];omega) ?_ ?_ (by omega) hc h5 h1
  ·rw [<- aey,<- aeM,aex];exact h2
  ·have e1:((l.drop i).flatMap enc).length=(n-i)*sz:=by rw [aQ];simp [h.len]
   have e2:i+(n-i)=n:=by omega
   rw [aeD,e1,<- h3,<- ags,<- afi,e2]
def Sl.drop {n:Nat} {l:List α} (h:Sl w sz enc A n l) (i c:Nat) (hi:i<=n) (hc:n<=c) : Sl w sz enc (if c=i then A else A.map (·.add (i*sz))) (n-i) (l.drop i):=by
 refine ⟨by simp [h.len],fun hn => ?_,fun j hj k u hu => ?_⟩
 ·have:=h.base (by omega)
  split
  ·exact this
  ·simpa using this
 ·simp at hj;have hl:=h.len;rw [if_neg (by omega)];have hb:=h.base (by omega);obtain ⟨a,rfl⟩:=aeZ.1 hb;have xF:=h.cell (i+j) (by omega) k u (by simpa using hu);simp only [Option.getD_some,Option.map_some,add_add] at xF ⊢;rw [<- xF];congr 2
  rw [afi]
def Sl.pre {n:Nat} {l:List α} (h:Sl w sz enc A n l) (hi:i<=n) : Sl w sz enc A i (l.take i):=by
 refine ⟨by simp [h.len];omega,fun hn=>h.base (by omega),fun j hj k u hu => ?_⟩;simp at hj;exact h.cell j (by omega) k u (by simpa using hu)
section
variable {P:Program} {w:World}
def iC {g:Nat} (h:aR w g e ka) : aR (w.setRow g cs.toArray) g e cs∧w.grownBy (w.setRow g cs.toArray) (some g) :=
 ⟨setRow_heap w g _ _ e (0,0) h,⟨rfl,rfl,rfl,by simp,fun j _ hj=>by
  show (w.setRow g _).heap[j]?=_
  simp only [World.setRow,Array.getElem?_modify];rw [if_neg (fun e=>hj (by simp [e]))]⟩⟩
def DK {z:Value} [S:bu P t e sz] [T:dn P e z sz bytes] (ty:TypeId) {n c g o:Nat} (hk:min m n=k) (hlen:cs.length=k*sz) (hB:aR w g e ka) (pL:o+cs.length<=ka.length)
 (kb : 0<k->A=some ⟨g,o,none⟩ ∧ ∃ ad,X=some ad ∧ ∀ j v,cs[j]?=some v->w.cell? (ad.add j)=some v) (h1:∀ v∈cs,v.oneCell'=true) :
 ∃ w',(Builtin.copy_ #[t,t] ty #[.slice A n c,.slice X m c2]).run P w = .ok (.int .i64 (k:Int)) w'∧aR w' g e (lay ka o cs)∧w.grownBy w' (some g):=by
 obtain ⟨i,hi,hz,hs,yL⟩:=eM P e (z:=z) (sz:=sz) (bytes:=bytes);have Pa:Nat.min m n=k:=hk
 by_cases h0:k=0
 ·have kK:cs=[]:=aeN (by rw [hlen,h0];simp)
  subst kK;refine ⟨w,?_,by rw [Ja];exact hB,World.grownBy.refl _ _⟩;cases A<;>cases X<;>simp [Builtin.copy_,run_underlying S.ot,Builtin.lenOf,Builtin.firstCells,sizeOf,typeInfo,hi,Pa,h0,loadCells,loadCellsFrom,storeCells,goInt]
 ·obtain ⟨rfl,ad,rfl,mn⟩:=kb (by omega);have hl:=run_loadCells_list (P:=P) w ad cs mn;have BF:=run_storeCells_at P g o e cs 0 ka.toArray w hB (by simpa using pL) h1;have e1:(ka.toArray.toList.take (o+0)++cs++ka.toArray.toList.drop (o+0+cs.length))=lay ka o cs:=by simp [lay]
  rw [e1] at BF;rw [hlen] at hl;refine ⟨_,?_,(iC hB).1,(iC hB).2⟩;simp [Builtin.copy_,run_underlying S.ot,Builtin.lenOf,Builtin.firstCells,sizeOf,typeInfo,hi,hs,Pa,hl,BF,goInt]
def BO {z:Value} [S:bu P t e sz] [T:dn P e z sz bytes] (ty:TypeId) {n c g o:Nat} (hB:aR w g e ka) (pL:o+n*sz<=ka.length) (kb : 0<n->A=some ⟨g,o,none⟩) (Pb:∀ v∈z.cells.toList,v.oneCell'=true) :
 ∃ w' cs,(Builtin.clear_ #[t] ty #[.slice A n c]).run P w = .ok (.tuple #[]) w'∧cs.length=n*sz∧aR w' g e (lay ka o cs)∧w.grownBy w' (some g):=by
 obtain ⟨i,hi,hz,hs,yL⟩:=eM P e (z:=z) (sz:=sz) (bytes:=bytes);by_cases h0:n=0
 ·subst h0;refine ⟨w,[],?_,by simp,by rw [Ja];exact hB,World.grownBy.refl _ _⟩;cases A<;>simp [Builtin.clear_,run_underlying S.ot]
 ·obtain rfl:=kb (by omega);obtain ⟨k,rfl⟩ : ∃ k,n=k+1:=⟨n-1,by omega⟩;have hlen:(Builtin.zeroCells z.cells (k+1)).toList.length=(k+1)*sz:=by simp [Go.size_zeroCells,T.zc]
  have h1:∀ v∈(Builtin.zeroCells z.cells (k+1)).toList,v.oneCell'=true:=by
   intro v hv;simp only [Builtin.zeroCells,Array.toList_map,Array.toList_range,List.mem_map] at hv;obtain ⟨j,hj,rfl⟩:=hv;have hp:=T.pos;have:j % z.cells.size<z.cells.size:=Nat.mod_lt _ (by rw [T.zc];exact hp)
   rw [getElem!_pos z.cells _ this];exact Pb _ (Array.getElem_mem_toList _)
  have BF:=run_storeCells_at P g o e (Builtin.zeroCells z.cells (k+1)).toList 0 ka.toArray w hB (by rw [hlen];simpa using pL) h1;have e1:(ka.toArray.toList.take (o+0)++(Builtin.zeroCells z.cells (k+1)).toList++ka.toArray.toList.drop (o+0+(Builtin.zeroCells z.cells (k+1)).toList.length))=lay ka o (Builtin.zeroCells z.cells (k+1)).toList:=by simp [lay]
  rw [e1] at BF;refine ⟨_,_,?_,hlen,(iC hB).1,(iC hB).2⟩;simp [Builtin.clear_,run_underlying S.ot,zeroValue,typeInfo,hi,hz,BF]
end
section
variable {P:Program} {n:Nat} {ops:Array Oper} {Q:Exit->Act->World->Prop} {rest:List Oper} {L:Env} {w:World} {d:Option Nat} {T:TypeId} {pos:String} {af:Array Edge} {g:Option (Nat×Bool)}
def SW.copy {d:Nat} {t e:TypeId} {z:Value} {sz bytes:Nat} [S:bu P t e sz] [E:dn P e z sz bytes] {x y:Operand} {A X:Option Addr} {m c m2 c2 k g:Nat} (o:Nat) {ka:List Value} (cs:List Value) (hB:aR w g e ka) (hx:cy L x=some (.slice A m c)) (hy:cy L y=some (.slice X m2 c2)) (hn:Nat.blt d n=true)
 (hk:min m2 m=k) (hlen:cs.length=k*sz) (pL:o+cs.length<=ka.length) (kb : 0<k->A=some ⟨g,o,none⟩ ∧ ∃ ad,X=some ad ∧ ∀ j v,cs[j]?=some v->w.cell? (ad.add j)=some v) (h1:∀ v∈cs,v.oneCell'=true)
 (h:∀ w',aR w' g e (lay ka o cs)->w.grownBy w' (some g)->SW P n ops (.gd Q) rest ((d,.int .i64 (k:Int))::L) w') :
 SW P n ops (.gd Q) (⟨some d,.call ⟨.builtin .copy,#[x,y],#[t,t]⟩,T,pos,af,none⟩::rest) L w :=
 ⟨fun a ha=>by
  obtain ⟨w',hr,h2,h3⟩:=DK (P:=P) (t:=t) T (c:=c) (c2:=c2) hk hlen hB pL kb h1;simp only [swp,wpList,Region.wanted,if_true];refine .inl ?_;unfold Oper.wp
  have:(execOp a.eval ⟨some d,.call ⟨.builtin .copy,#[x,y],#[t,t]⟩,T,pos,af,none⟩).run P w = .ok (.value (.int .i64 (k:Int))) w':=by
   simp [execOp,resolve,invoke,builtin,ha.eval hx,ha.eval hy,hr]
  rw [this,Oper.upon_value];exact (h w' h2 h3).out _ (ha.put hn _)⟩
def SW.T1 {d:Nat} {t e:TypeId} {z:Value} {sz bytes:Nat} [S:bu P t e sz] [E:dn P e z sz bytes] {x y:Operand} {A X:Option Addr} {m c m2 c2:Nat} (hx:cy L x=some (.slice A m c)) (hy:cy L y=some (.slice X m2 c2)) (hn:Nat.blt d n=true) (hk:min m2 m=0)
 (h:SW P n ops (.gd Q) rest ((d,.int .i64 0)::L) w) : SW P n ops (.gd Q) (⟨some d,.call ⟨.builtin .copy,#[x,y],#[t,t]⟩,T,pos,af,none⟩::rest) L w :=
 ⟨fun a ha=>by
  obtain ⟨i,hi,hz,hs,yL⟩:=eM P e (z:=z) (sz:=sz) (bytes:=bytes);have Pa:Nat.min m2 m=0:=hk
  simp only [swp,wpList,Region.wanted,if_true];refine .inl ?_;unfold Oper.wp
  have hr:(Builtin.copy_ #[t,t] T #[.slice A m c,.slice X m2 c2]).run P w = .ok (.int .i64 0) w:=by
   cases A<;>cases X<;>simp [Builtin.copy_,run_underlying S.ot,Builtin.lenOf,Builtin.firstCells,sizeOf,typeInfo,hi,Pa,loadCells,loadCellsFrom,storeCells,goInt]
  have:(execOp a.eval ⟨some d,.call ⟨.builtin .copy,#[x,y],#[t,t]⟩,T,pos,af,none⟩).run P w = .ok (.value (.int .i64 0)) w:=by
   simp [execOp,resolve,invoke,builtin,ha.eval hx,ha.eval hy,hr]
  rw [this,Oper.upon_value];exact h.out _ (ha.put hn _)⟩
def SW.clear {z:Value} [S:bu P t e sz] [E:dn P e z sz bytes] {x:Operand} {c g:Nat} (o:Nat) (hB:aR w g e ka) (hx:cy L x=some (.slice A m c)) (pL:o+m*sz<=ka.length) (kb : 0<m->A=some ⟨g,o,none⟩) (Pb:∀ v∈z.cells.toList,v.oneCell'=true)
 (h:∀ w' cs,cs.length=m*sz->aR w' g e (lay ka o cs)->w.grownBy w' (some g)->SW P n ops (.gd Q) rest L w') :
 SW P n ops (.gd Q) (⟨none,.call ⟨.builtin .clear,#[x],#[t]⟩,T,pos,af,none⟩::rest) L w :=
 ⟨fun a ha=>by
  obtain ⟨w',cs,hr,h1,h2,h3⟩:=BO (P:=P) (t:=t) T (c:=c) hB pL kb Pb;simp only [swp,wpList,Region.wanted,if_true];refine .inl ?_;unfold Oper.wp
  have:(execOp a.eval ⟨none,.call ⟨.builtin .clear,#[x],#[t]⟩,T,pos,af,none⟩).run P w = .ok (.value (.tuple #[])) w':=by
   simp [execOp,resolve,invoke,builtin,ha.eval hx,hr]
  rw [this,Oper.upon_value];exact (h w' cs h1 h2 h3).out _ (ha.Ml _)⟩
def iN [c:bu P t e sz] {x u:Operand} {cap:Nat} (hx:cy L x=some (.slice A m cap)) (hy:cy L y=some (.int .i64 (i:Int))) (hu:cy L u=some (.int .i64 (j:Int))) (hi:i<=j) (hj:j<=cap) :
 St P ⟨d,.slice t x (some y) (some u) none,T,pos,af,g⟩ L w (.slice (if cap=i then A else A.map (·.add (i*sz))) (j-i) (cap-i)) :=
 ⟨fun _ a ha w' _=>by
  have e1:=ha.eval hx;have e2:=ha.eval hy;have e3:=ha.eval hu;generalize a.eval = ρ at *
  simp [execOp,e1,e2,e3,Instr.sliceAt,Instr.slice,Instr.sliceBounds,Instr.sliceBound,asIntOf,run_underlying c.ot,run_sizeOf c.size,hi,hj]⟩
def oc [c:bu P t e sz] {x u v:Operand} {cap:Nat} (hx:cy L x=some (.slice A m cap)) (hy:cy L y=some (.int .i64 (i:Int))) (hu:cy L u=some (.int .i64 (j:Int))) (hv:cy L v=some (.int .i64 (k:Int))) (hi:i<=j) (hj:j<=k) (hk:k<=cap) :
 St P ⟨d,.slice t x (some y) (some u) (some v),T,pos,af,g⟩ L w (.slice (if k=i then A else A.map (·.add (i*sz))) (j-i) (k-i)) :=
 ⟨fun _ a ha w' _=>by
  have e1:=ha.eval hx;have e2:=ha.eval hy;have e3:=ha.eval hu;have e4:=ha.eval hv;generalize a.eval = ρ at *
  simp [execOp,e1,e2,e3,e4,Instr.sliceAt,Instr.slice,Instr.sliceBounds,Instr.sliceBound,asIntOf,run_underlying c.ot,run_sizeOf c.size,hi,hj,hk]⟩
end
section
variable {P:Program} {n:Nat} {ops:Array Oper} {Q:Exit->Act->World->Prop} {rest:List Oper} {L:Env} {w:World}
structure iO (P:Program) (f:FuncId) (args:List Value) (w:World) (R:Value->World->Prop) : Prop where
 out:Calls P f args.toArray w fun e w' => ∃ v,e = .returned v∧R v w'
def SW.dK {f:FuncId} {xs:List Operand} {vs:List Value} {pos:String} {R:Value->World->Prop}
 [Body P f] (hx:uy L xs=some vs) (hn:Nat.blt d n=true) (hc:iO P f vs w R) (h:∀ v w',R v w'->SW P n ops (.gd Q) rest ((d,v)::L) w') :
 SW P n ops (.gd Q) (⟨some d,.call ⟨.value (.func f),xs.toArray,ts⟩,T,pos,af,none⟩::rest) L w :=
 ⟨fun a ha=>by
  simp only [swp,wpList,Region.wanted,if_true];refine .inl ?_;unfold Oper.wp;rw [zt,Oper.upon_enter,ha.vh hx];refine Calls.mono hc.out ?_;rintro e w' ⟨v,rfl,hv⟩
  exact (h v w' hv).out _ (ha.put hn v)⟩
def dc {f:FuncId} {c:Code} {R:Value->World->Prop} (hf:P.funcs[f]?=some fn) (hb:fn.body=some c) (hn:fn.ntmps=n) (hl:Nat.ble args.length n=true)
 (h:CW P n c (bodyPost P fn fun e w' => ∃ v,e = .returned v∧R v w') (qS 0 args) w) : iO P f args w R:=by
 have BE:args.length<=n:=by simpa using hl
 refine ⟨calls_of_wp hf hb (h.out _ ⟨?_,rfl,?_⟩)⟩
 ·simp [hn];omega
 ·intro i v hi;obtain ⟨_,h2⟩:=so args 0 i v hi;simp only [Nat.sub_zero] at h2
  have e8:i<args.length:=by
   rcases ae5 i args.length with h|h
   ·exact h
   ·rw [aff h] at h2;cases h2
  rw [afI,agq (by simpa using e8)];simp [h2]
def SW.entry {f:FuncId} {e:Array Value->Sem Value} {xs:List Operand} {vs:List Value} {v:Value} {pos:String}
 (hf : P.funcs[f]? = some fn) (T2 : (fn.name == "runtime.NumGoroutine") = false) (hb : fn.body.isNone = true) (G9 : Extern.findNext fn = none) (he : Extern.find fn = some e) (hx : uy L xs = some vs) (hn : Nat.blt d n = true)
 (hr:(e vs.toArray).run P w = .ok v w) (h:SW P n ops (.gd Q) rest ((d,v)::L) w) :
 SW P n ops (.gd Q) (⟨some d,.call ⟨.value (.func f),xs.toArray,ts⟩,T,pos,af,none⟩::rest) L w :=
 ⟨fun a ha=>by
  simp only [swp,wpList,Region.wanted,if_true];refine .inl ?_;unfold Oper.wp;have h1:=run_callFunc_extern (P:=P) hf T2 hb G9 he vs.toArray w
  have:(execOp a.eval ⟨some d,.call ⟨.value (.func f),xs.toArray,ts⟩,T,pos,af,none⟩).run P w = .ok (.value v) w:=by
   have e2:=ha.vh hx;simp only [execOp,resolve,Deferred.ofValue,Act.eval,Sem.run_bind,Result.andThen,invoke,List.map_toArray,e2];rw [hr] at h1;simpa [Result.andThen] using h1
  rw [this,Oper.upon_value];exact h.out _ (ha.put hn v)⟩
end
def Ext.gr (h:Ext w w') (row:Option Nat) : w.grownBy w' row:=⟨h.os,h.tape,h.output,h.size,fun k hk _=>h.block k hk⟩
def bC (h:w.grownBy w1 row) (k:w1.grownBy w2 T3) (hr:T3=row ∨ ∀ i,T3=some i->w.heap.size<=i) : w.grownBy w2 row :=
 ⟨k.os.trans h.os,k.tape.trans h.tape,k.output.trans h.output,aev h.size k.size,fun i hi bG=>by
  have mo:i<w1.heap.size:=afp hi h.size
  rcases hr with e|e
  ·subst e;rw [k.block i mo bG,h.block i hi bG]
  ·rw [k.block i mo (fun e'=>by have:=e i e'.symm;omega),h.block i hi bG]⟩
def SW.qd {n:Nat} {rest:List Oper} {L:Env} {pos:String} {z:Value} {c:Nat} {l ys:List α} [S:bu P t e sz] [T':dn P e z sz bytes] [E:iK enc sz] {x:Operand}
 (hO:Own w lo e sz enc A k c l) (hS:Sl w sz enc X m ys) (kM:k+m<=c) (hx:cy L x=some (.slice A k c)) (hy:cy L y=some (.slice X m c2)) (hn:Nat.blt dd n=true)
 (h:∀ w',Own w' lo e sz enc A (k+m) c (l++ys)->w.grownBy w' (aG A c)->SW P n ops (.gd Q) rest ((dd,.slice A (k+m) c)::L) w') :
 SW P n ops (.gd Q) (⟨some dd,.call ⟨.builtin .append,#[x,y],#[t,t]⟩,T,pos,af,none⟩::rest) L w :=
 ⟨fun a ha=>by
  obtain ⟨i,hi,hz,hs,yL⟩:=eM P e (z:=z) (sz:=sz) (bytes:=bytes);have L7:(ys.flatMap enc).length=m*sz:=by rw [aQ,hS.len]
  have pH:∀ u∈ys.flatMap enc,u.oneCell'=true:=fun u hu=>by
   obtain ⟨x,_,hx⟩:=aeK.1 hu;exact E.one x u hx
  have key:∃ w',(Builtin.append_ #[t,t] T #[.slice A k c,.slice X m c2]).run P w = .ok (.slice A (k+m) c) w'∧Own w' lo e sz enc A (k+m) c (l++ys)∧w.grownBy w' (aG A c):=by
   by_cases ER:m=0
   ·subst ER;have hy0:ys=[]:=aeN hS.len
    subst hy0;refine ⟨w,?_,by simpa using hO,World.grownBy.refl _ _⟩;have OO:k<=c:=by omega
    cases A<;>cases X<;>simp [Builtin.append_,run_underlying S.ot,sizeOf,typeInfo,hi,Builtin.lenOf,OO,Builtin.firstCells,loadCells,loadCellsFrom,storeCells]
   ·obtain ⟨ad,rfl⟩:=aeZ.1 (hS.base (by omega));have vi:=du T'.pos hS;obtain ⟨g,rest,rfl,h1,h2,h3,h4,h5,h6⟩:=hO.opened (by omega);have pL:(k+m)*sz<=c*sz:=aeW _ kM
    have nK:(l.flatMap enc).length=k*sz:=by rw [aQ,hO.len]
    rw [afi] at pL;have hr:=run_append_room (P:=P) w t T e i S.ot hi g k c (l.flatMap enc++rest).toArray h2 ad m c2 (ys.flatMap enc) (by rw [hs];exact L7) vi pH kM (by rw [hs,L7];simp [nK];omega)
    have e1:(l.flatMap enc++rest).toArray.toList.take (k*i.size)++ys.flatMap enc++(l.flatMap enc++rest).toArray.toList.drop (k*i.size+(ys.flatMap enc).length)=(l++ys).flatMap enc++rest.drop (m*sz):=by
     rw [hs];have h7:=eH (l.flatMap enc) (rest.take (m*sz)) (rest.drop (m*sz)) (ys.flatMap enc) (by rw [L7];simp;omega) (o:=k*sz) nK.symm;rw [aey (l.flatMap enc),aex] at h7;rw [aeM];exact h7
    rw [e1] at hr;refine ⟨_,hr,?_,?_⟩
    ·exact Own.closed (by rw [aeD,hO.len,hS.len]) (iC h2).1 (by rw [afi];simp;omega) kM (by omega) h5 h1
    ·rw [h6];exact (iC h2).2
  obtain ⟨w',hr,h1,h2⟩:=key;simp only [swp,wpList,Region.wanted,if_true];refine .inl ?_;unfold Oper.wp
  have:(execOp a.eval ⟨some dd,.call ⟨.builtin .append,#[x,y],#[t,t]⟩,T,pos,af,none⟩).run P w = .ok (.value (.slice A (k+m) c)) w':=by
   simp [execOp,resolve,invoke,builtin,ha.eval hx,ha.eval hy,hr]
  rw [this,Oper.upon_value];exact (h w' h1 h2).out _ (ha.put hn _)⟩
def SW.yO {n:Nat} {rest:List Oper} {L:Env} {pos:String} {z:Value} {c:Nat} {l:List α} [S:bu P t e sz] [T':dn P e z sz bytes] [E:iK enc sz] {x:Operand}
 {j:Int} (hS:Sl w sz enc A m l) (htn:P.underlying tn=some (.int lk)) (hx:cy L x=some (.slice A m c)) (hy:cy L y=some (.int .i64 j)) (hj:j=(k:Int)) (hn:Nat.blt d n=true) (hk : 0<k) (kM:c<m+k) (hb:(m+k)*bytes<=140737488355328) (hm:m+k<=9223372036854775807)
 (h:∀ g Qw c' w',Ext w w'->w.heap.size<=g->aR w' g e (l.flatMap enc++Qw)->m*sz+Qw.length=c'*sz->m+k<=c'->c'<=maxLen->SW P n ops (.gd Q) rest ((d,.slice (some ⟨g,0,none⟩) (m+k) c')::L) w') :
 SW P n ops (.gd Q) (⟨some d,.call ⟨.builtin .append,#[x,y],#[t,tn]⟩,T,pos,af,none⟩::rest) L w :=
 ⟨fun a ha=>by
  subst hj;obtain ⟨i,hi,hz,hs,yL⟩:=eM P e (z:=z) (sz:=sz) (bytes:=bytes);have hp:=T'.pos;have RE:=du hp hS;have hlen:(l.flatMap enc).length=m*sz:=by rw [aQ,hS.len]
  have hold:(Builtin.firstCells i.size m (.slice A m c)).run P w.drew = .ok (l.flatMap enc).toArray w.drew:=by
   rw [hs];cases A with
   | none =>
     have h0:m=0:=by
      rcases aeL m with h0|h0
      ·exact h0
      ·have:=hS.base h0;simp at this
     subst h0;have:l=[]:=aeN hS.len
     subst this;simp [Builtin.firstCells]
   | some ad =>
     simp only [Builtin.firstCells];rw [<- hlen];exact run_loadCells_list (P:=P) w.drew ad _ (fun j v hv=>RE j v hv)
  have Pc:=Room.nextslicecap_le' kM
  have pL:Builtin.nextslicecap (m+k) c*i.bytes<=281474976710656:=by
   rw [yL]
   calc Builtin.nextslicecap (m+k) c*bytes<=2*(m+k)*bytes:=aeW _ Pc
    _<=281474976710656:=by rw [Nat.mul_assoc];omega
  have h48:k*i.bytes<=281474976710656:=by
   rw [yL];have:k*bytes<=(m+k)*bytes:=aeW _ (by omega)
   omega
  have hr:=Lib.run_append_grow_zeros (P:=P) w t tn T e i z .i64 lk S.ot htn hi hz A m c _ hold k hk (by rw [hs];exact hp) kM (by omega) h48 pL;simp only [swp,wpList,Region.wanted,if_true];refine .inl ?_;unfold Oper.wp
  have:(execOp a.eval ⟨some d,.call ⟨.builtin .append,#[x,y],#[t,tn]⟩,T,pos,af,none⟩).run P w = .ok (.value (.slice (some ⟨w.heap.size,0,none⟩) (m+k) (grownCap w (m+k) c e))) (w.drew.alloc (.cells ((l.flatMap enc).toArray++Builtin.zeroCells z.cells k++Builtin.zeroCells z.cells (grownCap w (m+k) c e-(m+k))) e)):=by
   simp [execOp,resolve,invoke,builtin,ha.eval hx,ha.eval hy,hr]
  rw [this,Oper.upon_value];have hg:=grownCap_ge w (m+k) c e;refine (h w.heap.size ((Builtin.zeroCells z.cells k).toList++(Builtin.zeroCells z.cells (grownCap w (m+k) c e-(m+k))).toList) _ _ (Ext.trans (Ext.drew w) (Ext.alloc _ _)) (aew _) ?_ ?_ hg (grownCap_le_maxLen w _ _ _ (by simp only [maxLen];omega))).out _ (ha.put hn _)
  ·have:=aR.new w.drew e (l.flatMap enc++((Builtin.zeroCells z.cells k).toList++(Builtin.zeroCells z.cells (grownCap w (m+k) c e-(m+k))).toList))
   have e1:(l.flatMap enc++((Builtin.zeroCells z.cells k).toList++(Builtin.zeroCells z.cells (grownCap w (m+k) c e-(m+k))).toList)).toArray=(l.flatMap enc).toArray++Builtin.zeroCells z.cells k++Builtin.zeroCells z.cells (grownCap w (m+k) c e-(m+k)):=by
    apply Array.ext';simp
   rw [e1] at this;exact this
  ·simp only [List.length_append,Array.length_toList,Go.size_zeroCells,T'.zc];rw [<- afi,<- afi];congr 1;omega⟩
variable {β:Type} {ys:List β} {t':TypeId}
def se (w w':World) (t:TypeId) : Prop := ∃ row,w.grownBy w' row ∧ ∀ k,row=some k -> ∃ cs,w.heap[k]?=some (.cells cs t (0,0))
def Own.gr {n c:Nat} {l:List α} (h:Own w lo e sz enc A n c l) (hg:w.grownBy w' (aG A c)) : se w w' e:=by
 refine ⟨_,hg,fun k hk => ?_⟩;rcases h.row with ⟨_,rfl⟩|⟨hc,g,ka,rfl,_,h2,_⟩
 ·simp [aG] at hk
 ·simp [aG,Nat.pos_iff_ne_zero.1 hc] at hk;subst hk;exact ⟨ka,h2⟩
def aR.gr (h:aR w b t cs) (hg:w.grownBy w' (some b)) : se w w' t:=⟨_,hg,fun k hk=>by cases hk;exact ⟨_,h⟩⟩
def Own.aJ {t:Nat} {n c:Nat} {l:List α} (h:Own w lo e sz enc A n c l) (hG:se w w' t) (bG:Nat.beq t e=false) : Own w' lo e sz enc A n c l:=by
 obtain ⟨row,hg,hr⟩:=hG;refine h.grown hg ?_;rcases h.row with ⟨_,rfl⟩|⟨hc,g,ka,rfl,_,h2,_⟩
 ·simp [aG]
 ·right;rintro rfl;obtain ⟨cs,h3⟩:=hr g (by simp [aG,Nat.pos_iff_ne_zero.1 hc]);rw [h2] at h3;injection h3 with h3
  injection h3 with _ h _
  subst h;simp at bG
def aR.aJ {t:Nat} (h:aR w b t' cs) (hG:se w w' t) (bG:Nat.beq t t'=false) : aR w' b t' cs:=by
 obtain ⟨row,hg,hr⟩:=hG;refine h.grown hg ?_;rintro rfl;obtain ⟨cs,h3⟩:=hr b rfl;unfold aR at h;rw [h] at h3;injection h3 with h3
 injection h3 with _ h _
 subst h;simp at bG
def Own.lt_size {n c:Nat} {l:List α} (h:Own w lo e sz enc A n c l) : ∀ k,aG A c=some k->k<w.heap.size:=by
 intro k hk;rcases h.row with ⟨_,rfl⟩|⟨hc,g,ka,rfl,_,h2,_⟩
 ·simp [aG] at hk
 ·simp [aG,Nat.pos_iff_ne_zero.1 hc] at hk;subst hk;exact (aeJ.1 h2).1
structure fK {α β:Type} (R : α -> β -> Prop) (xs:List α) (ys:List β) : Prop where
 len:xs.length=ys.length
 get:∀ (i:Nat) (h1:i<xs.length) (h2:i<ys.length),R xs[i] ys[i]
def fK.mono {R R' : α -> β -> Prop} {xs:List α} (h:fK R xs ys) (hm:∀ a b,R a b->R' a b) : fK R' xs ys:=⟨h.len,fun i h1 h2=>hm _ _ (h.get i h1 h2)⟩
def fK.nil {R : α -> β -> Prop}:fK R ([] : List α) ([] : List β):=⟨rfl,fun i h1 h2=>by simp at h1⟩
def fK.snoc {R : α -> β -> Prop} {xs:List α} (h:fK R xs ys) {x : α} {y : β} (hr:R x y) : fK R (xs++[x]) (ys++[y]):=by
 refine ⟨by simp [h.len],fun i h1 h2 => ?_⟩;have hl:=h.len;by_cases hi:i<xs.length
 ·rw [afC hi,afC (by omega)];exact h.get i hi (by omega)
 ·have e:i=xs.length:=by simp at h1;omega
  subst e;simp [hl];exact hr
structure dw where
 gl:Int
 aj:Int
 Ty:Int
 av:fY
def cm (r:dw) : List Value:=[.int .i64 r.gl,.int .i64 r.aj,.int .i64 r.Ty,r.av.v]
instance:iK cm 4:=⟨fun _=>rfl,fun r u hu=>by simp [cm,fY.v] at hu;rcases hu with rfl|rfl|rfl|rfl<;>rfl⟩
structure jH where
 bl:fY
 dP:fY
 bJ:Int
 au:fY
 Live:fY
def dD (r:jH) : List Value:=[r.bl.v,r.dP.v,.int .i64 r.bJ,r.au.v,r.Live.v]
instance:iK dD 5:=⟨fun _=>rfl,fun r u hu=>by simp [dD,fY.v] at hu;rcases hu with rfl|rfl|rfl|rfl|rfl<;>rfl⟩
def jH.zero:jH:=⟨.nil,.nil,0,.nil,.nil⟩
def Heap.zero:Heap:=⟨[],[],0,[],[]⟩
structure RF (w:World) (r:dw) (l:aS) : Prop where
 cpu:r.gl=l.gl
 kE:r.aj=l.aj
 ty:r.Ty=l.Ty
 bD:Sl w 1 bt r.av.A r.av.n l.av
structure rV (w:World) (lo:Nat) (r:dw) (l:aS) : Prop where
 cpu:r.gl=l.gl
 kE:r.aj=l.aj
 ty:r.Ty=l.Ty
 bD:Own w lo 3 1 bt r.av.A r.av.n r.av.c l.av
def RF.ext {r:dw} {l:aS} (h:RF w r l) (hx:Ext w w') : RF w' r l:=⟨h.cpu,h.kE,h.ty,h.bD.ext hx⟩
def rV.ext {r:dw} {l:aS} (h:rV w lo r l) (hx:Ext w w') : rV w' lo r l:=⟨h.cpu,h.kE,h.ty,h.bD.ext hx⟩
def rV.low {r:dw} {l:aS} (h:rV w lo r l) (hl:oV<=lo) : rV w oV r l:=⟨h.cpu,h.kE,h.ty,h.bD.low hl⟩
def rV.rd {r:dw} {l:aS} (h:rV w lo r l) : RF w r l:=⟨h.cpu,h.kE,h.ty,h.bD.sl⟩
def rV.aJ {t:Nat} {r:dw} {l:aS} (h:rV w lo r l) (hG:se w w' t) (bG:Nat.beq t 3=false) : rV w' lo r l:=⟨h.cpu,h.kE,h.ty,h.bD.aJ hG bG⟩
def iS.aJ {t:Nat} {r:eG} (h:iS w lo r z) (hG:se w w' t) (bG:(Nat.beq t 3 || Nat.beq t 143)=false) : iS w' lo r z:=by
 simp only [Bool.or_eq_false_iff] at bG;exact ⟨h.from_,h.pJ,h.free.aJ hG bG.2,h.types.aJ hG bG.1⟩
structure Hf (w:World) (s:fY) (zs:List eG) (l:List aj) : Prop where
 row:Sl w 4 dq s.A s.n zs
 each:fK (Hb w) zs l
structure lu (w:World) (lo:Nat) (s:fY) (zs:List eG) (l:List aj) : Prop where
 row:Own w lo 113 4 dq s.A s.n s.c zs
 each:fK (iS w lo) zs l
structure zR (w:World) (s:fY) (ls:List dw) (l:List aS) : Prop where
 row:Sl w 4 cm s.A s.n ls
 each:fK (RF w) ls l
structure gw (w:World) (lo:Nat) (s:fY) (ls:List dw) (l:List aS) : Prop where
 row:Own w lo 155 4 cm s.A s.n s.c ls
 each:fK (rV w lo) ls l
section
variable {w w':World} {lo oV t:Nat} {s:fY} {zs:List eG} {z:List aj} {ls:List dw} {l:List aS}
def Hf.ext (h:Hf w s zs z) (hx:Ext w w') : Hf w' s zs z:=⟨h.row.ext hx,h.each.mono fun _ _ h=>h.ext hx⟩
def zR.ext (h:zR w s ls l) (hx:Ext w w') : zR w' s ls l:=⟨h.row.ext hx,h.each.mono fun _ _ h=>h.ext hx⟩
def lu.ext (h:lu w lo s zs z) (hx:Ext w w') : lu w' lo s zs z:=⟨h.row.ext hx,h.each.mono fun _ _ h=>h.ext hx⟩
def gw.ext (h:gw w lo s ls l) (hx:Ext w w') : gw w' lo s ls l:=⟨h.row.ext hx,h.each.mono fun _ _ h=>h.ext hx⟩
def lu.low (h:lu w lo s zs z) (hl:oV<=lo) : lu w oV s zs z:=⟨h.row.low hl,h.each.mono fun _ _ h=>h.low hl⟩
def gw.low (h:gw w lo s ls l) (hl:oV<=lo) : gw w oV s ls l:=⟨h.row.low hl,h.each.mono fun _ _ h=>h.low hl⟩
def lu.rd (h:lu w lo s zs z) : Hf w s zs z:=⟨h.row.sl,h.each.mono fun _ _ h=>h.rd⟩
def gw.rd (h:gw w lo s ls l) : zR w s ls l:=⟨h.row.sl,h.each.mono fun _ _ h=>h.rd⟩
def lu.aJ (h:lu w lo s zs z) (hG:se w w' t) (bG:(Nat.beq t 113 || (Nat.beq t 3 || Nat.beq t 143))=false) : lu w' lo s zs z:=by
 rw [afZ] at bG;exact ⟨h.row.aJ hG bG.1,h.each.mono fun _ _ h=>h.aJ hG bG.2⟩
def gw.aJ (h:gw w lo s ls l) (hG:se w w' t) (bG:(Nat.beq t 155 || Nat.beq t 3)=false) : gw w' lo s ls l:=by
 rw [afZ] at bG;exact ⟨h.row.aJ hG bG.1,h.each.mono fun _ _ h=>h.aJ hG bG.2⟩
def lu.nil (w:World) (lo:Nat) : lu w lo .nil [] []:=⟨Own.fC _ _ _ _ _ _,.nil⟩
def gw.nil (w:World) (lo:Nat) : gw w lo .nil [] []:=⟨Own.fC _ _ _ _ _ _,.nil⟩
def Hf.len (h:Hf w s zs z) : zs.length=s.n∧z.length=s.n:=⟨h.row.len,by rw [<- h.each.len,h.row.len]⟩
def zR.len (h:zR w s ls l) : ls.length=s.n∧l.length=s.n:=⟨h.row.len,by rw [<- h.each.len,h.row.len]⟩
end
structure Jb (w:World) (r:jH) (h:Heap) : Prop where
 cpus:r.bJ=h.bJ
 eQ:Sl w 1 bt r.dP.A r.dP.n h.dP
 live:Sl w 3 aO r.Live.A r.Live.n h.Live
 cq:∃ zs,Hf w r.bl zs h.bl
 lists:∃ ls,zR w r.au ls h.au
structure jP (w:World) (lo:Nat) (r:jH) (h:Heap) : Prop where
 cpus:r.bJ=h.bJ
 eQ:Own w lo 3 1 bt r.dP.A r.dP.n r.dP.c h.dP
 live:Own w lo 143 3 aO r.Live.A r.Live.n r.Live.c h.Live
 cq:∃ zs,lu w lo r.bl zs h.bl
 lists:∃ ls,gw w lo r.au ls h.au
section
variable {w w':World} {lo oV t:Nat} {r:jH} {h:Heap}
def Jb.ext (a:Jb w r h) (hx:Ext w w') : Jb w' r h:=by
 obtain ⟨zs,hz⟩:=a.cq;obtain ⟨ls,hl⟩:=a.lists;exact ⟨a.cpus,a.eQ.ext hx,a.live.ext hx,⟨zs,hz.ext hx⟩,⟨ls,hl.ext hx⟩⟩
def jP.ext (a:jP w lo r h) (hx:Ext w w') : jP w' lo r h:=by
 obtain ⟨zs,hz⟩:=a.cq;obtain ⟨ls,hl⟩:=a.lists;exact ⟨a.cpus,a.eQ.ext hx,a.live.ext hx,⟨zs,hz.ext hx⟩,⟨ls,hl.ext hx⟩⟩
def jP.low (a:jP w lo r h) (BE:oV<=lo) : jP w oV r h:=by
 obtain ⟨zs,hz⟩:=a.cq;obtain ⟨ls,hl⟩:=a.lists;exact ⟨a.cpus,a.eQ.low BE,a.live.low BE,⟨zs,hz.low BE⟩,⟨ls,hl.low BE⟩⟩
def jP.rd (a:jP w lo r h) : Jb w r h:=by
 obtain ⟨zs,hz⟩:=a.cq;obtain ⟨ls,hl⟩:=a.lists;exact ⟨a.cpus,a.eQ.sl,a.live.sl,⟨zs,hz.rd⟩,⟨ls,hl.rd⟩⟩
def jP.aJ (a:jP w lo r h) (hG:se w w' t) (bG:(Nat.beq t 3 || (Nat.beq t 143 || (Nat.beq t 113 || Nat.beq t 155)))=false) : jP w' lo r h:=by
 obtain ⟨zs,hz⟩:=a.cq;obtain ⟨ls,hl⟩:=a.lists;simp only [Bool.or_eq_false_iff] at bG;obtain ⟨h1,h2,h3,h4⟩:=bG;exact ⟨a.cpus,a.eQ.aJ hG h1,a.live.aJ hG h2,⟨zs,hz.aJ hG (by simp [h1,h2,h3])⟩,⟨ls,hl.aJ hG (by simp [h1,h4])⟩⟩
def jP.zero (w:World) (lo:Nat) : jP w lo .zero .zero:=⟨rfl,Own.fC _ _ _ _ _ _,Own.fC _ _ _ _ _ _,⟨[],.nil _ _⟩,⟨[],.nil _ _⟩⟩
end
structure Heap.small (h:Heap) : Prop where
 cq:h.bl.length*64<=140737488355328
 eQ:h.dP.length*8<=140737488355328
 lists:h.au.length*48<=140737488355328
 live:h.Live.length*24<=140737488355328
 free:∀ z∈h.bl,z.ai.length*24<=140737488355328∧z.Types.length*8<=140737488355328
 bD:∀ l∈h.au,l.av.length*8<=140737488355328
set_option maxHeartbeats 4000000 in
def nv (A:Option Addr) (n c lo:Nat) (l:List Block) (w:World) (hO:Own w lo 143 3 aO A n c l) (i:Nat) (hi:i<n) (hn:n<=1000000000000000000) (dt:lo<=w.heap.size) :
 iO prog 89 [.slice A n c,.int .i64 (i:Int),.int .i64 ((i+1:Nat) : Int)] w fun v w'=>v = .slice A (n-1) c∧Own w' lo 143 3 aO A (n-1) c (l.eraseIdx i)∧w.grownBy w' (aG A c):=by
 refine dc func89 rfl ntmps89 rfl ?_;have hle:=hO.le;have mx:=hO.len;have hA:=hO.sl.base;have E1:w.grownBy w (aG A c):=World.grownBy.refl _ _
 repeat' (first|refine Wz ?_|(refine SW.st (oc (i:=i) (j:=i+1) (k:=n) rfl rfl rfl rfl (by omega) (by omega) (by omega)) rfl ?_))
 all_goals try omega
 have hw:=Ext.refl w;have e0:i+(n-(i+1))=n-1:=by omega
 have el:l.take i++l.drop (i+1)=l.eraseIdx i:=by rw [aeR]
 refine CW.any 6 mixed (db (by kernel_rfl)) rfl fun w1 ah aI => ?_
 obtain ⟨hw,hO⟩:=cT ah hw hO;clear ah;refine Wa ?_;refine Wu 2 aI rfl (cW (k:=i) rfl rfl (by omega)) ?_;refine Wa ?_;refine Wu 5 aI rfl (aZ (k:=i+1) rfl rfl (by omega) (by omega)) ?_;refine SA.fZ ?_;refine SW.qd (hO.pre (i:=i) (by omega)) (hO.sl.drop (i+1) c (by omega) (by omega)) (by omega) rfl rfl rfl fun w2 bg hg => ?_
 rw [e0,el] at bg;rw [e0];have DL:=(hw.gr (aG A c));repeat' (first|refine Wz ?_|(refine SW.st (iN (i:=n-1) (j:=n) rfl rfl rfl (by omega) (by omega)) rfl ?_))
 obtain ⟨g,rest,rfl,h1,h2,h3,h4,h5,h6⟩:=bg.opened (by omega);have nK:((l.eraseIdx i).flatMap aO).length=(n-1)*3:=by rw [aQ,bg.len]
 refine SW.clear ((n-1)*3) h2 rfl (by rw [aeD,nK];omega) (fun h0 => ?_) (by decide) fun w3 cs kK hB oZ => ?_
 ·rw [if_neg (by omega)];simp [cJ]
 ·have e7:=eH ((l.eraseIdx i).flatMap aO) (rest.take ((n-(n-1))*3)) (rest.drop ((n-(n-1))*3)) cs (by rw [kK];simp;omega) (o:=(n-1)*3) nK.symm;rw [aey (List.flatMap _ _),aex] at e7;rw [e7,aey] at hB;have BM:=Own.closed (l:=l.eraseIdx i) bg.len hB (by rw [aeD,kK];simp;omega) h4 (by omega) h5 h1;rw [<- h6] at oZ;have xG:=bC (bC DL hg (.inl rfl)) oZ (.inl rfl);refine Wz ?_;exact ae.bh rfl rfl ⟨_,rfl,rfl,BM,xG⟩
set_option maxHeartbeats 4000000 in
def kY (A:Option Addr) (n c lo:Nat) (l:List Block) (w:World) (hO:Own w lo 143 3 aO A n c l) (i:Nat) (hi:i<=n) (x:Block) (b:Nat) (hB:aR w b 143 (aO x)) (bG:aG A c≠some b) (hn:(n+1)*24<=140737488355328) (dt:lo<=w.heap.size) :
 iO prog 61 [.slice A n c,.int .i64 (i:Int),.slice (some ⟨b,0,none⟩) 1 1] w fun v w' => ∃ A' c',v = .slice A' (n+1) c'∧Own w' lo 143 3 aO A' (n+1) c' (aM l i x)∧w.grownBy w' (aG A c):=by
 refine dc func61 rfl ntmps61 rfl ?_;have hle:=hO.le;have mx:=hO.len;have hA:=hO.sl.base;have hw:=Ext.refl w;have lj:Sl w 3 aO (some ⟨b,0,none⟩) 1 [x]:=aR.wv hB
 have od:(aO x).length=3:=rfl
 have nK:∀ q:List Block,(q.flatMap aO).length=q.length*3:=fun q=>aQ q
 have pH:∀ (q:List Block) (v:Value),v∈q.flatMap aO->v.oneCell'=true:=fun q v hv=>by
  obtain ⟨u,_,hu⟩:=aeK.1 hv;exact iK.one (enc:=aO) u v hu
 by_cases cx:i=n
 ·subst cx;repeat' (first|refine Wz ?_|(refine SW.st (aZ (k:=i) rfl rfl (by omega) (by omega)) rfl ?_))
  all_goals try omega
  refine SW.append hO lj dt rfl rfl rfl (by omega) (by omega) fun A2 c2 w2 bg hg => ?_
  refine Wz ?_;refine ae.bh rfl rfl ⟨_,rfl,A2,c2,rfl,?_,hg⟩;have e:aM l i x=l++[x]:=by unfold aM;rw [aeF (by omega),afH (by omega)];simp
  rw [e];exact bg
 ·by_cases kM:n+1<=c
  ·obtain ⟨g,rest,rfl,h1,h2,h3,h4,h5,h6⟩:=hO.opened (by omega);have EH:g≠b:=fun e=>bG (by rw [h6,e])
   have es:l.flatMap aO++rest=(l.take i).flatMap aO++((l.drop i).flatMap aO++rest):=by rw [<- aey,<- aeM,aex]
   have e1:((l.take i).flatMap aO).length=i*3:=by rw [nK];simp;omega
   have e2:((l.drop i).flatMap aO).length=(n-i)*3:=by rw [nK];simp [mx]
   have mn:=hO.sl.drop i c (by omega) (by omega);rw [if_neg (by omega)] at mn;rw [es] at h2
   have J6:∀ w',Ext w w'->(Extern.SlicesOverlaps.overlaps #[39,39] #[4] #[.slice (some ⟨b,0,none⟩) 1 1,.slice (if c=i+1 then (some ⟨g,0,none⟩) else (some (⟨g,0,none⟩ : Addr)).map (·.add ((i+1)*3))) (n+1-(i+1)) (c-(i+1))]).run prog w' = .ok (.bool false) w':=fun w' hx=>by
    rw [if_neg (by omega),age,cJ];have b1:=hB.ext hx;have b2:=h2.ext hx;unfold aR at b1 b2
    exact Lib.run_overlaps_apart w' 39 4 143 (bu.ot (t:=39)) 3 (fun w0=>run_sizeOf (bu.size (t:=39)) w0) ⟨b,0,none⟩ ⟨g,(i+1)*3,none⟩ 1 1 _ _ (fun e=>EH e.symm) 143 143 (aO x).toArray.size ((l.take i).flatMap aO++((l.drop i).flatMap aO++rest)).toArray.size
     (by simp only [World.shape?,b1]) (by simp only [World.shape?,b2]) (by simp [e1,e2];omega) (by simp [World.frozen?,b1]) (by simp [World.frozen?,b1])
   repeat' (first|refine Wz ?_|(refine CW.gG rfl ?_)|(refine SW.st (aZ (k:=i) rfl rfl (by omega) (by omega)) rfl ?_)|(refine SW.st (cW (k:=n+1) rfl rfl (by omega)) rfl ?_)|(refine SW.st (aZ (k:=i+1) rfl rfl (by omega) (by omega)) rfl ?_)|(refine SW.entry func108 (by kernel_rfl) (by kernel_rfl) (by kernel_rfl) (e:=Extern.SlicesOverlaps.overlaps #[39,39] #[4]) (by kernel_rfl) rfl rfl (J6 _ hw) ?_))
   all_goals try omega
   have nq:((n-i)+1)*3<=((l.drop i).flatMap aO++rest).length:=by rw [aeD,e2];omega
   have e4:(l.drop i).flatMap aO++rest=((l.drop i).flatMap aO++rest).take 3++(((l.drop i).flatMap aO++rest).drop 3).take ((n-i)*3)++((l.drop i).flatMap aO++rest).drop (3+(n-i)*3):=by
    rw [aey,<- afB,aex,aex]
   generalize Hg:((l.drop i).flatMap aO++rest).take 3=D1 at e4
   generalize Hh:(((l.drop i).flatMap aO++rest).drop 3).take ((n-i)*3)=D2 at e4
   generalize Hi:((l.drop i).flatMap aO++rest).drop (3+(n-i)*3)=D3 at e4
   have f1:D1.length=3:=by rw [<- Hg];simp only [List.length_take];omega
   have f2:D2.length=(n-i)*3:=by rw [<- Hh];simp only [List.length_take,List.length_drop];omega
   have f3:D3.length+3=rest.length:=by rw [<- Hi];simp only [List.length_drop,List.length_append,e2];omega
   rw [e4] at h2;refine CW.any 8 mixed (db (by kernel_rfl)) rfl fun w1 ah aI => ?_
   obtain ⟨hw,hO,hB,h2⟩:=dJ ah hw hO hB h2;clear ah;refine Wa ?_;refine Wu 4 aI rfl (aZ (k:=i+1) rfl rfl (by omega) (by omega)) ?_;refine Wa ?_;refine Wu 7 aI rfl (aZ (k:=i) rfl rfl (by omega) (by omega)) ?_;refine SA.fZ ?_;refine SW.copy (k:=n-i) ((i+1)*3) ((l.drop i).flatMap aO) h2 rfl rfl rfl (by omega) e2 (by simp only [List.length_append,e1,e2,f1,f2];omega) (fun h0=>⟨by rw [if_neg (by omega)];simp [cJ],(⟨g,0,none⟩ : Addr).add (i*3),by rw [if_neg (by omega)];rfl,fun j v hv=>du (by omega) (mn.ext hw) j v hv⟩) (pH _) fun w3 nI oZ => ?_
   have g1:=eH ((l.take i).flatMap aO++D1) D2 D3 ((l.drop i).flatMap aO) (by rw [e2,f2]) (o:=(i+1)*3) (by rw [aeD,e1,f1];omega);have g0:(l.take i).flatMap aO++(D1++D2++D3)=(l.take i).flatMap aO++D1++D2++D3:=by simp only [List.append_assoc]
   rw [g0,g1] at nI;have DL:=bC (hw.gr (aG (some ⟨g,0,none⟩) c)) oZ (.inl h6.symm);have RG:=hB.grown oZ (by simpa using fun e=>EH e.symm);repeat' (first|refine Wz ?_|(refine SW.st (aZ (k:=i) rfl rfl (by omega) (by omega)) rfl ?_))
   refine SW.copy (k:=1) (i*3) (aO x) nI rfl rfl rfl (by omega) od (by simp only [List.length_append,e1,e2,f1,od];omega) (fun h0=>⟨by rw [if_neg (by omega)];simp [cJ],⟨b,0,none⟩,rfl,fun j v hv=>RG.cell hv⟩) (iK.one (enc:=aO) x) fun w4 oy yi => ?_
   have g2:=eH ((l.take i).flatMap aO) D1 ((l.drop i).flatMap aO++D3) (aO x) (by rw [od,f1]) (o:=i*3) e1.symm;have g3:(l.take i).flatMap aO++D1++(l.drop i).flatMap aO++D3=(l.take i).flatMap aO++D1++((l.drop i).flatMap aO++D3):=by simp only [List.append_assoc]
   have g4:(l.take i).flatMap aO++aO x++((l.drop i).flatMap aO++D3)=(aM l i x).flatMap aO++D3:=by unfold aM;simp only [List.flatMap_append,List.flatMap_cons,List.flatMap_nil,List.append_nil,List.append_assoc]
   rw [g3,g2,g4] at oy;have E2:=Own.closed (n:=n+1) (c:=c) (l:=aM l i x) (by unfold aM;simp;omega) oy (by omega) kM (by omega) h5 h1;have eE:=bC DL yi (.inl h6.symm);refine Wz ?_;exact ae.bh rfl rfl ⟨_,rfl,_,_,rfl,E2,eE⟩
  ·have Tt:c=n:=by omega
   have mn:=hO.sl.drop i c (by omega) (by omega);have BP:=hO.sl.pre (i:=i) (by omega);repeat' (first|refine Wz ?_|(refine SW.st (aZ (k:=i) rfl rfl (by omega) (by omega)) rfl ?_)|(refine SW.st (cW (k:=i) rfl rfl (by omega)) rfl ?_))
   all_goals try omega
   refine SW.yO (k:=n+1-i) BP Tryz.underlying3 rfl rfl (by omega) rfl (by omega) (by omega) (by omega) (by omega) fun g rest c2 w2 bq dB h2 h3 h4 h5 => ?_
   have e1:((l.take i).flatMap aO).length=i*3:=by rw [nK];simp;omega
   have e2:((l.drop i).flatMap aO).length=(n-i)*3:=by rw [nK];simp [mx]
   have nq:((n-i)+1)*3<=rest.length:=by omega
   have e4:rest=rest.take 3++(rest.drop 3).take ((n-i)*3)++rest.drop (3+(n-i)*3):=by
    rw [aey,<- afB,aex,aex]
   generalize Hg:rest.take 3=D1 at e4
   generalize Hh:(rest.drop 3).take ((n-i)*3)=D2 at e4
   generalize Hi:rest.drop (3+(n-i)*3)=D3 at e4
   have f1:D1.length=3:=by rw [<- Hg];simp only [List.length_take];omega
   have f2:D2.length=(n-i)*3:=by rw [<- Hh];simp only [List.length_take,List.length_drop];omega
   have f3:D3.length+((n-i)+1)*3=rest.length:=by rw [<- Hi];simp only [List.length_drop];omega
   rw [e4] at h2;have fP:aG A c≠some g:=fun e=>by have:=hO.lt_size _ e;omega
   have EH:b≠g:=by have:=hB.lt;omega
   obtain ⟨mn,hB,hw⟩:=cd bq mn hB hw;repeat' (first|refine Wz ?_|(refine SW.st (aZ (k:=i) rfl rfl (by omega) (by omega)) rfl ?_))
   refine SW.copy (k:=1) (i*3) (aO x) h2 rfl rfl rfl (by omega) od (by simp only [List.length_append,e1,f1,f2,od];omega) (fun h0=>⟨by rw [if_neg (by omega)];simp [cJ],⟨b,0,none⟩,rfl,fun j v hv=>hB.cell hv⟩) (iK.one (enc:=aO) x) fun w3 nI oZ => ?_
   have g2:=eH ((l.take i).flatMap aO) D1 (D2++D3) (aO x) (by rw [od,f1]) (o:=i*3) e1.symm;have g3:(l.take i).flatMap aO++(D1++D2++D3)=(l.take i).flatMap aO++D1++(D2++D3):=by simp only [List.append_assoc]
   rw [g3,g2] at nI;have MA:Ext w w3:=hw.own dB oZ
   have lK:Sl w3 3 aO (if c=i then A else A.map (·.add (i*3))) (n-i) (l.drop i):=(hO.sl.drop i c (by omega) (by omega)).ext MA
   have hw:=MA;refine Wz ?_;refine CW.any 8 mixed (db (by kernel_rfl)) rfl fun w1 ah aI => ?_
   obtain ⟨hw,nI,lK⟩:=cd ah hw nI lK;clear ah;refine Wa ?_;refine Wu 4 aI rfl (aZ (k:=i+1) rfl rfl (by omega) (by omega)) ?_;refine Wa ?_;refine Wu 7 aI rfl (aZ (k:=i) rfl rfl (by omega) (by omega)) ?_;refine SA.fZ ?_;refine SW.copy (k:=n-i) ((i+1)*3) ((l.drop i).flatMap aO) nI rfl rfl rfl (by omega) e2 (by simp only [List.length_append,e1,e2,f2,od];omega) (fun h0=>⟨by rw [if_neg (by omega)];simp [cJ],(if c=i then A else A.map (·.add (i*3))).getD default,?_,fun j v hv=>du (by omega) lK j v hv⟩) (pH _) fun w4 oy yi => ?_
   ·obtain ⟨a,ha⟩:=aeZ.1 (lK.base h0);rw [ha];rfl
   ·have g4:=eH ((l.take i).flatMap aO++aO x) D2 D3 ((l.drop i).flatMap aO) (by rw [e2,f2]) (o:=(i+1)*3) (by rw [aeD,e1,od];omega);have g5:(l.take i).flatMap aO++aO x++(D2++D3)=(l.take i).flatMap aO++aO x++D2++D3:=by simp only [List.append_assoc]
    have g6:(l.take i).flatMap aO++aO x++(l.drop i).flatMap aO++D3=(aM l i x).flatMap aO++D3:=by unfold aM;simp only [List.flatMap_append,List.flatMap_cons,List.flatMap_nil,List.append_nil,List.append_assoc]
    rw [g5,g4,g6] at oy;have E2:=Own.closed (n:=n+1) (c:=c2) (lo:=lo) (l:=aM l i x) (by unfold aM;simp;omega) oy (by omega) (by omega) (by omega) h5 (by omega);have kN:Ext w w4:=hw.own dB yi
    have e9:i+(n+1-i)=n+1:=by omega
    refine Wz ?_;rw [e9];exact ae.bh rfl rfl ⟨_,rfl,_,_,rfl,E2,kN.gr _⟩
variable {k' yk:IntKind} {ft tt:TypeId}
def mZ:prog.underlying 167=some (.int .u64):=by kernel_rfl
def wrap_u64 {z:Int} (h0 : 0<=z) (h1:z<=9223372036854775807) : IntKind.u64.wrap z=z:=by
 simp [IntKind.wrap,IntKind.bits,IntKind.signed];omega
section
variable {P:Program} {L:Env} {w:World} {d:Option Nat} {T:TypeId} {pos:String} {af:Array Edge} {g:Option (Nat×Bool)}
def m6 {x:Operand} {k:IntKind} {i:Int} (hf:P.underlying ft=some (.int k)) (ht:P.underlying tt=some (.int k')) (hx:cy L x=some (.int k i)) :
 St P ⟨d,.convert ft tt x,T,pos,af,g⟩ L w (.int k' (k'.wrap i)) :=
 ⟨fun n a ha w' _=>by
  have e1:=ha.eval hx;generalize a.eval = ρ at *
  simp [go_sem,e1,convert,run_underlying hf,run_underlying ht,Conv.intToInt]⟩
def yP {x:Operand} {i:Int} (hx:cy L x=some (.int .u64 i)) (hy:cy L y=some (.int yk 1)) :
 St P ⟨d,.binOp .shr t x y ty,T,pos,af,g⟩ L w (.int .u64 (i / 2)) :=
 ⟨fun n a ha w' _=>by
  have e1:=ha.eval hx;have e2:=ha.eval hy;generalize a.eval = ρ at *
  simp [go_sem,e1,e2]⟩
end
def bM (l:List Block) (a:Int) : Bool:=if h:bE l a<l.length then decide ((l[bE l a]).At=a) else false
def jI (A:Option Addr) (n c:Nat) (l:List Block) (a:Int) (w:World) (hl:Sl w 3 aO A n l) (f:FuncId) [Body prog f] (hf:∀ x∈l,∀ w',Ext w w'->bI prog f ([.agg (aO x).toArray,.int .i64 a]++[]) w' fun v _=>v = .int .i64 (x.At-a))
 (hu:l.Pairwise fun x y=>x.At<y.At) (hn:n<=1000000000000000000) : bI prog 106 [.slice A n c,.int .i64 a,.func (.func f) #[] #[]] w fun v _=>v = .tuple #[.int .i64 (bE l a:Int),.bool (bM l a)]:=by
 refine Wj func106 ntmps106 ?_;have hw:=Ext.refl w;have hA:=hl.base;have mx:=hl.len;rw [aeB] at hu;refine Wz ?_
 refine CW.loop (fun s:Nat×Nat=>[(0,.slice A n c),(1,.int .i64 a),(2,.func (.func f) #[] #[]),(8,.int .i64 (n:Int)),(9,.int .i64 (s.1:Int)),(10,.int .i64 (s.2:Int))])
  (fun s w'=>s.1<=s.2∧s.2<=n∧Ext w w'∧(∀ (k:Nat) (h:k<l.length),k<s.1->l[k].At<a)∧(∀ (k:Nat) (h:k<l.length),s.2<=k->a<=l[k].At)) (fun s=>s.2-s.1) (0,n)
  ⟨rfl,rfl,rfl,rfl,rfl,rfl,trivial⟩ ⟨by omega,by omega,hw,fun k h h'=>by omega,fun k h h'=>by omega⟩ ?_
 clear hw;rintro ⟨i,j⟩ w' ⟨o6,p7,hw,hI,hJ⟩
 simp only at o6 p7 hI hJ ⊢;by_cases e8:i<j
 ·have hk:(i+j) / 2<n:=by omega
  have iR:=hl.lt hk;have xE:=fun w1 h1=>hf (l[(i+j) / 2]) (aet iR) w1 h1
  repeat' (first|refine Wz ?_|refine Wo hw ((hl.all hk)) ?_|(refine SW.st ((m6 Tryz.underlying3 mZ rfl).eq (congrArg (Value.int .u64) (wrap_u64 (by omega) (by omega)))) rfl ?_)|(refine SW.st ((m6 mZ Tryz.underlying3 rfl).eq (congrArg (Value.int .i64) (ju (by omega) (by omega)))) rfl ?_)|(refine SW.st (yP rfl rfl) rfl ?_))
  refine SW.vk (cap:=[]) rfl rfl rfl (xE _ hw) fun v w1 ah hv => ?_
  subst hv;have hw:=hw.trans ah;by_cases T4:l[(i+j) / 2].At<a
  ·refine Wz ?_;refine ae.again ((i+j) / 2+1,j) ⟨rfl,rfl,rfl,rfl,congrArg (fun z=>some (Value.int .i64 z)) (by omega),rfl,trivial⟩ (by simp only;omega) ⟨by simp only;omega,p7,hw,fun k h h' => ?_,hJ⟩;simp only at h';by_cases e:k=(i+j) / 2
   ·subst e;exact T4
   ·have:=hu k ((i+j) / 2) h iR (by omega)
    omega
  ·refine Wz ?_;refine ae.again (i,(i+j) / 2) ⟨rfl,rfl,rfl,rfl,rfl,congrArg (fun z=>some (Value.int .i64 z)) (by omega),trivial⟩ (by simp only;omega) ⟨by simp only;omega,by simp only;omega,hw,hI,fun k h h' => ?_⟩;simp only at h';by_cases e:k=(i+j) / 2
   ·subst e;omega
   ·have:=hu ((i+j) / 2) k iR h (by omega)
    omega
 ·obtain rfl:i=j:=by omega
  have BI:bE l a=i:=I8 (by omega) hI (fun h=>hJ i h (by omega))
  by_cases cx:i<n
  ·have iR:=hl.lt cx;have xE:=fun w1 h1=>hf (l[i]) (aet iR) w1 h1
   have OP:bM l a=decide (l[i].At=a):=by unfold bM;simp only [BI,iR,dif_pos]
   rw [BI,OP];repeat' (first|refine Wz ?_|refine Wo hw ((hl.all cx)) ?_)
   refine SW.vk (cap:=[]) rfl rfl rfl (xE _ hw) fun v w1 ah hv => ?_
   subst hv;have hw:=hw.trans ah;by_cases he:l[i].At=a
   ·refine Wz ?_;refine ae.dl rfl rfl rfl ⟨_,rfl,hw,?_⟩;rw [decide_eq_true he,decide_eq_true (by omega)]
   ·refine Wz ?_;refine ae.dl rfl rfl rfl ⟨_,rfl,hw,?_⟩;rw [decide_eq_false he,decide_eq_false (by omega)]
  ·have OP:bM l a=false:=by unfold bM;rw [dif_neg (by omega)]
   rw [BI,OP];refine Wz ?_;exact ae.dl rfl rfl rfl ⟨_,rfl,hw,rfl⟩
def RH {t:Int} (h:sw l) (hb:∀ b∈l,lq f t b) : l.Pairwise fun x y=>x.At<y.At:=by
 unfold sw at h;rw [aeB] at h ⊢;intro i j hi hj o6;have h1:=h i j hi hj o6;have hp:=hb _ (aet hi);have:=cM hp.1.1 hp.1.2.1
 omega
def DM (x:Block) (a:Int) (w:World) (hx : -4000000000000000000<=x.At∧x.At<=4000000000000000000) (ha : -4000000000000000000<=a∧a<=4000000000000000000) : bI prog 153 ([.agg (aO x).toArray,.int .i64 a]++[]) w fun v _=>v = .int .i64 (x.At-a):=by
 refine Wj func153 ntmps153 ?_;refine Ww fun b1 w1 hw lD aX => ?_;refine Wz ?_;exact ae.bh rfl rfl ⟨_,rfl,hw,rfl⟩
def wD (r:eG) (l:List Block) (f t a:Int) (w:World) (hl:Sl w 3 aO r.ai.A r.ai.n l) (hu:sw l) (hb:∀ b∈l,lq f t b) (h0 : 0<=f) (ht:t<=256) (hn:r.ai.n<=1000000000000000000) (ha : -1000<=a∧a<=1000) :
 bI prog 130 [.agg (dq r).toArray,.int .i64 a] w fun v _=>v = .tuple #[.int .i64 (bE l a:Int),.bool (bM l a)]:=by
 refine Wj func130 ntmps130 ?_;refine Ww fun b1 w1 hw lD aX => ?_
 have cB:∀ w',Ext w w'->bI prog 106 [.slice r.ai.A r.ai.n r.ai.c,.int .i64 a,.func (.func 153) #[] #[]] w' fun v _=>v = .tuple #[.int .i64 (bE l a:Int),.bool (bM l a)]:=fun w' h =>
  jI _ _ _ _ _ _ (hl.ext h) _ (fun x hx w1 _=>DM x a w1 (by have:=(hb x hx).1;unfold ky at this;omega) (by omega)) (RH hu hb) hn
 repeat' (first|refine Wz ?_|(refine Wk (cB _ hw) ?_;intro v w1 ah hv;subst hv;obtain ⟨hw,aX⟩:=cT ah hw aX;clear ah))
 exact ae.dl rfl rfl rfl ⟨_,rfl,hw,rfl⟩
def J7 (a o:Int) (b9:Nat) (x:Block) (w:World) (h9:aR w b9 143 (aO ⟨a,o,0⟩)) (ho : 0<=o∧o<=4) (ha : 0<=a∧a<=256) (hx : 0<=x.At∧x.At<=256) (hy : 0<=x.Order∧x.Order<=4) :
 bI prog 129 ([.agg (aO x).toArray]++[.pointer (some ⟨b9,0,none⟩)]) w fun v _=>v = .bool (decide (x.At<a+pw o) && decide (a<x.At+pw x.Order)):=by
 refine Wj func129 ntmps129 ?_;refine Ww fun b2 w1 hw eW aq => ?_;have h9:=h9.ext hw;have c1:∀ w',bI prog 128 [.agg (aO ⟨a,o,0⟩).toArray] w' fun v _=>v = .int .i64 (a+pw o):=fun w'=>p9 ⟨a,o,0⟩ w' ho ha
 have c2:∀ w',bI prog 128 [.agg (aO x).toArray] w' fun v _=>v = .int .i64 (x.At+pw x.Order):=fun w'=>p9 x w' hy hx
 by_cases h1:x.At<a+pw o
 ·repeat' (first|refine Wz ?_|((apply CW.bH mixed;(· kernel_rfl);rotate_left;intro w1 ah;obtain ⟨hw,aq,h9⟩:=cd ah hw aq h9;clear ah;rotate_right))|refine SW.dI rfl rfl (fun w1 ah=>(c1 _)) ?_|refine SW.dI rfl rfl (fun w1 ah=>(c2 _)) ?_|exact SW.eU rfl)
  exact ae.bh rfl rfl ⟨_,rfl,hw,by simp [h1]⟩
 ·repeat' (first|refine Wz ?_|((apply CW.bH mixed;(· kernel_rfl);rotate_left;intro w1 ah;obtain ⟨hw,aq,h9⟩:=cd ah hw aq h9;clear ah;rotate_right))|refine SW.dI rfl rfl (fun w1 ah=>(c1 _)) ?_|exact SW.eU rfl)
  exact ae.bh rfl rfl ⟨_,rfl,hw,by simp [h1]⟩
variable {a':Int}
def vp (h:fT z=false) : ga z a o=(8,.zero):=by simp [ga,h,aj.zero]
def yQ (h:fT z=true) (hf : ¬ ky z.aT z.To a o) : ga z a o=(1,.zero):=by simp [ga,h,hf,aj.zero]
def DN (h:fT z=true) (hf:ky z.aT z.To a o) (ho:kz z.ai a o=true) : ga z a o=(5,.zero):=by simp [ga,h,hf,ho,aj.zero]
def yR (h:fT z=true) (hf:ky z.aT z.To a o) (ho:kz z.ai a o=false) {o':Int} (hj:jm 5 z.ai a o=(l,a',o')) {t:Int} (ht:z.Types.getD ((a'-z.aT) / 8).toNat 0=t) :
 ga z a o=(0,⟨z.aT,z.To,aM l (bE l a') ⟨a',o',t⟩,z.Types⟩):=by simp [ga,h,hf,ho,hj,<- ht]
def kO (h:bW z) : z.ai.length<=256∧z.Types.length<=32:=by
 have hu:=qa h;have mm:=h.ok;unfold fR at mm
 have key:∀ (i:Nat) (hi:i<z.ai.length),(i:Int)<=(z.ai[i]).At:=by
  intro i;induction i with
  | zero =>
    intro hi;have:=(h.eV 0 hi).1
    unfold ky at this;omega
  | succ i ih =>
    intro hi;have h1:=ih (by omega);have h2:=jV hu hi (aga i);have h3:=(h.eV i (by omega)).1;have:=cM h3.1 h3.2.1
    omega
 refine ⟨?_,by have:=h.len;omega⟩;rcases aeL z.ai.length with h0|h0
 ·omega
 ·have h1:=key (z.ai.length-1) (by omega);have h2:=(h.eV (z.ai.length-1) (by omega)).1;unfold ky at h2;omega
def mE (z:aj) (a o:Int) : (ga z a o).2.ai.length<=257∧(ga z a o).2.Types.length<=32∧((ga z a o).1=0->(ga z a o).2.aT=z.aT∧(ga z a o).2.To=z.To∧(ga z a o).2.Types=z.Types):=by
 cases hq:fT z
 ·rw [vp hq];simp [aj.zero]
 ·have hz:=fD.1 hq;have hl:=kO hz;by_cases hf:ky z.aT z.To a o
  ·cases ho:kz z.ai a o
   ·have hJ:=zQ (f:=0) (t:=0) hz hf ho;have hj:=EZ (by have:=hz.ok;unfold fR at this;omega) 5 hJ;obtain ⟨⟨l,a',o'⟩,vq⟩ : ∃ u,jm 5 z.ai a o=u:=⟨_,rfl⟩;rw [vq] at hj;rw [yR hq hf ho vq rfl];have h3:=hj.2;simp only [aM,List.length_append,List.length_take,List.length_drop,List.length_singleton] at h3 ⊢;exact ⟨by omega,hl.2,fun _=>by simp⟩
   ·rw [DN hq hf ho];simp [aj.zero]
  ·rw [yQ hq hf];simp [aj.zero]
noncomputable def vr:Nat->aj->Int->Int×aj
 | 0,z,_=>(0,z)
 | k+1,z,p=>if (ga z p 0).1=0 then vr k (ga z p 0).2 (p+1) else ((ga z p 0).1,.zero)
def m7 (z:aj) (f s:Int) : Prop:=0<=s∧z.aT<=f∧f<=z.To∧s<=z.To-f
instance (z:aj) (f s:Int) : Decidable (m7 z f s):=inferInstanceAs (Decidable (_∧_))
noncomputable def qe (z:aj) (f s:Int) : Int×aj:=if fT z then (if m7 z f s then vr s.toNat z f else (1,.zero)) else (8,.zero)
def Jc {s:Int} (h:fT z=false) : qe z f s=(8,.zero):=by simp [qe,h]
def Jd {s:Int} (h:fT z=true) (ha : ¬ m7 z f s) : qe z f s=(1,.zero):=by simp [qe,h,ha]
def Je (h:fT z=true) (ha:m7 z f (k:Int)) : qe z f (k:Int)=vr k z f:=by simp [qe,h,ha]
structure J8 (z:aj) (a o:Int) (f:Nat) (l:List Block) (a' o':Int) : Prop where
 ok:EY z.aT z.To l a' o'
 eq:jm 5 z.ai a o=jm f l a' o'
 fuel : 5<=(f:Int)+o'
 len:l.length<=z.ai.length
def J8.stop {f:Nat} {o':Int} (h:J8 z a o f l a' o') (ho : ¬ o'<4∨l.any (BH (beside a' o') o')=false) : jm 5 z.ai a o=(l,a',o'):=by
 rw [h.eq];cases f with
 | zero=>rfl
 | succ f =>
   simp only [jm];rcases ho with h1|h1
   ·rw [if_neg h1]
   ·simp [h1]
def J8.next {f:Nat} {o':Int} (h:J8 z a o f l a' o') (h0 : 0<=z.aT) (ho:o'<4) (iU:l.any (BH (beside a' o') o')=true) : ∃ f',J8 z a o f' (mS l (beside a' o') o') (min a' (beside a' o')) (o'+1):=by
 have hf:=h.fuel;obtain ⟨g,rfl⟩ : ∃ g,f=g+1:=⟨f-1,by omega⟩;refine ⟨g,h.ok.step h0 ho iU,?_,by omega,aev (agc _ _) h.len⟩;rw [h.eq];simp only [jm,if_pos ho,iU,if_true]
set_option maxHeartbeats 8000000 in
def qf (r:eG) (z:aj) (a o:Int) (w:World) (hr:Hb w r z) (hf:(r.ai.n+1)*24<=140737488355328) (ht:r.Types.n*8<=140737488355328) (h1 : -9223372036854775808<=r.aT∧r.aT<=9223372036854775807) (h2 : -9223372036854775808<=r.To∧r.To<=9223372036854775807) :
 bI prog 76 [.agg (dq r).toArray,.int .i64 a,.int .i64 o] w (yN w.heap.size (ga z a o)):=by
 refine Wj func76 ntmps76 ?_;refine Ww fun b3 w1 hw cg ao => ?_;refine SW.alloc rfl fun b6 w2 bq dv ap => ?_
 have cQ:=hw.up dv
 have pi:b3≠b6:=by have:=ao.lt;omega
 (obtain ⟨hw,ao⟩:=cT bq hw ao);have eF:=hr.from_;have eT:=hr.pJ;have O8:=hr.free.len;have T0:=hr.types.len;obtain ⟨q,hq⟩ : ∃ q,fT z=q:=⟨_,rfl⟩
 have c1:∀ w',Ext w w'->bI prog 75 [.agg (dq r).toArray] w' fun v _=>v = .int .i64 (if q then 0 else 8):=fun w' h=>by
  have:=lh r z w' (hr.ext h) (by omega) (by omega) h1 h2
  rwa [hq] at this
 cases q
 ·simp only [Bool.false_eq_true,if_false] at c1;rw [vp hq];repeat' (first|refine Wz ?_|(refine Wk (c1 _ hw) ?_;intro v w1 ah hv;subst hv;obtain ⟨hw,ao,ap⟩:=cd ah hw ao ap;clear ah))
  refine Wg ap (fU .zero) fun w5 cK hg => ?_
  have hw:=hw.own cQ hg;refine Wz ?_;exact ae.dj rfl rfl rfl cK rfl ⟨_,rfl,hw,.zero,rfl,iS.zero _ _⟩
 ·simp only [if_true] at c1;have hz:=fD.1 hq;obtain ⟨o1,o2,o3,o4,o5⟩:=hz.ok;repeat' (first|refine Wz ?_|(refine Wk (c1 _ hw) ?_;intro v w1 ah hv;subst hv;obtain ⟨hw,ao,ap⟩:=cd ah hw ao ap;clear ah))
  clear c1;refine SW.alloc rfl fun b9 w1 ah oz bF => ?_
  skip;refine Wg bF (iK.one (enc:=aO) ⟨a,o,0⟩) fun w2 j5 hg => ?_
  have ar:=ah.own oz hg;have sy:=hw.up oz
  obtain ⟨hw,ao,ap⟩:=cd ar hw ao ap;have bF:=j5;clear j5 ah hg ar
  have cF:∀ w',bI prog 127 [.agg (dq r).toArray,.agg (aO ⟨a,o,0⟩).toArray] w' fun v _=>v = .bool (decide (ky z.aT z.To a o)):=fun w'=>by
   have:=tq r ⟨a,o,0⟩ w' (by omega)
   rwa [eF,eT] at this
  by_cases pL:ky z.aT z.To a o
  ·rw [decide_eq_true pL] at cF;obtain ⟨f1,f2,f3,f4,f5⟩:=id pL
   have cC:∀ w',Ext w w'->aR w' b9 143 (aO ⟨a,o,0⟩)->bI prog 123 [.slice r.ai.A r.ai.n r.ai.c,.func (.func 129) #[] [.pointer (some ⟨b9,0,none⟩)].toArray] w' fun v _=>v = .bool (kz z.ai a o):=fun w' hx h9 =>
    mu _ _ _ _ _ (hr.free.ext hx) _ [.pointer (some ⟨b9,0,none⟩)] (fun x=>decide (x.At<a+pw o) && decide (a<x.At+pw x.Order)) (fun x => .agg (aO x).toArray) (fun x=>rfl)
     (fun x Tu w1 lj=>by
       obtain ⟨i,hi,rfl⟩:=aeu Tu;obtain ⟨g1,g2,g3,g4,g5⟩:=(hz.eV i hi).1;exact J7 a o b9 _ w1 (h9.ext lj) ⟨f1,f2⟩ ⟨by omega,by omega⟩ ⟨by omega,by omega⟩ ⟨g1,g2⟩) (by omega)
   cases J6:kz z.ai a o
   ·rw [J6] at cC;have WS:=zQ (f:=0) (t:=0) hz pL J6;repeat' (first|refine Wz ?_|(refine CW.gj rfl ?_)|((first|refine Wk (cF _) ?_|refine Wk (cC _ hw bF) ?_);intro v w1 ah hv;subst hv;obtain ⟨hw,ao,ap,bF⟩:=dJ ah hw ao ap bF;clear ah)|(refine SW.st (iX (vs:=[.pointer (some ⟨b9,0,none⟩)]) rfl) rfl ?_))
    have T5:b9+1<=_:=bF.lt
    refine Wk (tp r z _ (hr.ext hw) (by omega) ht) fun v w4 kN hv => ?_
    obtain ⟨s,rfl,hs,e1,e2⟩:=hv;have hs:=hs.low T5;(obtain ⟨hw,ao,ap,bF⟩:=dJ kN hw ao ap bF);clear T5 cC cF;skip;refine Wg ao (fU s) fun w5 ef hg => ?_
    have hG:=ao.gr hg;have hw:=hw.own cg hg;(have bF:=bF.aJ hG rfl);have hX:=hs.free.aJ hG rfl;have hT:=hs.types.aJ hG rfl;have ap:=ap.grown hg (by simpa using pi.symm);have ao:=ef;have es:s.ai.n=z.ai.length:=by rw [e1,O8]
    have eq1:s=⟨s.aT,s.To,⟨s.ai.A,z.ai.length,s.ai.c⟩,s.Types⟩:=by rw [<- es]
    have sF:=hs.from_;have sT:=hs.pJ;rw [es] at hX;rw [eq1] at ao;clear ef hg hG hs;refine Wz ?_
    obtain ⟨K,hK⟩ : ∃ K:Env->World->Prop,K=fun L' w' => ∃ l a' o' A c,iM L' [(3,.pointer (some ⟨b3,0,none⟩)),(6,.pointer (some ⟨b6,0,none⟩)),(9,.pointer (some ⟨b9,0,none⟩))]∧Ext w w'∧aR w' b3 113 [.int .i64 s.aT,.int .i64 s.To,.slice A l.length c,.slice s.Types.A s.Types.n s.Types.c]∧aR w' b6 113 (dq .zero)∧aR w' b9 143 [.int .i64 a',.int .i64 o',.int .i64 0] ∧
     Own w' (b9+1) 143 3 aO A l.length c l∧Own w' (b9+1) 3 1 bt s.Types.A s.Types.n s.Types.c z.Types∧EY z.aT z.To l a' o'∧jm 5 z.ai a o=(l,a',o')∧l.length<=z.ai.length:=⟨_,rfl⟩
    refine CW.J5 K ?_ ?_
    ·refine CW.loop (fun u:Nat×List Block×Int×Int×Option Addr×Nat=>[(3,.pointer (some ⟨b3,0,none⟩)),(6,.pointer (some ⟨b6,0,none⟩)),(9,.pointer (some ⟨b9,0,none⟩))])
      (fun u w'=>Ext w w'∧aR w' b3 113 [.int .i64 s.aT,.int .i64 s.To,.slice u.2.2.2.2.1 u.2.1.length u.2.2.2.2.2,.slice s.Types.A s.Types.n s.Types.c]∧aR w' b6 113 (dq .zero)∧aR w' b9 143 [.int .i64 u.2.2.1,.int .i64 u.2.2.2.1,.int .i64 0] ∧
        Own w' (b9+1) 143 3 aO u.2.2.2.2.1 u.2.1.length u.2.2.2.2.2 u.2.1∧Own w' (b9+1) 3 1 bt s.Types.A s.Types.n s.Types.c z.Types∧J8 z a o u.1 u.2.1 u.2.2.1 u.2.2.2.1) (fun u=>(5-u.2.2.2.1).toNat) (5,z.ai,a,o,s.ai.A,s.ai.c)
      ⟨rfl,rfl,rfl,trivial⟩ ⟨hw,ao,ap,bF,hX,hT,⟨WS,rfl,by simp only;omega,aew _⟩⟩ ?_
     clear hw ao ap bF hX hT WS;rintro ⟨f,l,a',o',A,c⟩ w' ⟨hw,ao,ap,bF,hX,hT,hJ⟩
     simp only at ao bF hX hJ ⊢;obtain ⟨k1,k2,k3,k4,k5⟩:=hJ.ok.fit;have hlen:=hJ.len;have hp:=cM k1 k2;by_cases RI:o'<4
     ·obtain ⟨m1,m2,m3⟩:=zP (by omega) k1 RI k5;generalize E3:beside a' o'=wF at m1 m2 m3
      have OP:=J4 hJ.ok.sw hJ.ok.eV wF o'
      have cD:∀ w1,Ext w' w1->bI prog 130 [.agg (dq ⟨s.aT,s.To,⟨A,l.length,c⟩,s.Types⟩).toArray,.int .i64 wF] w1 fun v _=>v = .tuple #[.int .i64 (bE l wF:Int),.bool (bM l wF)]:=fun w1 hx =>
       wD ⟨s.aT,s.To,⟨A,l.length,c⟩,s.Types⟩ l z.aT z.To wF w1 (hX.sl.ext hx) hJ.ok.sw hJ.ok.eV o1 (by omega) (by simp only;omega) ⟨by omega,by omega⟩
      by_cases BI:bE l wF<l.length∧(∀ h:bE l wF<l.length,(l[bE l wF]).At=wF∧(l[bE l wF]).Order=o')
      ·obtain ⟨BI,hh⟩:=BI;obtain ⟨kZ,ym⟩:=hh BI;have RJ:bM l wF=true:=by unfold bM;rw [dif_pos BI];exact decide_eq_true kZ
       have WT:wC l wF o'=true:=by unfold wC;rw [dif_pos BI];exact decide_eq_true ⟨kZ,ym⟩
       rw [WT] at OP;rw [RJ] at cD;have her:=BN hJ.ok.sw hJ.ok.eV BI kZ ym;have hA:=hX.sl.base;generalize EI:bE l wF=lb at *
       have Qx:∀ x,x=beside a' o'->x=wF:=fun x e=>e.trans E3
       refine Wz ?_;(apply CW.bH mixed;(· kernel_rfl);rotate_left;intro w1 ah;obtain ⟨hw,ao,ap,bF,hX,hT⟩:=jh ah hw ao ap bF hX hT;clear ah;rotate_right);repeat' (first|refine Wz ?_|refine SW.dI rfl rfl (fun w1 ah=>(cD _ ah)) ?_|(refine SW.st (fO (r:=pw o') rfl rfl (by omega) (by omega) (by simp [pw]) (by omega) (by omega)) rfl ?_)|(refine SW.st ((n9 a' o' rfl rfl rfl rfl ⟨by omega,by omega,k1,RI,k5⟩).eq (congrArg (Value.int .i64) E3)) rfl ?_)|exact SW.eU rfl)
       (apply CW.bH mixed;(· kernel_rfl);rotate_left;intro w1 ah;obtain ⟨hw,ao,ap,bF,hX,hT⟩:=jh ah hw ao ap bF hX hT;clear ah;rotate_right);repeat' (first|refine Wz ?_|refine SW.want rfl rfl ?_|refine Wl (hX.sl.jF BI rfl) ?_|exact SW.eU rfl)
       refine CW.any 8 mixed (db (by kernel_rfl)) rfl fun w1 ah aI => ?_
       obtain ⟨hw,ao,ap,bF,hX,hT⟩:=jh ah hw ao ap bF hX hT;clear ah;refine Wa ?_;refine Wu 7 aI rfl (aP rfl (hX.sl.jF BI rfl)) ?_;refine SA.fZ ?_;repeat' (first|refine Wz ?_|(refine SW.st (DD rfl rfl) rfl ?_))
       refine Wb (i:=0) bF fun w5 j5 hg => ?_
       have hG:=bF.gr hg;have hw:=hw.own sy hg;have hX:=hX.grown hg (.inr (fun e=>by have:=hX.aW _ e;omega));(obtain ⟨ao,ap,hT⟩:=cd hG ao ap hT);have bF:=j5;clear j5 hg hG;refine Wz ?_;refine Wb (i:=1) bF fun w5 j5 hg => ?_
       have hG:=bF.gr hg;have hw:=hw.own sy hg;have hX:=hX.grown hg (.inr (fun e=>by have:=hX.aW _ e;omega));(obtain ⟨ao,ap,hT⟩:=cd hG ao ap hT);have bF:=j5;clear j5 hg hG;refine Wz ?_;refine SW.dK rfl rfl (nv A l.length c _ l _ hX lb BI (by omega) (by have:=bF.lt;omega)) fun v w6 hv => ?_
       obtain ⟨rfl,DO,hg⟩:=hv;have hG:=hX.gr hg;have hw:=aD hw hg (aev sy (Nat.le_succ _)) hX.aW;have bF:=bF.grown hg (fun e=>by have:=hX.aW _ e.symm;omega);(obtain ⟨ao,ap,hT⟩:=cd hG ao ap hT);clear hg hG;have BQ:l.length-1=(l.eraseIdx lb).length:=by rw [afN BI]
       rw [BQ] at DO;rw [BQ];refine Wz ?_;refine Wb (i:=2) ao fun w7 ef hg => ?_
       have hG:=ao.gr hg;have hw:=hw.own cg hg;have ap:=ap.grown hg (by simpa using pi.symm);(obtain ⟨bF,DO,hT⟩:=cd hG bF DO hT);refine Wz ?_;obtain ⟨f',Qy⟩:=hJ.next o1 RI (by rw [E3];exact OP)
       rw [E3,<- her] at Qy;refine ae.again (f',l.eraseIdx lb,min a' wF,o'+1,A,c) ⟨rfl,rfl,rfl,trivial⟩ (by simp only;omega) ⟨hw,ef,ap,?_,DO,hT,Qy⟩;rw [kZ] at bF;exact bF
      ·have WT:wC l wF o'=false:=by
        unfold wC;by_cases h:bE l wF<l.length
        ·rw [dif_pos h];exact decide_eq_false (fun hh=>BI ⟨h,fun _=>hh⟩)
        ·rw [dif_neg h]
       rw [WT] at OP;have BF:=hJ.stop (.inr (by rw [E3];exact OP))
       have BR:∀ w1,Ext w w1->aR w1 b3 113 [.int .i64 s.aT,.int .i64 s.To,.slice A l.length c,.slice s.Types.A s.Types.n s.Types.c]->aR w1 b6 113 (dq .zero)->aR w1 b9 143 [.int .i64 a',.int .i64 o',.int .i64 0]->Own w1 (b9+1) 143 3 aO A l.length c l->Own w1 (b9+1) 3 1 bt s.Types.A s.Types.n s.Types.c z.Types -> ∀ L',iM L' [(3,.pointer (some ⟨b3,0,none⟩)),(6,.pointer (some ⟨b6,0,none⟩)),(9,.pointer (some ⟨b9,0,none⟩))]->K L' w1:=fun w1 x1 x2 x3 x4 x5 x6 L' x7=>by
        rw [hK];exact ⟨l,a',o',A,c,x7,x1,x2,x3,x4,x5,x6,hJ.ok,BF,hJ.len⟩
       by_cases BQ:bE l wF<l.length
       ·have hA:=hX.sl.base;by_cases kZ:(l[bE l wF]).At=wF
        ·have ym : ¬ (l[bE l wF]).Order=o':=fun h=>BI ⟨BQ,fun _=>⟨kZ,h⟩⟩
         have RJ:bM l wF=true:=by unfold bM;rw [dif_pos BQ];exact decide_eq_true kZ
         rw [RJ] at cD;generalize EI:bE l wF=lb at *
         repeat' (first|refine Wz ?_|((apply CW.bH mixed;(· kernel_rfl);rotate_left;intro w1 ah;obtain ⟨hw,ao,ap,bF,hX,hT⟩:=jh ah hw ao ap bF hX hT;clear ah;rotate_right))|refine SW.want rfl rfl ?_|refine Wl (hX.sl.jF BQ rfl) ?_|refine SW.dI rfl rfl (fun w1 ah=>(cD _ ah)) ?_|(refine SW.st (fO (r:=pw o') rfl rfl (by omega) (by omega) (by simp [pw]) (by omega) (by omega)) rfl ?_)|(refine SW.st ((n9 a' o' rfl rfl rfl rfl ⟨by omega,by omega,k1,RI,k5⟩).eq (congrArg (Value.int .i64) E3)) rfl ?_)|exact SW.eU rfl)
         exact ae.mD (K:=K) (BR _ hw ao ap bF hX hT _ ⟨rfl,rfl,rfl,trivial⟩)
        ·have RJ:bM l wF=false:=by unfold bM;rw [dif_pos BQ];exact decide_eq_false kZ
         rw [RJ] at cD;generalize EI:bE l wF=lb at *
         repeat' (first|refine Wz ?_|((apply CW.bH mixed;(· kernel_rfl);rotate_left;intro w1 ah;obtain ⟨hw,ao,ap,bF,hX,hT⟩:=jh ah hw ao ap bF hX hT;clear ah;rotate_right))|refine SW.skip rfl rfl rfl rfl ?_|refine SW.dI rfl rfl (fun w1 ah=>(cD _ ah)) ?_|(refine SW.st (fO (r:=pw o') rfl rfl (by omega) (by omega) (by simp [pw]) (by omega) (by omega)) rfl ?_)|(refine SW.st ((n9 a' o' rfl rfl rfl rfl ⟨by omega,by omega,k1,RI,k5⟩).eq (congrArg (Value.int .i64) E3)) rfl ?_)|exact SW.eU rfl)
         exact ae.mD (K:=K) (BR _ hw ao ap bF hX hT _ ⟨rfl,rfl,rfl,trivial⟩)
       ·have RJ:bM l wF=false:=by unfold bM;rw [dif_neg BQ]
        rw [RJ] at cD;generalize EI:bE l wF=lb at *
        repeat' (first|refine Wz ?_|((apply CW.bH mixed;(· kernel_rfl);rotate_left;intro w1 ah;obtain ⟨hw,ao,ap,bF,hX,hT⟩:=jh ah hw ao ap bF hX hT;clear ah;rotate_right))|refine SW.skip rfl rfl rfl rfl ?_|refine SW.dI rfl rfl (fun w1 ah=>(cD _ ah)) ?_|(refine SW.st (fO (r:=pw o') rfl rfl (by omega) (by omega) (by simp [pw]) (by omega) (by omega)) rfl ?_)|(refine SW.st ((n9 a' o' rfl rfl rfl rfl ⟨by omega,by omega,k1,RI,k5⟩).eq (congrArg (Value.int .i64) E3)) rfl ?_)|exact SW.eU rfl)
        exact ae.mD (K:=K) (BR _ hw ao ap bF hX hT _ ⟨rfl,rfl,rfl,trivial⟩)
     ·refine Wz ?_;exact ae.mD (K:=K) (by rw [hK];exact ⟨l,a',o',A,c,⟨rfl,rfl,rfl,trivial⟩,hw,ao,ap,bF,hX,hT,hJ.ok,hJ.stop (.inl RI),hJ.len⟩)
    ·clear hw ao ap bF hX hT WS;subst hK;rintro L' w' ⟨l,a',o',A,c,jc,hw,ao,ap,bF,hX,hT,hJ,T6,hlen⟩
     refine ae.sub jc ?_;obtain ⟨k1,k2,k3,k4,k5⟩:=hJ.fit;obtain ⟨k,hk,iR⟩:=I7 hz k3 k4;have gC:k<s.Types.n:=by omega
     have hbv:=yR hq pL J6 T6 (t:=z.Types[k]) (by rw [hk];simp [List.getD_eq_getElem?_getD,List.getElem?_eq_getElem iR]);rw [hbv];have WU:l.length<=1000000000000000000:=by omega
     have hA:=hT.sl.base;have eF2:s.aT=z.aT:=sF
     repeat' (first|refine Wz ?_|refine SW.st (cn (k) rfl rfl (by assumption) (by omega) (by omega)) rfl ?_|refine Wl (hT.sl.one gC rfl) ?_)
     refine Wb (i:=2) bF fun w5 j5 hg => ?_
     have hG:=bF.gr hg;have hw:=hw.own sy hg;have hX:=hX.grown hg (.inr (fun e=>by have:=hX.aW _ e;omega));(obtain ⟨ao,ap,hT⟩:=cd hG ao ap hT);have bF:=j5;clear j5 hg hG;repeat' (first|refine Wz ?_|(refine Wk (wD ⟨s.aT,s.To,⟨A,l.length,c⟩,s.Types⟩ l z.aT z.To a' _ hX.sl hJ.sw hJ.eV o1 (by omega) WU ⟨by omega,by omega⟩) ?_;intro v w1 ah hv;subst hv;obtain ⟨hw,ao,ap,bF,hX,hT⟩:=jh ah hw ao ap bF hX hT;clear ah))
     have e8:=hX.lt_size;refine SW.dR rfl rfl rfl rfl rfl fun vb w6 ar T7 hvB => ?_
     (obtain ⟨hw,ao,ap,bF,hX,hT⟩:=jh ar hw ao ap bF hX hT);skip;refine SW.dK rfl rfl (kY A l.length c _ l _ hX (bE l a') (I9 l a') ⟨a',o',z.Types[k]⟩ vb hvB (fun e=>by have:=e8 _ e;omega) (aev (aeW 24 (by omega)) hf) (by have:=bF.lt;omega)) fun v w7 hv => ?_
     obtain ⟨A2,c2,rfl,DO,hg⟩:=hv;have hG:=hX.gr hg;have hw:=aD hw hg (aev sy (Nat.le_succ _)) hX.aW;have bF:=bF.grown hg (fun e=>by have:=hX.aW _ e.symm;omega);(obtain ⟨ao,ap,hT⟩:=cd hG ao ap hT);clear hg hG;refine Wz ?_;refine Wb (i:=2) ao fun w8 ef hg => ?_
     have hG:=ao.gr hg;have hw:=hw.own cg hg;have ap:=ap.grown hg (by simpa using pi.symm);(obtain ⟨bF,DO,hT⟩:=cd hG bF DO hT);clear hg hG;refine Wz ?_;refine Wg ap (fU ⟨s.aT,s.To,⟨A2,l.length+1,c2⟩,s.Types⟩) fun w9 cK hg => ?_
     have hG:=ap.gr hg;have hw:=hw.own cQ hg;(obtain ⟨DO,hT⟩:=cT hG DO hT);refine Wz ?_;exact ae.dj rfl rfl rfl cK rfl ⟨_,rfl,hw,⟨s.aT,s.To,⟨A2,l.length+1,c2⟩,s.Types⟩,rfl,sF,sT,DO.low (by omega),hT.low (by omega)⟩
   ·rw [J6] at cC;rw [DN hq pL J6];repeat' (first|refine Wz ?_|(refine CW.gj rfl ?_)|((first|refine Wk (cF _) ?_|refine Wk (cC _ hw bF) ?_);intro v w1 ah hv;subst hv;obtain ⟨hw,ao,ap,bF⟩:=dJ ah hw ao ap bF;clear ah)|(refine SW.st (iX (vs:=[.pointer (some ⟨b9,0,none⟩)]) rfl) rfl ?_))
    refine Wg ap (fU .zero) fun w5 cK hg => ?_
    have hw:=hw.own cQ hg;refine Wz ?_;exact ae.dj rfl rfl rfl cK rfl ⟨_,rfl,hw,.zero,rfl,iS.zero _ _⟩
  ·rw [decide_eq_false pL] at cF;rw [yQ hq pL];repeat' (first|refine Wz ?_|(refine CW.gG rfl ?_)|(refine Wk (cF _) ?_;intro v w1 ah hv;subst hv;obtain ⟨hw,ao,ap,bF⟩:=dJ ah hw ao ap bF;clear ah))
   refine Wg ap (fU .zero) fun w5 cK hg => ?_
   have hw:=hw.own cQ hg;refine Wz ?_;exact ae.dj rfl rfl rfl cK rfl ⟨_,rfl,hw,.zero,rfl,iS.zero _ _⟩
def eX (l:List Region) (p:Int) : Bool:=l.any fun r=>decide (r.aT<=p) && decide (p<r.aT+r.ay)
def bump:List Region->List Region
 | []=>[]
 | [r]=>[⟨r.aT,r.ay+1⟩]
 | x::y::l=>x::bump (y::l)
def runs (p:Nat->Bool) : Nat->List Region
 | 0=>[]
 | i+1=>if p i then (if 0<i∧p (i-1)=true then bump (runs p i) else runs p i++[⟨(i:Int),1⟩]) else runs p i
def pj:∀ (l:List Region) (r:Region),bump (l++[r])=l++[⟨r.aT,r.ay+1⟩]
 | [],_=>rfl
 | [x],_=>rfl
 | x::y::l,r=>by
   have ih:=pj (y::l) r;simp only [List.cons_append,bump] at ih ⊢;rw [ih]
structure RK (p:Nat->Bool) (k:Nat) (l:List Region) : Prop where
 Qz:∀ r∈l,0<=r.aT∧1<=r.ay∧r.aT+r.ay<=(k:Int)
 len:l.length<=k
 last : 0<k->p (k-1)=true -> ∃ init r,l=init++[r]∧r.aT+r.ay=(k:Int)
 below:(0<k->p (k-1)=false) -> ∀ r∈l,r.aT+r.ay<(k:Int)
 sep:l.Pairwise fun a b=>a.aT+a.ay<b.aT
 iff:∀ i:Nat,i<k->(p i=true ↔ ∃ r∈l,r.aT<=(i:Int)∧(i:Int)<r.aT+r.ay)
def vt (p:Nat->Bool) : ∀ k,RK p k (runs p k)
 | 0=>⟨by simp [runs],by simp [runs],by simp,by simp [runs],by simp [runs],by simp⟩
 | k+1=>by
   have ih:=vt p k;simp only [runs];by_cases hp:p k=true
   ·rw [if_pos hp];by_cases hq : 0<k∧p (k-1)=true
    ·rw [if_pos hq];obtain ⟨init,r,hl,hr⟩:=ih.last hq.1 hq.2;rw [hl,pj];have RL:=ih.Qz;have hlen:=ih.len;have E4:=ih.sep;have MB:=ih.iff;rw [hl] at RL hlen E4 MB;have hr0:=RL r (by simp);refine ⟨?_,?_,?_,?_,?_,?_⟩
     ·intro x hx;simp only [List.mem_append,List.mem_singleton] at hx;rcases hx with hx|rfl
      ·have:=RL x (by simp [hx]);omega
      ·simp only;omega
     ·simp only [List.length_append,List.length_singleton] at hlen ⊢;omega
     ·intro _ _;exact ⟨init,_,rfl,by simp only;omega⟩
     ·intro h;simp at h;rw [h] at hp;cases hp
     ·rw [aeT] at E4 ⊢;refine ⟨E4.1,by simp,fun a ha b hb => ?_⟩;simp only [List.mem_singleton] at hb;subst hb;exact E4.2.2 a ha r (by simp)
     ·intro i hi;by_cases EX:i=k
      ·subst EX;simp only [hp,true_iff];exact ⟨⟨r.aT,r.ay+1⟩,by simp,by simp only;omega,by simp only;omega⟩
      ·rw [MB i (by omega)];constructor
       ·rintro ⟨x,hx,h1,h2⟩
        simp only [List.mem_append,List.mem_singleton] at hx;rcases hx with hx|rfl
        ·exact ⟨x,by simp [hx],h1,h2⟩
        ·exact ⟨⟨x.aT,x.ay+1⟩,by simp,h1,by simp only;omega⟩
       ·rintro ⟨x,hx,h1,h2⟩
        simp only [List.mem_append,List.mem_singleton] at hx;rcases hx with hx|rfl
        ·exact ⟨x,by simp [hx],h1,h2⟩
        ·simp only at h1 h2;exact ⟨r,by simp,h1,by omega⟩
    ·rw [if_neg hq]
     have hb:∀ r∈runs p k,r.aT+r.ay<(k:Int):=ih.below (fun h0=>by
      cases hh:p (k-1) with
      | false=>rfl
      | true=>exact absurd ⟨h0,hh⟩ hq)
     refine ⟨?_,?_,?_,?_,?_,?_⟩
     ·intro x hx;simp only [List.mem_append,List.mem_singleton] at hx;rcases hx with hx|rfl
      ·have:=ih.Qz x hx;omega
      ·simp only;omega
     ·have:=ih.len
      simp only [List.length_append,List.length_singleton];omega
     ·intro _ _;exact ⟨runs p k,_,rfl,by simp only;omega⟩
     ·intro h;simp at h;rw [h] at hp;cases hp
     ·rw [aeT];refine ⟨ih.sep,by simp,fun a ha b iL => ?_⟩;simp only [List.mem_singleton] at iL;subst iL;exact hb a ha
     ·intro i hi;by_cases EX:i=k
      ·subst EX;simp only [hp,true_iff];exact ⟨⟨(i:Int),1⟩,by simp,by simp only;omega,by simp only;omega⟩
      ·rw [ih.iff i (by omega)];constructor
       ·rintro ⟨x,hx,h1,h2⟩
        exact ⟨x,by simp [hx],h1,h2⟩
       ·rintro ⟨x,hx,h1,h2⟩
        simp only [List.mem_append,List.mem_singleton] at hx;rcases hx with hx|rfl
        ·exact ⟨x,hx,h1,h2⟩
        ·simp only at h1 h2;omega
   ·rw [if_neg hp];have Hj:p k=false:=by simpa using hp
    refine ⟨?_,?_,?_,?_,ih.sep,?_⟩
    ·intro x hx;have:=ih.Qz x hx;omega
    ·have:=ih.len;omega
    ·intro _ h;simp at h;rw [h] at Hj;cases Hj
    ·intro _ x hx;have:=ih.Qz x hx;omega
    ·intro i hi;by_cases EX:i=k
     ·subst EX;simp only [Hj,Bool.false_eq_true,false_iff];rintro ⟨x,hx,h1,h2⟩
      have:=ih.Qz x hx;omega
     ·exact ih.iff i (by omega)
def marksOf (p:Nat->Bool) (k:Nat) : List Bool:=(List.range k).map p
def E5 (p:Nat->Bool) (k:Nat) : (marksOf p k).length=k:=by simp [marksOf]
def m8 (p:Nat->Bool) (k i:Nat) (h:i<(marksOf p k).length) : (marksOf p k)[i]=p i:=by simp [marksOf]
def sA (p:Nat->Bool) (k i:Nat) (b:Bool) : (marksOf p k).set i b=marksOf (fun j=>if j=i then b else p j) k:=by
 apply afj (by simp [marksOf]);intro j h1 h2;rw [aeP];by_cases h:i=j
 ·subst h;simp [marksOf]
 ·have : ¬ j=i:=fun e=>h e.symm
  simp [marksOf,h,this]
def iP {p q:Nat->Bool} (h:∀ i,i<k->p i=q i) : marksOf p k=marksOf q k:=by
 apply afj (by simp [marksOf]);intro j h1 h2;simp only [m8];exact h j (by simpa [marksOf] using h1)
variable {bs:List Block}
def qP (b:Block) (i:Nat) : Bool:=decide (b.At<=(i:Int)) && decide ((i:Int)<b.At+pw b.Order)
def eI (bs:List Block) (i:Nat) : Bool:=bs.any fun b=>qP b i
def xH (bs:List Block) (b:Block) : Prop:=0<=b.At∧b.At+pw b.Order<=256∧kz bs b.At b.Order=false
instance (bs:List Block) (b:Block) : Decidable (xH bs b):=inferInstanceAs (Decidable (_∧_))
def mq (s:Option (List Block)) (b:Block) : Option (List Block):=match s with
 | none=>none
 | some bs=>if xH bs b then some (bs++[b]) else none
def bB (s:Option (List Block)) (l:List Block) : Option (List Block):=l.foldl mq s
def jn:∀ l,bB none l=none
 | []=>rfl
 | b::l=>jn l
def dx (s:Option (List Block)) (l m:List Block) : bB s (l++m)=bB (bB s l) m:=agv
def xI (s:Option (List Block)) (l:List Block) (k:Nat) (h:k<l.length) : bB s (l.take (k+1))=mq (bB s (l.take k)) l[k]:=by
 rw [aeA h,dx];rfl
def qg {s:Option (List Block)} {b:Block} (h:mq s b=some bs) : ∃ cs,s=some cs∧xH cs b∧bs=cs++[b]:=by
 cases s with
 | none=>simp [mq] at h
 | some cs =>
   simp only [mq] at h;split at h
   ·rename_i hf;injection h with h;exact ⟨cs,rfl,hf,h.symm⟩
   ·cases h
def RM (p:Nat->Bool) (a n:Int) : Prop:=0<=a∧a<256∧n<=256-a ∧ ∀ i:Nat,a<=(i:Int)->(i:Int)<a+n->p i=false
def BS (p:Nat->Bool) (a n:Int) (i:Nat) : Bool:=p i || (decide (a<=(i:Int)) && decide ((i:Int)<a+n))
def tr (hb:∀ b∈bs,0<=b.At∧1<=pw b.Order) {b:Block} (h1 : 1<=pw b.Order) : RM (eI bs) b.At (pw b.Order)↔xH bs b:=by
 constructor
 ·rintro ⟨h2,h3,h4,h5⟩
  refine ⟨h2,by omega,?_⟩;unfold kz;rw [aeS];intro x hx hh;simp only [Bool.and_eq_true,decide_eq_true_eq] at hh;obtain ⟨k1,k2⟩:=hh;obtain ⟨q1,q2⟩:=hb x hx;have h6:=h5 (max x.At b.At).toNat (by omega) (by omega);unfold eI at h6;rw [aeS] at h6;apply h6 x hx;simp only [qP,Bool.and_eq_true,decide_eq_true_eq];omega
 ·rintro ⟨h2,h3,h4⟩
  refine ⟨h2,by omega,by omega,fun i k1 k2 => ?_⟩;unfold eI;rw [aeS];intro x hx hh;simp only [qP,Bool.and_eq_true,decide_eq_true_eq] at hh;unfold kz at h4;rw [aeS] at h4;apply h4 x hx;simp only [Bool.and_eq_true,decide_eq_true_eq];omega
def MC (bs:List Block) (b:Block) (i:Nat) : BS (eI bs) b.At (pw b.Order) i=eI (bs++[b]) i:=by
 simp [BS,eI,qP]
def sB (s:Option (List Block)) : Prop := ∀ bs,s=some bs -> ∀ x∈bs,0<=x.At∧1<=pw x.Order
def Cs:sB (some []):=fun bs h x hx=>by cases h;simp at hx
def J9 {s:Option (List Block)} {b:Block} (h:sB s) (hb : 1<=pw b.Order) : sB (mq s b):=fun bs Tv x hx=>by
 obtain ⟨cs,rfl,hf,rfl⟩:=qg Tv;rcases aeC.1 hx with hx|hx
 ·exact h cs rfl x hx
 ·simp at hx;subst hx;exact ⟨hf.1,hb⟩
def lx {s:Option (List Block)}:∀ {l:List Block},sB s->(∀ b∈l,1<=pw b.Order)->sB (bB s l)
 | [],h,_=>h
 | b::l,h,hb=>lx (l:=l) (J9 h (hb b (by simp))) (fun x hx=>hb x (by simp [hx]))
def ct (p:Int) : Block:=⟨p,0,0⟩
def a9 (l:List aS) : List Block:=l.flatMap fun x=>x.av.map ct
def jv:pw 0=1:=by decide
def dg (a b:aS) : Prop:=a.gl<b.gl∨(a.gl=b.gl∧(a.aj<b.aj∨(a.aj=b.aj∧a.Ty<b.Ty)))
instance (a b:aS) : Decidable (dg a b):=inferInstanceAs (Decidable (_∨_))
def lL (cpus:Int) (l:aS) : Prop:=(0<=l.gl∧l.gl<cpus)∧(0<=l.aj∧l.aj<=1)∧(0<=l.Ty∧l.Ty<=2)∧(1<=l.av.length∧l.av.length<=8)
instance (c:Int) (l:aS) : Decidable (lL c l):=inferInstanceAs (Decidable (_∧_))
structure nM (cpus to:Int) (ls:List aS) : Prop where
 head:∀ (i:Nat) (h:i<ls.length),lL cpus ls[i]
 next:∀ (i:Nat) (h:i+1<ls.length),dg ls[i] ls[i+1]
 kE:∀ (i:Nat) (h:i<ls.length),∀ p∈(ls[i]).av,(p<to↔(ls[i]).aj=0)
def wG (b:Block) : Prop:=(0<=b.Order∧b.Order<=4)∧(0<=b.At∧b.At<=255)∧b.At % pw b.Order=0∧lf b.Ty
structure gf (l:List Block) : Prop where
 each:∀ (i:Nat) (h:i<l.length),wG l[i]
 next:∀ (i:Nat) (h:i+1<l.length),l[i].At<l[i+1].At
structure bK (h:Heap) : Prop where
 cq:∃ z0 z1,h.bl=[z0,z1]∧bW z0∧bW z1∧z0.aT=0∧z0.To=z1.aT∧z1.To=256∧nM h.bJ z0.To h.au∧(bB (some []) (z0.ai++z1.ai++a9 h.au++h.Live)).isSome=true
 eQ:∃ m0 m1,h.dP=[m0,m1]∧(0<=m0∧m0<=256)∧(0<=m1∧m1<=256)
 cpus : 1<=h.bJ∧h.bJ<=4
 live:gf h.Live
noncomputable def jo (h:Heap) : Bool := @decide (bK h) (Classical.propDecidable _)
def DP {h:Heap} (a:bK h) : jo h=true:=by unfold jo;exact @decide_eq_true _ (Classical.propDecidable _) a
def nN {h:Heap} (a : ¬ bK h) : jo h=false:=by unfold jo;exact @decide_eq_false _ (Classical.propDecidable _) a
def bT {h:Heap}:jo h=true↔bK h:=by
 by_cases a:bK h
 ·simp [DP a,a]
 ·simp [nN a,a]
def sC (l:List aS) (k:Nat) (h:k<l.length) : a9 (l.take (k+1))=a9 (l.take k)++l[k].av.map ct:=by
 unfold a9;rw [aeA h,aeM];simp
def kc {s:Option (List Block)} {m:List Block} (h:(bB s (l++m)).isSome=true) : (bB s l).isSome=true:=by
 rw [dx] at h;cases e:bB s l with
 | none=>rw [e,jn] at h;cases h
 | some x=>rfl
variable {ad:Addr} {R:Ending->World->Prop} {N:Nat}
section
variable {P:Program} {L:Env} {w:World} {d:Option Nat} {T:TypeId} {pos:String} {af:Array Edge} {g:Option (Nat×Bool)}
def sD {len:Nat} [c:zu P t len e sz] {x:Operand} {i:Int} (k:Nat) (hx:cy L x=some (.pointer (some ad))) (hy:cy L y=some (.int .i64 i)) (hi:i=(k:Int)) (hk:k<len) :
 St P ⟨d,.indexAddr t x y,T,pos,af,g⟩ L w (.pointer (some (ad.add (k*sz)))) :=
 ⟨fun _ a ha w' _=>by
  subst hi;have e1:=ha.eval hx;have e2:=ha.eval hy;generalize a.eval = ρ at *
  simp [execOp,e1,e2,Instr.indexAt,Instr.sureAddr,asIntOf,run_underlying c.ot,run_sizeOf c.size,hk]⟩
end
def ae.RN {n:Nat} {L:Env} (hr:fn.results = #[]) (h:R (.returned (.tuple #[])) w) : ae n (bodyPost P fn R) .ret L w :=
 ⟨fun a ha=>⟨ha.defers,_,by simpa using mY.results (rs:=[]) hr .nil ha,h⟩⟩
def ae.qi {n:Nat} {L:Env} (hr:fn.results = #[]) (h:R (.returned (.tuple #[])) w) : ae n (bodyPost P fn R) .normal L w :=
 ⟨fun a ha=>⟨ha.defers,_,by simpa using mY.results (rs:=[]) hr .nil ha,h⟩⟩
def jd (p:Nat->Bool) (N:Nat) (bad:Bool) : List Value:=(marksOf p N).map Value.bool++[.bool bad]
def uE (p:Nat->Bool) (N:Nat) (bad:Bool) : (jd p N bad).length=N+1:=by simp [jd,marksOf]
def zS (p:Nat->Bool) (N:Nat) (bad:Bool) : (jd p N bad)[N]?=some (.bool bad):=by
 unfold jd;rw [afd (by simp [marksOf])];simp [marksOf]
def Ka (p:Nat->Bool) (N:Nat) (bad:Bool) (h:i<N) : (jd p N bad)[i]?=some (.bool (p i)):=by
 unfold jd;rw [ae8 (by simp [marksOf];omega)];simp [marksOf,h]
def uf (p:Nat->Bool) (N:Nat) (bad b:Bool) : (jd p N bad).set N (.bool b)=jd p N b:=by
 unfold jd;rw [afu _ _ (by simp [marksOf])];simp [marksOf]
def Hk (p:Nat->Bool) (N:Nat) (bad:Bool) (h:i<N) : (jd p N bad).set i (.bool true)=jd (fun j=>if j=i then true else p j) N bad:=by
 unfold jd;rw [List.set_append_left _ _ (by simp [marksOf];omega),<- sA,afR]
def ra {p q:Nat->Bool} {bad:Bool} (h:∀ i,i<N->p i=q i) : jd p N bad=jd q N bad:=by
 unfold jd;rw [iP h]
set_option maxHeartbeats 4000000 in
def E6 (b:Nat) (p:Nat->Bool) (bad:Bool) (N:Nat) (hN:N=256) (a n:Int) (w:World) (hB:aR w b 187 (jd p N bad)) (hn : 0<=n∧n<=16) :
 iO prog 102 [.pointer (some ⟨b,0,none⟩),.int .i64 a,.int .i64 n] w fun v w' => ∃ p' Kb,aR w' b 187 (jd p' N Kb)∧w.grownBy w' (some b)∧((RM p a n∧Kb=bad∧p'=BS p a n)∨(¬ RM p a n∧Kb=true)):=by
 refine dc func102 rfl ntmps102 rfl ?_;have E1:w.grownBy w (some b):=World.grownBy.refl _ _
 have hw:=Ext.refl w;by_cases cx : 0<=a∧a<256∧n<=256-a
 ·obtain ⟨h1,h2,h3⟩:=id cx;obtain ⟨k,rfl⟩:=aeE h1;obtain ⟨m,rfl⟩:=aeE hn.1;refine Wz ?_;clear hw
  refine CW.loop (fun j:Nat=>[(0,.pointer (some ⟨b,0,none⟩)),(1,.int .i64 (k:Int)),(2,.int .i64 (m:Int)),(6,.int .i64 ((k+j:Nat) : Int))])
   (fun j w'=>j<=m∧aR w' b 187 (jd (BS p k (j:Int)) N bad)∧w.grownBy w' (some b) ∧ ∀ i:Nat,k<=i->i<k+j->p i=false) (fun j=>m-j) 0
   ⟨rfl,rfl,rfl,rfl,trivial⟩ ⟨by omega,by rwa [ra (q:=p) (fun i _=>by simp [BS]<;>omega)],E1,fun i h1 h2=>by omega⟩ ?_
  clear hB E1;rintro j w' ⟨hj,hB,hg,hI⟩
  have hw:=Ext.refl w';by_cases Zb:j<m
  ·have e8:k+j<N:=by omega
   have hc:=hB.cell (Ka _ N bad e8);have hv:BS p k (j:Int) (k+j)=p (k+j):=by simp [BS]
   rw [hv] at hc;have iq:w'.cell? (((⟨b,0,none⟩ : Addr).add 0).add ((k+j)*1))=some (.bool (p (k+j))):=by rw [add_add];simpa using hc
   cases hp:p (k+j)
   ·rw [hp] at iq;repeat' (first|refine Wz ?_|refine Wl (iq) ?_|(refine SW.st (sD (k+j) rfl rfl rfl (by omega)) rfl ?_))
    have WV:(⟨b,0,none⟩ : Addr).add (k+j)=((⟨b,0,none⟩ : Addr).add 0).add ((k+j)*1):=by rw [add_add];simp
    refine SW.su (i:=k+j) hB (by rw [WV];rfl) rfl rfl (by rw [uE];simp;omega) fun w3 wA L9 => ?_
    rw [Hk _ _ _ e8,ra (q:=BS p k ((j+1:Nat) : Int)) (fun i _=>by
     by_cases e:i=k+j
     ·subst e;simp [BS];omega
     ·simp only [e,if_false,BS];congr 1
      by_cases e1:i<k+j
      ·rw [decide_eq_true (show (i:Int)<(k:Int)+(j:Int) by omega),decide_eq_true (show (i:Int)<(k:Int)+((j+1:Nat) : Int) by omega)]
      ·rw [decide_eq_false (show ¬ (i:Int)<(k:Int)+(j:Int) by omega),decide_eq_false (show ¬ (i:Int)<(k:Int)+((j+1:Nat) : Int) by omega)])] at wA
    have xG:=bC hg L9 (.inl rfl);clear hw;have hw:=Ext.refl w3;refine Wz ?_;refine ae.again (j+1) ⟨rfl,rfl,rfl,rfl,trivial⟩ (by omega) ⟨by omega,wA,xG,fun i h1 h2 => ?_⟩;by_cases e:i=k+j
    ·subst e;exact hp
    ·exact hI i h1 (by omega)
   ·rw [hp] at iq;repeat' (first|refine Wz ?_|refine Wl (iq) ?_|(refine SW.st (sD (k+j) rfl rfl rfl (by omega)) rfl ?_))
    subst hN;refine SW.su (i:=256) hB rfl rfl rfl (by rw [uE];rfl) fun w3 wA L9 => ?_
    rw [uf] at wA;clear hw;have hw:=Ext.refl w3;refine Wz ?_;exact ae.RN rfl ⟨_,rfl,_,true,wA,bC hg L9 (.inl rfl),.inr ⟨(fun h=>by have:=h.2.2.2 (k+j) (by omega) (by omega);rw [hp] at this;cases this),rfl⟩⟩
  ·obtain rfl:j=m:=by omega
   refine Wz ?_;exact ae.qi rfl ⟨_,rfl,_,bad,hB,hg,.inl ⟨⟨h1,h2,h3,fun i h4 h5=>hI i (by omega) (by omega)⟩,rfl,rfl⟩⟩
 ·have ov : ¬ RM p a n:=fun h=>cx ⟨h.1,h.2.1,h.2.2.1⟩
  subst hN;repeat' (first|refine Wz ?_|refine SW.gp rfl rfl rfl (fun h => ?_) (fun h => ?_))
  all_goals
   first
    | (exfalso;omega)
    | (refine SW.su (i:=256) hB rfl rfl rfl (by rw [uE];rfl) fun w3 wA L9 => ?_
       rw [uf] at wA;clear hw;have hw:=Ext.refl w3;refine Wz ?_;exact ae.RN rfl ⟨_,rfl,_,true,wA,L9,.inr ⟨ov,rfl⟩⟩)
end Go.Proofs.YtenhkiaaebnggaaGreatDoor
