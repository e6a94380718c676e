/- Part 1 of what topApart_holds leans on. -/
import Derived.Test.YtohigmjjbgpfmaaGreatDoorPackTopApart0
import Derived.Test.YtohigmjjbgpfmaaGreatDoorChecked
import Derived.Lib.AppendZerosOnto
import Derived.Lib.Overlaps
import Derived.Room.Entries
set_option linter.unusedVariables false
set_option linter.unusedSimpArgs false
set_option linter.defProp false
open Go.Proofs.Tryz
namespace Go.Proofs.YtohigmjjbgpfmaaGreatDoor
instance:gV prog 3 := {}
instance:dr prog 3 (.int .i64 0) 1 8 := {}
instance:gV prog 4 := {}
instance:dr prog 4 (.bool false) 1 1 := {}
instance:gV prog 5 := {}
instance:gV prog 9 := {}
instance:dr prog 9 (.string ByteArray.empty) 1 16 := {}
instance:bz prog 22 88 4 := {}
instance:gV prog 25 := {}
instance:bz prog 25 82 2 := {}
instance:fE prog 27 2 := {}
instance:ig prog 27 [(0,1),(1,1)] [.slice none 0 0,.slice none 0 0] := {}
instance:bo prog 27 0 0 25 := {}
instance:bo prog 27 1 1 25 := {}
instance:dr prog 29 (.agg #[.slice none 0 0,.slice none 0 0,.int .i64 0,.int .i64 0,.int .i64 0]) 5 72 := {}
instance:fE prog 29 5 := {}
instance:ig prog 29 [(0,2),(2,1),(3,1),(4,1)] [.slice none 0 0,.slice none 0 0,.int .i64 0,.int .i64 0,.int .i64 0] := {}
instance:bo prog 29 0 0 27 := {}
instance:bo prog 29 1 2 3 := {}
instance:bo prog 29 2 3 3 := {}
instance:bo prog 29 3 4 3 := {}
instance:gV prog 32 := {}
instance:bz prog 32 35 7 := {}
instance:dr prog 35 (.agg #[.int .i64 0,.int .i64 0,.int .i64 0,.int .i64 0,.int .i64 0,.int .i64 0,.string ByteArray.empty]) 7 64 := {}
instance:fE prog 35 7 := {}
instance:ig prog 35 [(0,1),(1,1),(2,1),(3,1),(4,1),(5,1),(6,1)] [.int .i64 0,.int .i64 0,.int .i64 0,.int .i64 0,.int .i64 0,.int .i64 0,.string ByteArray.empty] := {}
instance:bo prog 35 0 0 3 := {}
instance:bo prog 35 1 1 3 := {}
instance:bo prog 35 2 2 3 := {}
instance:bo prog 35 3 3 3 := {}
instance:bo prog 35 4 4 3 := {}
instance:bo prog 35 5 5 3 := {}
instance:bo prog 35 6 6 9 := {}
instance:gV prog 36 := {}
instance:bz prog 36 3 1 := {}
instance:gV prog 37 := {}
instance:bz prog 37 117 4 := {}
instance:gV prog 38 := {}
instance:bz prog 38 159 4 := {}
instance:gV prog 39 := {}
instance:bz prog 39 147 3 := {}
instance:dr prog 41 (.agg #[.slice none 0 0,.slice none 0 0,.int .i64 0,.slice none 0 0,.slice none 0 0]) 5 104 := {}
instance:fE prog 41 5 := {}
instance:ig prog 41 [(0,1),(1,1),(2,1),(3,1),(4,1)] [.slice none 0 0,.slice none 0 0,.int .i64 0,.slice none 0 0,.slice none 0 0] := {}
instance:bo prog 41 0 0 37 := {}
instance:bo prog 41 1 1 36 := {}
instance:bo prog 41 2 2 3 := {}
instance:bo prog 41 3 3 38 := {}
instance:bo prog 41 4 4 39 := {}
instance:gV prog 42 := {}
instance:bz prog 42 107 6 := {}
instance:dr prog 44 (.agg #[.slice none 0 0,.slice none 0 0,.slice none 0 0,.int .i64 0,.slice none 0 0,.slice none 0 0,.slice none 0 0]) 7 152 := {}
instance:fE prog 44 7 := {}
instance:ig prog 44 [(0,1),(1,5),(6,1)] [.slice none 0 0,.slice none 0 0,.slice none 0 0,.int .i64 0,.slice none 0 0,.slice none 0 0,.slice none 0 0] := {}
instance:bo prog 44 0 0 36 := {}
instance:bo prog 44 1 1 41 := {}
instance:bo prog 44 2 6 42 := {}
instance:gV prog 45 := {}
instance:bz prog 45 55 3 := {}
instance:gV prog 46 := {}
instance:bz prog 46 50 6 := {}
instance:ig prog 48 [(0,7),(7,1),(8,1),(9,1)] [.slice none 0 0,.slice none 0 0,.slice none 0 0,.int .i64 0,.slice none 0 0,.slice none 0 0,.slice none 0 0,.slice none 0 0,.slice none 0 0,.slice none 0 0] := {}
instance:bo prog 48 0 0 44 := {}
instance:bo prog 48 1 7 32 := {}
instance:bo prog 48 2 8 45 := {}
instance:bo prog 48 3 9 46 := {}
instance:dr prog 50 (.agg #[.int .i64 0,.int .i64 0,.int .i64 0,.string ByteArray.empty,.int .i64 0,.bool false]) 6 56 := {}
instance:fE prog 50 6 := {}
instance:ig prog 50 [(0,1),(1,1),(2,1),(3,1),(4,1),(5,1)] [.int .i64 0,.int .i64 0,.int .i64 0,.string ByteArray.empty,.int .i64 0,.bool false] := {}
instance:bo prog 50 0 0 3 := {}
instance:bo prog 50 1 1 3 := {}
instance:bo prog 50 2 2 3 := {}
instance:bo prog 50 3 3 9 := {}
instance:bo prog 50 4 4 3 := {}
instance:bo prog 50 5 5 4 := {}
instance:gV prog 51 := {}
instance:dr prog 55 (.agg #[.int .i64 0,.int .i64 0,.slice none 0 0]) 3 40 := {}
instance:fE prog 55 3 := {}
instance:ig prog 55 [(0,1),(1,1),(2,1)] [.int .i64 0,.int .i64 0,.slice none 0 0] := {}
instance:bo prog 55 0 0 51 := {}
instance:bo prog 55 1 1 3 := {}
instance:bo prog 55 2 2 36 := {}
instance:bz prog 66 84 8 := {}
instance:y4 prog 78 6 3 1 := {}
instance:fE prog 78 6 := {}
instance:dr prog 82 (.agg #[.int .i64 0,.int .i64 0]) 2 16 := {}
instance:fE prog 82 2 := {}
instance:ig prog 82 [(0,1),(1,1)] [.int .i64 0,.int .i64 0] := {}
instance:bo prog 82 0 0 3 := {}
instance:bo prog 82 1 1 3 := {}
instance:dr prog 84 (.agg #[.int .i64 0,.int .i64 0,.int .i64 0,.int .i64 0,.int .i64 0,.int .i64 0,.string ByteArray.empty,.int .i64 0]) 8 72 := {}
instance:fE prog 84 8 := {}
instance:ig prog 84 [(0,7),(7,1)] [.int .i64 0,.int .i64 0,.int .i64 0,.int .i64 0,.int .i64 0,.int .i64 0,.string ByteArray.empty,.int .i64 0] := {}
instance:bo prog 84 0 0 35 := {}
instance:bo prog 84 1 7 3 := {}
instance:dr prog 88 (.agg #[.int .i64 0,.int .i64 0,.int .i64 0,.int .i64 0]) 4 32 := {}
instance:fE prog 88 4 := {}
instance:bo prog 88 0 0 3 := {}
instance:bo prog 88 1 1 3 := {}
instance:bo prog 88 2 2 3 := {}
instance:bo prog 88 3 3 3 := {}
instance:gV prog 89 := {}
instance:bz prog 89 9 1 := {}
instance:gV prog 105 := {}
instance:bz prog 105 111 3 := {}
instance:dr prog 107 (.agg #[.slice none 0 0,.int .i64 0,.int .i64 0,.int .i64 0,.slice none 0 0,.slice none 0 0]) 6 96 := {}
instance:fE prog 107 6 := {}
instance:ig prog 107 [(0,1),(1,1),(2,1),(3,1),(4,1),(5,1)] [.slice none 0 0,.int .i64 0,.int .i64 0,.int .i64 0,.slice none 0 0,.slice none 0 0] := {}
instance:bo prog 107 0 0 89 := {}
instance:bo prog 107 1 1 3 := {}
instance:bo prog 107 2 2 3 := {}
instance:bo prog 107 3 3 3 := {}
instance:bo prog 107 4 4 105 := {}
instance:bo prog 107 5 5 36 := {}
instance:dr prog 111 (.agg #[.int .i64 0,.int .i64 0,.int .i64 0]) 3 24 := {}
instance:fE prog 111 3 := {}
instance:ig prog 111 [(0,1),(1,1),(2,1)] [.int .i64 0,.int .i64 0,.int .i64 0] := {}
instance:bo prog 111 0 0 3 := {}
instance:bo prog 111 1 1 3 := {}
instance:bo prog 111 2 2 3 := {}
instance:bz prog 113 4 1 := {}
instance:dr prog 117 (.agg #[.int .i64 0,.int .i64 0,.slice none 0 0,.slice none 0 0]) 4 64 := {}
instance:fE prog 117 4 := {}
instance:ig prog 117 [(0,1),(1,1),(2,1),(3,1)] [.int .i64 0,.int .i64 0,.slice none 0 0,.slice none 0 0] := {}
instance:bo prog 117 0 0 3 := {}
instance:bo prog 117 1 1 3 := {}
instance:bo prog 117 2 2 39 := {}
instance:bo prog 117 3 3 36 := {}
instance:gV prog 127 := {}
instance:dr prog 127 (.pointer none) 1 8 := {}
instance:dr prog 147 (.agg #[.int .i64 0,.int .i64 0,.int .i64 0]) 3 24 := {}
instance:fE prog 147 3 := {}
instance:ig prog 147 [(0,1),(1,1),(2,1)] [.int .i64 0,.int .i64 0,.int .i64 0] := {}
instance:bo prog 147 0 0 3 := {}
instance:bo prog 147 1 1 3 := {}
instance:bo prog 147 2 2 3 := {}
instance:dr prog 159 (.agg #[.int .i64 0,.int .i64 0,.int .i64 0,.slice none 0 0]) 4 48 := {}
instance:fE prog 159 4 := {}
instance:ig prog 159 [(0,1),(1,1),(2,1),(3,1)] [.int .i64 0,.int .i64 0,.int .i64 0,.slice none 0 0] := {}
instance:bo prog 159 0 0 3 := {}
instance:bo prog 159 1 1 3 := {}
instance:bo prog 159 2 2 3 := {}
instance:bo prog 159 3 3 36 := {}
instance:bz prog 168 5 1 := {}
instance:y4 prog 189 256 4 1 := {}
instance:ig prog 191 [(0,256),(256,1)] [.bool false,.bool false,.bool false,.bool false,.bool false,.bool false,.bool false,.bool false,.bool false,.bool false,.bool false,.bool false,.bool false,.bool false,.bool false,.bool false,.bool false,.bool false,.bool false,.bool false,.bool false,.bool false,.bool false,.bool false,.bool false,.bool false,.bool false,.bool false,.bool false,.bool false,.bool false,.bool false,.bool false,.bool false,.bool false,.bool false,.bool false,.bool false,.bool false,.bool false,.bool false,.bool false,.bool false,.bool false,.bool false,.bool false,.bool false,.bool false,.bool false,.bool false,.bool false,.bool false,.bool false,.bool false,.bool false,.bool false,.bool false,.bool false,.bool false,.bool false,.bool false,.bool false,.bool false,.bool false,.bool false,.bool false,.bool false,.bool false,.bool false,.bool false,.bool false,.bool false,.bool false,.bool false,.bool false,.bool false,.bool false,.bool false,.bool false,.bool false,.bool false,.bool false,.bool false,.bool false,.bool false,.bool false,.bool false,.bool false,.bool false,.bool false,.bool false,.bool false,.bool false,.bool false,.bool false,.bool false,.bool false,.bool false,.bool false,.bool false,.bool false,.bool false,.bool false,.bool false,.bool false,.bool false,.bool false,.bool false,.bool false,.bool false,.bool false,.bool false,.bool false,.bool false,.bool false,.bool false,.bool false,.bool false,.bool false,.bool false,.bool false,.bool false,.bool false,.bool false,.bool false,.bool false,.bool false,.bool false,.bool false,.bool false,.bool false,.bool false,.bool false,.bool false,.bool false,.bool false,.bool false,.bool false,.bool false,.bool false,.bool false,.bool false,.bool false,.bool false,.bool false,.bool false,.bool false,.bool false,.bool false,.bool false,.bool false,.bool false,.bool false,.bool false,.bool false,.bool false,.bool false,.bool false,.bool false,.bool false,.bool false,.bool false,.bool false,.bool false,.bool false,.bool false,.bool false,.bool false,.bool false,.bool false,.bool false,.bool false,.bool false,.bool false,.bool false,.bool false,.bool false,.bool false,.bool false,.bool false,.bool false,.bool false,.bool false,.bool false,.bool false,.bool false,.bool false,.bool false,.bool false,.bool false,.bool false,.bool false,.bool false,.bool false,.bool false,.bool false,.bool false,.bool false,.bool false,.bool false,.bool false,.bool false,.bool false,.bool false,.bool false,.bool false,.bool false,.bool false,.bool false,.bool false,.bool false,.bool false,.bool false,.bool false,.bool false,.bool false,.bool false,.bool false,.bool false,.bool false,.bool false,.bool false,.bool false,.bool false,.bool false,.bool false,.bool false,.bool false,.bool false,.bool false,.bool false,.bool false,.bool false,.bool false,.bool false,.bool false,.bool false,.bool false,.bool false,.bool false,.bool false,.bool false,.bool false,.bool false,.bool false,.bool false,.bool false,.bool false,.bool false,.bool false,.bool false,.bool false,.bool false,.bool false,.bool false,.bool false,.bool false] := {}
instance:bo prog 191 0 0 189 := {}
instance:bo prog 191 1 256 4 := {}
instance:y4 prog 239 2 3 1 := {}
instance:fE prog 239 2 := {}
instance:y4 prog 240 3 239 2 := {}
instance:Body prog 5:=ay func5
instance:Body prog 6:=ay func6
instance:Body prog 7:=ay func7
instance:Body prog 8:=ay func8
instance:Body prog 9:=ay func9
instance:Body prog 10:=ay func10
instance:Body prog 11:=ay func11
instance:Body prog 12:=ay func12
instance:Body prog 13:=ay func13
instance:Body prog 14:=ay func14
instance:Body prog 15:=ay func15
instance:Body prog 16:=ay func16
instance:Body prog 17:=ay func17
instance:Body prog 18:=ay func18
instance:Body prog 19:=ay func19
instance:Body prog 20:=ay func20
instance:Body prog 21:=ay func21
instance:Body prog 22:=ay func22
instance:Body prog 23:=ay func23
instance:Body prog 24:=ay func24
instance:Body prog 25:=ay func25
instance:Body prog 26:=ay func26
instance:Body prog 27:=ay func27
instance:Body prog 28:=ay func28
instance:Body prog 29:=ay func29
instance:Body prog 30:=ay func30
instance:Body prog 31:=ay func31
instance:Body prog 32:=ay func32
instance:Body prog 33:=ay func33
instance:Body prog 34:=ay func34
instance:Body prog 35:=ay func35
instance:Body prog 36:=ay func36
instance:Body prog 37:=ay func37
instance:Body prog 38:=ay func38
instance:Body prog 39:=ay func39
instance:Body prog 40:=ay func40
instance:Body prog 41:=ay func41
instance:Body prog 42:=ay func42
instance:Body prog 43:=ay func43
instance:Body prog 44:=ay func44
instance:Body prog 45:=ay func45
instance:Body prog 46:=ay func46
instance:Body prog 47:=ay func47
instance:Body prog 48:=ay func48
instance:Body prog 49:=ay func49
instance:Body prog 50:=ay func50
instance:Body prog 51:=ay func51
instance:Body prog 52:=ay func52
instance:Body prog 53:=ay func53
instance:Body prog 54:=ay func54
instance:Body prog 55:=ay func55
instance:Body prog 56:=ay func56
instance:Body prog 57:=ay func57
instance:Body prog 58:=ay func58
instance:Body prog 59:=ay func59
instance:Body prog 60:=ay func60
instance:Body prog 61:=ay func61
instance:Body prog 62:=ay func62
instance:Body prog 63:=ay func63
instance:Body prog 64:=ay func64
instance:Body prog 65:=ay func65
instance:Body prog 66:=ay func66
instance:Body prog 67:=ay func67
instance:Body prog 70:=ay func70
instance:Body prog 71:=ay func71
instance:Body prog 72:=ay func72
instance:Body prog 73:=ay func73
instance:Body prog 74:=ay func74
instance:Body prog 75:=ay func75
instance:Body prog 76:=ay func76
instance:Body prog 77:=ay func77
instance:Body prog 78:=ay func78
instance:Body prog 79:=ay func79
instance:Body prog 80:=ay func80
instance:Body prog 81:=ay func81
instance:Body prog 82:=ay func82
instance:Body prog 83:=ay func83
instance:Body prog 84:=ay func84
instance:Body prog 85:=ay func85
instance:Body prog 86:=ay func86
instance:Body prog 87:=ay func87
instance:Body prog 88:=ay func88
instance:Body prog 89:=ay func89
instance:Body prog 90:=ay func90
instance:Body prog 93:=ay func93
instance:Body prog 94:=ay func94
instance:Body prog 95:=ay func95
instance:Body prog 96:=ay func96
instance:Body prog 97:=ay func97
instance:Body prog 98:=ay func98
instance:Body prog 99:=ay func99
instance:Body prog 100:=ay func100
instance:Body prog 101:=ay func101
instance:Body prog 102:=ay func102
instance:Body prog 103:=ay func103
instance:Body prog 104:=ay func104
instance:Body prog 105:=ay func105
instance:Body prog 106:=ay func106
instance:Body prog 107:=ay func107
instance:Body prog 108:=ay func108
instance:Body prog 109:=ay func109
instance:Body prog 110:=ay func110
instance:Body prog 111:=ay func111
instance:Body prog 112:=ay func112
instance:Body prog 115:=ay func115
instance:Body prog 116:=ay func116
instance:Body prog 117:=ay func117
instance:Body prog 118:=ay func118
instance:Body prog 123:=ay func123
instance:Body prog 124:=ay func124
instance:Body prog 125:=ay func125
instance:Body prog 126:=ay func126
instance:Body prog 127:=ay func127
instance:Body prog 128:=ay func128
instance:Body prog 129:=ay func129
instance:Body prog 130:=ay func130
instance:Body prog 131:=ay func131
instance:Body prog 132:=ay func132
instance:Body prog 133:=ay func133
instance:Body prog 134:=ay func134
instance:Body prog 135:=ay func135
instance:Body prog 136:=ay func136
instance:Body prog 137:=ay func137
instance:Body prog 138:=ay func138
instance:Body prog 139:=ay func139
instance:Body prog 140:=ay func140
instance:Body prog 142:=ay func142
instance:Body prog 143:=ay func143
instance:Body prog 144:=ay func144
instance:Body prog 145:=ay func145
instance:Body prog 146:=ay func146
instance:Body prog 147:=ay func147
instance:Body prog 148:=ay func148
instance:Body prog 149:=ay func149
instance:Body prog 150:=ay func150
instance:Body prog 151:=ay func151
instance:Body prog 153:=ay func153
instance:Body prog 154:=ay func154
instance:Body prog 155:=ay func155
instance:Body prog 156:=ay func156
instance:Body prog 157:=ay func157
instance:Body prog 158:=ay func158
instance:Body prog 159:=ay func159
instance:Body prog 161:=ay func161
instance:Body prog 167:=ay func167
instance:Body prog 168:=ay func168
instance:Body prog 169:=ay func169
instance:Body prog 170:=ay func170
instance:Body prog 178:=ay func178
instance:Body prog 179:=ay func179
instance:Body prog 180:=ay func180
theorem mixed:prog.follows .mixedOrders=true:=by kernel_rfl
structure Region where
 aV:Int
 az:Int
 deriving DecidableEq
structure Block where
 At:Int
 Order:Int
 Ty:Int
 deriving DecidableEq
structure ao where
 aV:Int
 To:Int
 aj:List Block
 Types:List Int
 deriving DecidableEq
structure aT where
 ga:Int
 ao:Int
 Ty:Int
 ax:List Int
structure Heap where
 bp:List ao
 dO:List Int
 bG:Int
 av:List aT
 Live:List Block
structure Slab where
 At:Int
 aj:Int
 ck:Int
 deriving DecidableEq
open Go.RowKit
variable {α:Type}
theorem qH (A:Option Addr) (n c:Nat) (x k:Int) (w:World) (hn:n<=2305843009213693952) : bF prog 127 [.slice A n c,.int .i64 x,.int .i64 k] w fun v _=>v = .bool (decide (0<=x∧0<=k∧k<=n∧x+k<=n)):=by
 refine aC func127 rfl ntmps127 rfl ?_;repeat' (first|refine Wz ?_|refine SW.gi rfl rfl rfl (fun h => ?_) (fun h => ?_))
 all_goals refine ae.bg rfl rfl ⟨_,rfl,Ext.refl _,?_⟩
 all_goals congr 1
 all_goals symm
 all_goals first|(refine decide_eq_true ?_;omega)|(refine decide_eq_false ?_;omega)|(rw [decide_eq_decide];omega)
def zj (w:World) (e sz:Nat) (enc : α -> List Value) (n:Nat) (l:List α) : Value->World->Prop:=fun v w' => ∃ A c,v = .slice A n c∧Own w' w.heap.size e sz enc A n c l
theorem dF (A:Option Addr) (n c:Nat) (l:List Int) (w:World) (hl:Sl w 1 bw A n l) (hn:n*8<=140737488355328) : bF prog 37 [.slice A n c] w (zj w 3 1 bw n l):=by
 refine aC func37 rfl ntmps37 rfl ?_;have hw:=Ext.refl w;refine Wz ?_;refine SW.st (r7 rfl rfl) rfl ?_;repeat' (first|refine Wz ?_|(refine CW.cond rfl (fun h => ?_) (fun h => ?_)))
 ·have Gv:n=0:=by
   rcases adu n with h0|h0
   ·exact h0
   ·have:=hl.base h0;simp_all
  subst Gv;have:l=[]:=adw hl.len
  subst this;exact ae.bg rfl rfl ⟨_,rfl,hw,none,0,rfl,Own.fF _ _ _ _ _ _⟩
 ·refine SW.za rfl fun b w1 ai hb => ?_
  have hw:=hw.trans ai;refine Wz ?_;refine SW.uW (aeD n) (ad5 l) (Own.fF w1 w.heap.size _ _ bw (some ⟨b,0,none⟩)) (hl.ext hw) hw.size rfl rfl rfl (by omega) (by omega) fun A2 c2 w2 hO hg => ?_
  have hw:=aD hw hg (adg _) (by simp [aJ]);refine Wz ?_;exact ae.bg rfl rfl ⟨_,rfl,hw,A2,c2,rfl,hO⟩
theorem Ol (k:Int) (w:World) : bF prog 22 [.int .i64 k] w fun v w' =>
 if 0<=k∧k<=256 then ∃ A c,v = .tuple #[.slice A (16*k).toNat c,.int .i64 0]∧Own w' w.heap.size 3 1 bw A (16*k).toNat c (List.replicate (16*k).toNat 0) else v = .tuple #[.slice none 0 0,.int .i64 1]:=by
 refine aC func22 rfl ntmps22 rfl ?_;have hw:=Ext.refl w;repeat' (first|refine Wz ?_|(refine CW.uP rfl (fun h => ?_) (fun h => ?_))|refine SW.gi rfl rfl rfl (fun h => ?_) (fun h => ?_))
 ·refine ae.dm rfl rfl rfl ⟨_,rfl,hw,?_⟩;rw [if_neg (by omega)]
 ·refine ae.dm rfl rfl rfl ⟨_,rfl,hw,?_⟩;rw [if_neg (by omega)]
 ·refine SW.make (enc:=bw) (k:=(16*k).toNat) 0 rfl rfl (by omega) (by omega) (by omega) rfl fun A c w1 ai hO => ?_
  have hw:=hw.trans ai;refine Wz ?_;refine ae.dm rfl rfl rfl ⟨_,rfl,hw,?_⟩;rw [if_pos (by omega)];exact ⟨A,c,rfl,hO⟩
def Region.ok (r:Region) : Prop:=0<=r.aV∧1<=r.az∧r.az<=256∧r.aV+r.az<=256
instance (r:Region) : Decidable r.ok:=inferInstanceAs (Decidable (_∧_))
def jw (r:Region) : List Value:=[.int .i64 r.aV,.int .i64 r.az]
theorem rE (r:Region) (w:World) : bF prog 130 [.agg (jw r).toArray] w fun v _=>v = .int .i64 (if r.ok then 0 else 1):=by
 refine aC func130 rfl ntmps130 rfl ?_;refine CW.seq (CW.region (SW.box rfl rfl fun b w1 hw hb hB => ?_));repeat' (first|refine Wz ?_|(refine CW.uP rfl (fun h => ?_) (fun h => ?_))|refine SW.gi rfl rfl rfl (fun h => ?_) (fun h => ?_))
 all_goals refine ae.bg rfl rfl ⟨_,rfl,hw,?_⟩
 all_goals first|rw [if_pos (by unfold Region.ok;omega)] | rw [if_neg (by unfold Region.ok;omega)]
instance:iy jw 2:=⟨fun _=>rfl,fun r u hu=>by simp [jw] at hu;rcases hu with rfl|rfl<;>rfl⟩
def ib (l:List Region) : Prop:=l.length<=40 ∧ ∀ (i:Nat) (h:i<l.length),(l[i]).ok ∧ ∀ (h0 : 0<i),(l[i-1]'(by omega)).aV+(l[i-1]'(by omega)).az<(l[i]).aV
noncomputable def fa (l:List Region) : Bool := @decide (ib l) (Classical.propDecidable _)
theorem mg {l:List Region} (h:ib l) : fa l=true:=by unfold fa;exact @decide_eq_true _ (Classical.propDecidable _) h
theorem qI {l:List Region} (h : ¬ ib l) : fa l=false:=by unfold fa;exact @decide_eq_false _ (Classical.propDecidable _) h
theorem uX {l:List Region}:fa l=true↔ib l:=by
 by_cases h:ib l
 ·simp [mg h,h]
 ·simp [qI h,h]
theorem sc {r:Region} (h:r.ok) (w:World) : bF prog 130 [.agg (jw r).toArray] w fun v _=>v = .int .i64 0:=(rE r w).mono fun _ _ _ hv=>by rw [hv,if_pos h]
theorem zm {r:Region} (h : ¬ r.ok) (w:World) : bF prog 130 [.agg (jw r).toArray] w fun v _=>v = .int .i64 1:=(rE r w).mono fun _ _ _ hv=>by rw [hv,if_neg h]
theorem zn {r:Region} (h:r.ok) (w:World) : bF prog 79 [.agg (jw r).toArray] w fun v _=>v = .int .i64 (r.aV+r.az):=by
 obtain ⟨h1,h2,h3,h4⟩:=h;refine aC func79 rfl ntmps79 rfl ?_;refine CW.seq (CW.region (SW.box rfl rfl fun b w1 hw hb hB => ?_));refine Wz ?_;exact ae.bg rfl rfl ⟨_,rfl,hw,rfl⟩
def aO (b:Block) : List Value:=[.int .i64 b.At,.int .i64 b.Order,.int .i64 b.Ty]
instance:iy aO 3:=⟨fun _=>rfl,fun r u hu=>by simp [aO] at hu;rcases hu with rfl|rfl|rfl<;>rfl⟩
def bh (b:Slab) : List Value:=[.int .i64 b.At,.int .i64 b.aj,.int .i64 b.ck]
instance:iy bh 3:=⟨fun _=>rfl,fun r u hu=>by simp [bh] at hu;rcases hu with rfl|rfl|rfl<;>rfl⟩
theorem lx (A:Option Addr) (n c:Nat) (l:List Block) (w:World) (hl:Sl w 3 aO A n l) (hn:n*24<=140737488355328) : bF prog 76 [.slice A n c] w (zj w 147 3 aO n l):=by
 refine aC func76 rfl ntmps76 rfl ?_;have hw:=Ext.refl w;refine Wz ?_;refine SW.st (r7 rfl rfl) rfl ?_;repeat' (first|refine Wz ?_|(refine CW.cond rfl (fun h => ?_) (fun h => ?_)))
 ·have Gv:n=0:=by
   rcases adu n with h0|h0
   ·exact h0
   ·have:=hl.base h0;simp_all
  subst Gv;have:l=[]:=adw hl.len
  subst this;exact ae.bg rfl rfl ⟨_,rfl,hw,none,0,rfl,Own.fF _ _ _ _ _ _⟩
 ·refine SW.za rfl fun b w1 ai hb => ?_
  have hw:=hw.trans ai;refine Wz ?_;refine SW.uW (aeD n) (ad5 l) (Own.fF w1 w.heap.size _ _ aO (some ⟨b,0,none⟩)) (hl.ext hw) hw.size rfl rfl rfl (by omega) (by omega) fun A2 c2 w2 hO hg => ?_
  have hw:=aD hw hg (adg _) (by simp [aJ]);refine Wz ?_;exact ae.bg rfl rfl ⟨_,rfl,hw,A2,c2,rfl,hO⟩
variable {a o:Int} {z:ao}
def pw (o:Int) : Int:=2 ^ o.toNat
theorem fH (h0 : 0<=o) (h4:o<=4) : (o=0∧pw o=1)∨(o=1∧pw o=2)∨(o=2∧pw o=4)∨(o=3∧pw o=8)∨(o=4∧pw o=16):=by
 have:o=0∨o=1∨o=2∨o=3∨o=4:=by omega
 rcases this with rfl|rfl|rfl|rfl|rfl<;>decide
theorem cQ (h0 : 0<=o) (h4:o<=4) : 1<=pw o∧pw o<=16:=by rcases fH h0 h4 with h|h|h|h|h<;>omega
theorem qJ (h0 : 0<=o) (h4:o<=4) : pw (o+1)=2*pw o:=by
 have:o=0∨o=1∨o=2∨o=3∨o=4:=by omega
 rcases this with rfl|rfl|rfl|rfl|rfl<;>decide
def beside (a o:Int) : Int:=if a % (2*pw o)=0 then a+pw o else a-pw o
theorem uY:∀ a<256,∀ o<4,a % 2 ^ o=0->((a ^^^ 2 ^ o:Nat) : Int)=if (a:Int) % (2*2 ^ o)=0 then (a:Int)+2 ^ o else (a:Int)-2 ^ o:=by decide +kernel
theorem Gw {a:Nat} (ha:a<256) (h0 : 0<=o) (h4:o<4) (h:(a:Int) % pw o=0) : ((a ^^^ 2 ^ o.toNat:Nat) : Int)=beside a o:=by
 have:o=0∨o=1∨o=2∨o=3:=by omega
 rcases this with rfl|rfl|rfl|rfl
 ·exact uY a ha 0 (by omega) (by simp only [pw] at h;omega)
 ·exact uY a ha 1 (by omega) (by
   rw [show pw 1=2 by decide] at h;simp;omega)
 ·exact uY a ha 2 (by omega) (by
   rw [show pw 2=4 by decide] at h;simp;omega)
 ·exact uY a ha 3 (by omega) (by
   rw [show pw 3=8 by decide] at h;simp;omega)
def kh (f t a o:Int) : Prop:=0<=o∧o<=4∧f<=a∧a<t∧a % pw o=0
instance (f t a o:Int) : Decidable (kh f t a o):=inferInstanceAs (Decidable (_∧_))
def kU (t:Int) : Prop:=0<=t∧t<=2
instance (t:Int) : Decidable (kU t):=inferInstanceAs (Decidable (_∧_))
def m6 (a b:Block) : Prop:=a.At+pw a.Order<=b.At ∧ ¬ (b.Order<4∧a.Order=b.Order∧a.At=beside b.At b.Order)
instance (a b:Block) : Decidable (m6 a b):=inferInstanceAs (Decidable (_∧_))
def ld (f t:Int) (b:Block) : Prop:=kh f t b.At b.Order∧kU b.Ty
instance (f t:Int) (b:Block) : Decidable (ld f t b):=inferInstanceAs (Decidable (_∧_))
def fI (f t:Int) : Prop:=0<=f∧f<=t∧t<=256∧f % 16=0∧t % 16=0
instance (f t:Int) : Decidable (fI f t):=inferInstanceAs (Decidable (_∧_))
structure bV (z:ao) : Prop where
 ok:fI z.aV z.To
 len : 8*(z.Types.length:Int)=z.To-z.aV
 types:∀ t∈z.Types,kU t
 eM:∀ (i:Nat) (h:i<z.aj.length),ld z.aV z.To z.aj[i]
 next:∀ (i:Nat) (h:i+1<z.aj.length),m6 z.aj[i] z.aj[i+1]
noncomputable def fJ (z:ao) : Bool := @decide (bV z) (Classical.propDecidable _)
theorem yq (h:bV z) : fJ z=true:=by unfold fJ;exact @decide_eq_true _ (Classical.propDecidable _) h
theorem qK (h : ¬ bV z) : fJ z=false:=by unfold fJ;exact @decide_eq_false _ (Classical.propDecidable _) h
theorem fq:fJ z=true↔bV z:=by
 by_cases h:bV z
 ·simp [yq h,h]
 ·simp [qK h,h]
def idxOf (p : α -> Bool) (l:List α) : Int:=if l.any p then (l.findIdx p:Int) else -1
def j6 (l:List Block) : Int:=(l.map fun b=>pw b.Order).sum
theorem uZ (l:List Block) (k:Nat) (h:k<l.length) : j6 (l.take (k+1))=j6 (l.take k)+pw l[k].Order:=by
 unfold j6;rw [adk h,adG,List.sum_append];simp
theorem pi (h:bV z) : ∀ k,k<=z.aj.length->0<=j6 (z.aj.take k)∧j6 (z.aj.take k)<=16*(k:Int)
 | 0,_=>by simp [j6]
 | k+1,hk=>by
   have ih:=pi h k (by omega);have hb:=(h.eM k (by omega)).1;have:=cQ hb.1 hb.2.1
   rw [uZ _ _ (by omega)];omega
theorem Iv (hz:bV z) (h1:z.aV<=a) (h2:a<z.To) : ∃ k:Nat,(a-z.aV) / 8=k∧k<z.Types.length:=by
 have:=hz.len
 exact ⟨((a-z.aV) / 8).toNat,by omega,by omega⟩
variable {f:Int} {cs:List Value} {b lo oA:Nat} {w w':World}
structure gb where
 A:Option Addr
 n:Nat
 c:Nat
def gb.v (s:gb) : Value := .slice s.A s.n s.c
def gb.nil:gb:=⟨none,0,0⟩
structure ef where
 aV:Int
 To:Int
 aj:gb
 Types:gb
def dt (z:ef) : List Value:=[.int .i64 z.aV,.int .i64 z.To,z.aj.v,z.Types.v]
instance:iy dt 4:=⟨fun _=>rfl,fun r u hu=>by simp [dt,gb.v] at hu;rcases hu with rfl|rfl|rfl|rfl<;>rfl⟩
theorem fK (r:ef) : ∀ v∈dt r,v.oneCell'=true:=iy.one (enc:=dt) r
structure Gx (w:World) (r:ef) (z:ao) : Prop where
 from_:r.aV=z.aV
 pj:r.To=z.To
 free:Sl w 3 aO r.aj.A r.aj.n z.aj
 types:Sl w 1 bw r.Types.A r.Types.n z.Types
structure iH (w:World) (lo:Nat) (r:ef) (z:ao) : Prop where
 from_:r.aV=z.aV
 pj:r.To=z.To
 free:Own w lo 147 3 aO r.aj.A r.aj.n r.aj.c z.aj
 types:Own w lo 3 1 bw r.Types.A r.Types.n r.Types.c z.Types
theorem Gx.ext {r:ef} {z:ao} (h:Gx w r z) (hx:Ext w w') : Gx w' r z:=⟨h.from_,h.pj,h.free.ext hx,h.types.ext hx⟩
theorem iH.ext {r:ef} {z:ao} (h:iH w lo r z) (hx:Ext w w') : iH w' lo r z:=⟨h.from_,h.pj,h.free.ext hx,h.types.ext hx⟩
theorem iH.low {r:ef} {z:ao} (h:iH w lo r z) (hl:oA<=lo) : iH w oA r z:=⟨h.from_,h.pj,h.free.low hl,h.types.low hl⟩
theorem iH.rd {r:ef} {z:ao} (h:iH w lo r z) : Gx w r z:=⟨h.from_,h.pj,h.free.sl,h.types.sl⟩
theorem iH.eM {t:Nat} {r:ef} {z:ao} (h:iH w lo r z) (hB:aS w b t cs) (hg:w.grownBy w' (some b)) (h1:Nat.beq t 147=false) (h2:Nat.beq t 3=false) : iH w' lo r z :=
 ⟨h.from_,h.pj,h.free.grown hg (.inr (h.free.fi hB h1)),h.types.grown hg (.inr (h.types.fi hB h2))⟩
def ao.zero:ao:=⟨0,0,[],[]⟩
def ef.zero:ef:=⟨0,0,.nil,.nil⟩
theorem iH.zero (w:World) (lo:Nat) : iH w lo .zero .zero:=⟨rfl,rfl,Own.fF _ _ _ _ _ _,Own.fF _ _ _ _ _ _⟩
theorem sZ (r:ef) (z:ao) (w:World) (hr:Gx w r z) (hn:r.aj.n*24<=140737488355328) (hm:r.Types.n*8<=140737488355328) :
 bF prog 77 [.agg (dt r).toArray] w fun v w' => ∃ s,v = .agg (dt s).toArray∧iH w' w.heap.size s z∧s.aj.n=r.aj.n∧s.Types.n=r.Types.n:=by
 refine aC func77 rfl ntmps77 rfl ?_;refine CW.seq (CW.region (SW.box rfl rfl fun b w1 hw hb hB => ?_));refine SW.alloc rfl fun b2 w2 bt au qA => ?_
 have u5:=hw.up au
 have bJ:b2≠b:=by have:=hB.lt;omega
 obtain ⟨hw,hB⟩:=df bt hw hB;have D6:=hb;refine Wz ?_;refine CW.any 7 mixed (dk (by kernel_rfl)) rfl fun w1 ai aG => ?_
 obtain ⟨hw,hB,qA⟩:=cn ai hw hB qA;clear ai;refine Wa ?_;refine SA.one 2 rfl (by kernel_rfl) rfl ?_;refine Wk (lx _ _ _ _ _ (hr.free.ext hw) hn) fun v w4 ak hv => ?_
 obtain ⟨X,c4,rfl,hX⟩:=hv;have hX:=hX.low hw.size;obtain ⟨hw,hB,qA⟩:=cn ak hw hB qA;refine SW.nil (ae.sa ak ?_);refine Wa ?_;refine SA.one 5 rfl (by kernel_rfl) rfl ?_;refine Wk (dF _ _ _ _ _ (hr.types.ext hw) hm) fun v w4 ak hv => ?_
 obtain ⟨Y,d4,rfl,hY⟩:=hv;have hY:=hY.low hw.size;obtain ⟨hX,hw,hB,qA⟩:=dv ak hX hw hB qA;refine SW.nil (ae.sa ak ?_);refine SA.done (by kernel_rfl) ?_;skip;refine Wb (i:=2) hB fun w5 v7 hg => ?_
 have hw:=hw.own D6 hg;have hX:=hX.grown hg (.inr (hX.fi hB rfl));have hY:=hY.grown hg (.inr (hY.fi hB rfl));have qA:=qA.grown hg (by simpa using bJ);refine Wz ?_;refine Wb (i:=3) v7 fun w6 Vr hg => ?_
 have hw:=hw.own D6 hg;have hX:=hX.grown hg (.inr (hX.fi v7 rfl));have hY:=hY.grown hg (.inr (hY.fi v7 rfl));have qA:=qA.grown hg (by simpa using bJ);repeat' (first|refine Wz ?_|refine Wm ((fun _ _=>Vr.cell)) ?_)
 refine SW.ag qA rfl rfl rfl rfl (fK ⟨r.aV,r.To,⟨X,r.aj.n,c4⟩,⟨Y,r.Types.n,d4⟩⟩) fun w7 cX hg => ?_
 have hw:=hw.own u5 hg;have hX:=hX.grown hg (.inr (hX.fi qA rfl));have hY:=hY.grown hg (.inr (hY.fi qA rfl));refine Wz ?_;exact ae.En rfl rfl cX rfl ⟨_,rfl,hw,⟨r.aV,r.To,⟨X,r.aj.n,c4⟩,⟨Y,r.Types.n,d4⟩⟩,rfl,⟨hr.from_,hr.pj,hX,hY⟩,rfl,rfl⟩
def jx (f t:Int) : Int×ao:=if fI f t then (0,⟨f,t,[],List.replicate ((t-f) / 8).toNat 1⟩) else (1,.zero)
def yr (lo:Nat) (r:Int×ao) (v:Value) (w:World) : Prop := ∃ s:ef,v = .tuple #[.agg (dt s).toArray,.int .i64 r.1]∧iH w lo s r.2
theorem uh {t:Int} (h : ¬ fI f t) : jx f t=(1,.zero):=if_neg h
theorem mh {t:Int} (h:fI f t) : jx f t=(0,⟨f,t,[],List.replicate ((t-f) / 8).toNat 1⟩):=if_pos h
theorem Db {x:Int} (h : 0<=x) : x.tmod 16=x % 16:=adP h
theorem Om (k i:Nat) (h:i<k) : (List.replicate i (1:Int)++List.replicate (k-i) 0).set i 1=List.replicate (i+1) 1++List.replicate (k-(i+1)) 0:=by
 apply ad1 (by simp;omega);intro j h1 h2;rw [adB];by_cases hj:i=j
 ·subst hj;simp
 ·simp only [hj,if_false,List.getElem_append,List.length_replicate,List.getElem_replicate];by_cases h3:j<i
  ·simp [h3,show j<i+1 by omega]
  ·simp [h3,show ¬ j<i+1 by omega]
theorem zo (f t:Int) (w:World) (hf : -9223372036854775808<=f∧f<=9223372036854775807) (ht : -9223372036854775808<=t∧t<=9223372036854775807) : bF prog 44 [.int .i64 f,.int .i64 t] w (yr w.heap.size (jx f t)):=by
 refine aC func44 rfl ntmps44 rfl ?_;refine CW.seq (CW.region (SW.alloc rfl fun b4 w1 hw fP aI => ?_));have eH:=fP;by_cases lX:fI f t
 ·obtain ⟨h1,h2,h3,h4,h5⟩:=id lX;have m1:=Db h1;have m2:=Db (show 0<=t by omega);rw [mh lX];obtain ⟨k,hk⟩ : ∃ k:Nat,(t-f) / 8=k:=⟨((t-f) / 8).toNat,by omega⟩;refine Wz ?_;refine SW.make (enc:=bw) (k:=k) 0 rfl rfl (by omega) (by omega) (by omega) rfl fun A c w2 bt hO => ?_
  have hO:=hO.low hw.size;(obtain ⟨hw,aI⟩:=df bt hw aI);refine Wz ?_;refine SW.alloc rfl fun b6 w1 ai dw ar => ?_
  have cS:=hw.up dw
  have QG:b4≠b6:=by have:=aI.lt;omega
  obtain ⟨hw,aI,hO⟩:=cn ai hw aI hO;refine SW.ag ar rfl rfl rfl rfl (fK ⟨f,t,.nil,⟨A,k,c⟩⟩) fun w2 bQ hg => ?_
  have hw:=hw.own cS hg;have hO:=hO.grown hg (.inr (hO.fi ar rfl));have aI:=aI.grown hg (by simpa using QG);have ar:=bQ;clear bQ ai hg dw;have hA:=hO.sl.base;refine Wz ?_
  refine CW.loop (fun i:Nat=>[(4,.pointer (some ⟨b4,0,none⟩)),(6,.pointer (some ⟨b6,0,none⟩)),(40,.int .i64 (k:Int)),(41,.int .i64 (i:Int))])
   (fun i w'=>i<=k∧Ext w w'∧aS w' b4 117 (dt .zero)∧aS w' b6 117 (dt ⟨f,t,.nil,⟨A,k,c⟩⟩)∧Own w' w.heap.size 3 1 bw A k c (List.replicate i 1++List.replicate (k-i) 0)) (fun i=>k-i) 0
   ⟨rfl,rfl,rfl,rfl,trivial⟩ ⟨by omega,hw,aI,ar,by simpa using hO⟩ ?_
  clear hw aI ar hO;rintro i w' ⟨hi,hw,aI,ar,hO⟩
  have hA:=hO.sl.base;by_cases Eo:i<k
  ·refine Wz ?_;refine SW.qF i hO rfl rfl Eo fun w3 Ep hg => ?_
   have hw:=aD hw hg (adg _) hO.a9;have aI:=aI.grown hg (fun e=>hO.fi aI rfl e.symm);have ar:=ar.grown hg (fun e=>hO.fi ar rfl e.symm);rw [Om k i Eo] at Ep;refine Wz ?_;exact ae.again (i+1) ⟨rfl,rfl,rfl,rfl,trivial⟩ (by omega) ⟨by omega,hw,aI,ar,Ep⟩
  ·obtain rfl:i=k:=by omega
   simp only [Nat.sub_self,List.replicate_zero,List.append_nil] at hO;refine Wz ?_;refine SW.ag aI rfl rfl rfl rfl (fK ⟨f,t,.nil,⟨A,i,c⟩⟩) fun w5 cX hg => ?_
   have hw:=hw.own eH hg;have hO:=hO.grown hg (.inr (hO.fi aI rfl));refine Wz ?_;refine ae.dA rfl rfl rfl cX rfl ⟨_,rfl,hw,⟨f,t,.nil,⟨A,i,c⟩⟩,rfl,rfl,rfl,Own.fF _ _ _ _ _ _,?_⟩;simp only [hk,Int.toNat_natCast];exact hO
 ·rw [uh lX];unfold fI at lX;have m1:=fun h => @Db f h
  have m2:=fun h => @Db t h
  by_cases h1 : 0<=f
  ·have m1:=m1 h1;by_cases h2:f<=t
   ·have m2:=m2 (by omega);repeat' (first|refine Wz ?_|refine SW.gi rfl rfl rfl (fun h => ?_) (fun h => ?_)|refine SW.C2 rfl rfl rfl (fun h => ?_) (fun h => ?_))
    all_goals
     first
      | (exfalso;omega)
      | (refine SW.ag aI rfl rfl rfl rfl (fK .zero) fun w5 cX hg => ?_
         have hw:=hw.own eH hg;refine Wz ?_;exact ae.dA rfl rfl rfl cX rfl ⟨_,rfl,hw,.zero,rfl,iH.zero _ _⟩)
   ·repeat' (first|refine Wz ?_|refine SW.gi rfl rfl rfl (fun h => ?_) (fun h => ?_))
    all_goals
     refine SW.ag aI rfl rfl rfl rfl (fK .zero) fun w5 cX hg => ?_
     have hw:=hw.own eH hg;refine Wz ?_;exact ae.dA rfl rfl rfl cX rfl ⟨_,rfl,hw,.zero,rfl,iH.zero _ _⟩
  ·refine Wz ?_
   all_goals
    refine SW.ag aI rfl rfl rfl rfl (fK .zero) fun w5 cX hg => ?_
    have hw:=hw.own eH hg;refine Wz ?_;exact ae.dA rfl rfl rfl cX rfl ⟨_,rfl,hw,.zero,rfl,iH.zero _ _⟩
variable {k:Nat} {y:Operand} {t ty:TypeId} {p:α -> Bool}
section
variable {P:Program} {L:Env} {w:World} {d:Option Nat} {T:TypeId} {pos:String} {af:Array Edge} {g:Option (Nat×Bool)}
theorem QH {x:Operand} {i j:Int} (a b:Nat) (hx:cT L x=some (.int .i64 i)) (hy:cT L y=some (.int .i64 j)) (ha:i=(a:Int)) (hb:j=(b:Int)) (mA:a<9223372036854775808) (iz:b<9223372036854775808) :
 St P ⟨d,.binOp .xor t x y ty,T,pos,af,g⟩ L w (.int .i64 ((a ^^^ b:Nat) : Int)) :=
 ⟨fun n A hA w' _=>by
  have e1:=hA.eval hx;have e2:=hA.eval hy;subst ha hb;generalize A.eval = ρ at *
  have eX:a ^^^ b<2 ^ 63:=Nat.xor_lt_two_pow (by omega) (by omega)
  have e:(BitVec.ofInt 64 (a:Int) ^^^ BitVec.ofInt 64 (b:Int)).toNat=a ^^^ b:=by
   rw [BitVec.toNat_xor,BitVec.ofInt_natCast,BitVec.ofInt_natCast,BitVec.toNat_ofNat,BitVec.toNat_ofNat,aeO (by omega),aeO (by omega)]
  have aZ:(Op.intBits .xor .i64 (a:Int) (b:Int)).run P w' = .ok (.int .i64 ((a ^^^ b:Nat) : Int)) w':=by
   have:Op.intBits .xor .i64 (a:Int) (b:Int)=(pure (.int .i64 (IntKind.i64.wrap ((BitVec.ofInt 64 (a:Int) ^^^ BitVec.ofInt 64 (b:Int)).toNat:Nat))) : Sem Value):=rfl
   rw [this,e,jl (by omega) (by omega)]
   rfl
  have au:(binOp .xor t (.int .i64 (a:Int)) (.int .i64 (b:Int))).run P w' = .ok (.int .i64 ((a ^^^ b:Nat) : Int)) w':=by
   have:binOp .xor t (.int .i64 (a:Int)) (.int .i64 (b:Int))=Op.intBits .xor .i64 (a:Int) (b:Int):=by simp [binOp]
   rw [this,aZ]
  simp [execOp,e1,e2,eqGuard,au]⟩
theorem nL {x:Operand} {i j:Int} (a o:Int) (hx:cT L x=some (.int .i64 i)) (hy:cT L y=some (.int .i64 j)) (hi:i=a) (hj:j=pw o) (h : 0<=a∧a<256∧0<=o∧o<4∧a % pw o=0) :
 St P ⟨d,.binOp .xor t x y ty,T,pos,af,g⟩ L w (.int .i64 (beside a o)):=by
 obtain ⟨h1,h2,h3,h4,h5⟩:=h;subst hi hj;obtain ⟨k,rfl⟩:=adn h1;have hp:=cQ h3 (by omega);have e:pw o=((2 ^ o.toNat:Nat) : Int):=by unfold pw;simp
 have eX:(2 ^ o.toNat:Nat)<9223372036854775808:=by omega
 have:=QH (P:=P) (t:=t) (ty:=ty) (w:=w) (d:=d) (T:=T) (pos:=pos) (af:=af) (g:=g) k (2 ^ o.toNat) hx hy rfl e (by omega) eX
 rw [Gw (by omega) h3 h4 h5] at this;exact this
end
theorem s5 (r:ef) (b:Block) (w:World) (h0 : 0<=r.aV) : bF prog 132 [.agg (dt r).toArray,.agg (aO b).toArray] w fun v _=>v = .bool (decide (kh r.aV r.To b.At b.Order)):=by
 refine aC func132 rfl ntmps132 rfl ?_;refine CW.seq (CW.region (SW.box rfl rfl fun b1 w1 hw aZ h1 => ?_));refine SW.box rfl rfl fun b2 w2 bt au h2 => ?_
 (obtain ⟨hw,h1⟩:=df bt hw h1);by_cases hf:kh r.aV r.To b.At b.Order
 ·obtain ⟨a1,a2,a3,a4,a5⟩:=id hf;have hp:=cQ a1 a2;rw [decide_eq_true hf];have e:b.At.tmod (pw b.Order)=0:=by rw [adP (by omega)];exact a5
  repeat' (first|refine Wz ?_|((apply CW.bH mixed;(· kernel_rfl);rotate_left;intro w1 ai;obtain ⟨hw,h1,h2⟩:=cn ai hw h1 h2;clear ai;rotate_right))|(refine SW.st (fG (r:=pw b.Order) rfl rfl (by omega) (by omega) (by simp [pw]) (by omega) (by omega)) rfl ?_)|exact SW.eU rfl)
  exact ae.bg rfl rfl ⟨_,rfl,hw,by simp [e]⟩
 ·rw [decide_eq_false hf];by_cases a1 : 0<=b.Order
  ·by_cases a2:b.Order<=4
   ·by_cases a3:r.aV<=b.At
    ·by_cases a4:b.At<r.To
     ·have hp:=cQ a1 a2
      have e:b.At.tmod (pw b.Order)≠0:=by
       rw [adP (by omega)];exact fun a5=>hf ⟨a1,a2,a3,a4,a5⟩
      repeat' (first|refine Wz ?_|((apply CW.bH mixed;(· kernel_rfl);rotate_left;intro w1 ai;obtain ⟨hw,h1,h2⟩:=cn ai hw h1 h2;clear ai;rotate_right))|(refine SW.st (fG (r:=pw b.Order) rfl rfl (by omega) (by omega) (by simp [pw]) (by omega) (by omega)) rfl ?_)|exact SW.eU rfl)
      exact ae.bg rfl rfl ⟨_,rfl,hw,by simp [e]⟩
     ·repeat' (first|refine Wz ?_|((apply CW.bH mixed;(· kernel_rfl);rotate_left;intro w1 ai;obtain ⟨hw,h1,h2⟩:=cn ai hw h1 h2;clear ai;rotate_right))|exact SW.eU rfl)
      exact ae.bg rfl rfl ⟨_,rfl,hw,by simp [*]⟩
    ·repeat' (first|refine Wz ?_|((apply CW.bH mixed;(· kernel_rfl);rotate_left;intro w1 ai;obtain ⟨hw,h1,h2⟩:=cn ai hw h1 h2;clear ai;rotate_right))|exact SW.eU rfl)
     exact ae.bg rfl rfl ⟨_,rfl,hw,by simp [*]⟩
   ·repeat' (first|refine Wz ?_|((apply CW.bH mixed;(· kernel_rfl);rotate_left;intro w1 ai;obtain ⟨hw,h1,h2⟩:=cn ai hw h1 h2;clear ai;rotate_right))|exact SW.eU rfl)
    exact ae.bg rfl rfl ⟨_,rfl,hw,by simp [*]⟩
  ·repeat' (first|refine Wz ?_|((apply CW.bH mixed;(· kernel_rfl);rotate_left;intro w1 ai;obtain ⟨hw,h1,h2⟩:=cn ai hw h1 h2;clear ai;rotate_right))|exact SW.eU rfl)
   exact ae.bg rfl rfl ⟨_,rfl,hw,by simp [*]⟩
theorem pP (b:Block) (w:World) (h : 0<=b.Order∧b.Order<=4) (ha : 0<=b.At∧b.At<=256) : bF prog 133 [.agg (aO b).toArray] w fun v _=>v = .int .i64 (b.At+pw b.Order):=by
 refine aC func133 rfl ntmps133 rfl ?_;refine CW.seq (CW.region (SW.box rfl rfl fun b1 w1 hw aZ h1 => ?_));have hp:=cQ h.1 h.2;repeat' (first|refine Wz ?_|((apply CW.bH mixed;(· kernel_rfl);rotate_left;intro w1 ai;obtain ⟨hw,h1⟩:=df ai hw h1;clear ai;rotate_right))|(refine SW.st (fG (r:=pw b.Order) rfl rfl (by omega) (by omega) (by simp [pw]) (by omega) (by omega)) rfl ?_)|exact SW.eU rfl)
 exact ae.bg rfl rfl ⟨_,rfl,hw,rfl⟩
theorem mi {l:List α} (h:k<l.length) (hp:p l[k]=true) (hf:∀ j (hj:j<l.length),j<k->p l[j]=false) : idxOf p l=(k:Int):=by
 have e:l.findIdx p=k:=(List.findIdx_eq h).2 ⟨hp,fun j hj=>hf j (by omega) hj⟩
 have e2:l.any p=true:=adq.2 ⟨l[k],adb h,hp⟩
 simp [idxOf,e,e2]
theorem jW {l:List α} (hf:∀ j (hj:j<l.length),p l[j]=false) : idxOf p l = -1∧l.any p=false:=by
 have e:l.any p=false:=by
  rw [ady];intro x hx;obtain ⟨j,hj,rfl⟩:=ade hx;simp [hf j hj]
 exact ⟨by simp [idxOf,e],e⟩
theorem ly (p : α -> Bool) (l:List α) : decide (0<=idxOf p l)=l.any p:=by
 unfold idxOf;by_cases h:l.any p=true
 ·simp [h]
 ·simp [h]
theorem v8 (A:Option Addr) (n c:Nat) (l:List Int) (w:World) (hl:Sl w 1 bw A n l) (f:FuncId) (cap:List Value) [Body prog f] (p:Int->Bool) (arg:Int->Value) (qL:∀ x,arg x=(if 1=1 then (bw x)[0]?.getD undef else .agg (bw x).toArray))
 (hf:∀ x∈l,∀ w',Ext w w'->bF prog f ([arg x]++cap) w' fun v _=>v = .bool (p x)) (hn:n<=9223372036854775807) :
 bF prog 147 [.slice A n c,.func (.func f) #[] cap.toArray] w fun v _=>v = .int .i64 (idxOf p l):=by
 refine aC func147 rfl ntmps147 rfl ?_;have hw:=Ext.refl w;have hA:=hl.base;refine Wz ?_;refine CW.loop (fun k:Nat=>[(0,.slice A n c),(1,.func (.func f) #[] cap.toArray),(7,.int .i64 (n:Int)),(8,.int .i64 (k:Int))]) (fun k w'=>k<=n∧Ext w w' ∧ ∀ j (hj:j<l.length),j<k->p l[j]=false) (fun k=>n-k) 0 ⟨rfl,rfl,rfl,rfl,trivial⟩ ⟨by omega,hw,fun j _ h=>by omega⟩ ?_;clear hw;rintro k w' ⟨bW,hw,hI⟩
 by_cases hk:k<n
 ·have hx:=qL (l[k]'(hl.lt hk));have vV:=hf (l[k]'(hl.lt hk)) (adb _);rw [hx] at vV;repeat' (first|refine Wz ?_|refine Wn hw (hl.one hk rfl) ?_)
  refine SW.tP rfl rfl rfl (vV _ hw) fun v w1 ai hv => ?_
  subst hv;have hw:=hw.trans ai;cases hp:p (l[k]'(hl.lt hk))
  ·refine Wz ?_;refine ae.again (k+1) ⟨rfl,rfl,rfl,rfl,trivial⟩ (by omega) ⟨by omega,hw,fun j hj h => ?_⟩;by_cases nk:j=k
   ·subst nk;exact hp
   ·exact hI j hj (by omega)
  ·refine Wz ?_;exact ae.bg rfl rfl ⟨_,rfl,hw,by rw [mi (hl.lt hk) hp hI]⟩
 ·refine Wz ?_;exact ae.bg rfl rfl ⟨_,rfl,hw,by rw [(jW (fun j hj=>hI j hj (by have:=hl.len;omega))).1]⟩
theorem iL (A:Option Addr) (n c:Nat) (l:List Int) (w:World) (hl:Sl w 1 bw A n l) (f:FuncId) (cap:List Value) [Body prog f] (p:Int->Bool) (arg:Int->Value) (qL:∀ x,arg x=(if 1=1 then (bw x)[0]?.getD undef else .agg (bw x).toArray))
 (hf:∀ x∈l,∀ w',Ext w w'->bF prog f ([arg x]++cap) w' fun v _=>v = .bool (p x)) (hn:n<=9223372036854775807) :
 bF prog 105 [.slice A n c,.func (.func f) #[] cap.toArray] w fun v _=>v = .bool (l.any p):=by
 refine aC func105 rfl ntmps105 rfl ?_;have hw:=Ext.refl w;repeat' (first|refine Wz ?_|(refine Wk (v8 _ _ _ _ _ (hl.ext hw) f cap p arg qL (fun x hx w1 h1=>hf x hx w1 (hw.trans h1)) hn) ?_;intro v w1 ai hv;subst hv;have hw:=hw.trans ai;clear ai))
 exact ae.bg rfl rfl ⟨_,rfl,hw,by rw [ly]⟩
theorem nU (A:Option Addr) (n c:Nat) (l:List Block) (w:World) (hl:Sl w 3 aO A n l) (f:FuncId) (cap:List Value) [Body prog f] (p:Block->Bool) (arg:Block->Value) (qL:∀ x,arg x=(if 3=1 then (aO x)[0]?.getD undef else .agg (aO x).toArray))
 (hf:∀ x∈l,∀ w',Ext w w'->bF prog f ([arg x]++cap) w' fun v _=>v = .bool (p x)) (hn:n<=9223372036854775807) :
 bF prog 157 [.slice A n c,.func (.func f) #[] cap.toArray] w fun v _=>v = .int .i64 (idxOf p l):=by
 refine aC func157 rfl ntmps157 rfl ?_;have hw:=Ext.refl w;have hA:=hl.base;refine Wz ?_;refine CW.loop (fun k:Nat=>[(0,.slice A n c),(1,.func (.func f) #[] cap.toArray),(7,.int .i64 (n:Int)),(8,.int .i64 (k:Int))]) (fun k w'=>k<=n∧Ext w w' ∧ ∀ j (hj:j<l.length),j<k->p l[j]=false) (fun k=>n-k) 0 ⟨rfl,rfl,rfl,rfl,trivial⟩ ⟨by omega,hw,fun j _ h=>by omega⟩ ?_;clear hw;rintro k w' ⟨bW,hw,hI⟩
 by_cases hk:k<n
 ·have hx:=qL (l[k]'(hl.lt hk));have vV:=hf (l[k]'(hl.lt hk)) (adb _);rw [hx] at vV;repeat' (first|refine Wz ?_|refine Wo hw ((hl.all hk)) ?_)
  refine SW.tP rfl rfl rfl (vV _ hw) fun v w1 ai hv => ?_
  subst hv;have hw:=hw.trans ai;cases hp:p (l[k]'(hl.lt hk))
  ·refine Wz ?_;refine ae.again (k+1) ⟨rfl,rfl,rfl,rfl,trivial⟩ (by omega) ⟨by omega,hw,fun j hj h => ?_⟩;by_cases nk:j=k
   ·subst nk;exact hp
   ·exact hI j hj (by omega)
  ·refine Wz ?_;exact ae.bg rfl rfl ⟨_,rfl,hw,by rw [mi (hl.lt hk) hp hI]⟩
 ·refine Wz ?_;exact ae.bg rfl rfl ⟨_,rfl,hw,by rw [(jW (fun j hj=>hI j hj (by have:=hl.len;omega))).1]⟩
theorem lY (A:Option Addr) (n c:Nat) (l:List Block) (w:World) (hl:Sl w 3 aO A n l) (f:FuncId) (cap:List Value) [Body prog f] (p:Block->Bool) (arg:Block->Value) (qL:∀ x,arg x=(if 3=1 then (aO x)[0]?.getD undef else .agg (aO x).toArray))
 (hf:∀ x∈l,∀ w',Ext w w'->bF prog f ([arg x]++cap) w' fun v _=>v = .bool (p x)) (hn:n<=9223372036854775807) :
 bF prog 128 [.slice A n c,.func (.func f) #[] cap.toArray] w fun v _=>v = .bool (l.any p):=by
 refine aC func128 rfl ntmps128 rfl ?_;have hw:=Ext.refl w;repeat' (first|refine Wz ?_|(refine Wk (nU _ _ _ _ _ (hl.ext hw) f cap p arg qL (fun x hx w1 h1=>hf x hx w1 (hw.trans h1)) hn) ?_;intro v w1 ai hv;subst hv;have hw:=hw.trans ai;clear ai))
 exact ae.bg rfl rfl ⟨_,rfl,hw,by rw [ly]⟩
def Dc (t:Int) : Bool := !decide (kU t)
theorem Gy {t:Int} (h:kU t) : Dc t=false:=by simp [Dc,h]
theorem Gz {t:Int} (h : ¬ kU t) : Dc t=true:=by simp [Dc,h]
theorem zp (t:Int) (w:World) : bF prog 131 ([.int .i64 t]++[]) w fun v _=>v = .bool (Dc t):=by
 refine aC func131 rfl ntmps131 rfl ?_;have hw:=Ext.refl w;by_cases h1 : 0<=t
 ·by_cases h2:t<=2
  ·rw [Gy ⟨h1,h2⟩];refine Wz ?_;all_goals exact ae.bg rfl rfl ⟨_,rfl,hw,by simp;try omega⟩
  ·rw [Gz (fun h=>h2 h.2)];refine Wz ?_;all_goals exact ae.bg rfl rfl ⟨_,rfl,hw,by simp;try omega⟩
 ·rw [Gz (fun h=>h1 h.1)];refine Wz ?_;all_goals exact ae.bg rfl rfl ⟨_,rfl,hw,by simp;try omega⟩
set_option maxHeartbeats 4000000 in
theorem kV (r:ef) (z:ao) (w:World) (hr:Gx w r z) (hf:r.aj.n<=2305843009213693952) (ht:r.Types.n<=2305843009213693952) (h1 : -9223372036854775808<=r.aV∧r.aV<=9223372036854775807) (h2 : -9223372036854775808<=r.To∧r.To<=9223372036854775807) :
 bF prog 80 [.agg (dt r).toArray] w fun v _=>v = .int .i64 (if fJ z then 0 else 8):=by
 refine aC func80 rfl ntmps80 rfl ?_;refine CW.seq (CW.region (SW.box rfl rfl fun b1 w1 hw lp aZ => ?_));have eF:=hr.from_;have eT:=hr.pj;have On:=hr.free.len;have S0:=hr.types.len;refine Wz ?_;refine Wk (zo r.aV r.To _ h1 h2) fun v w2 bt hv => ?_
 (obtain ⟨hw,aZ⟩:=df bt hw aZ);by_cases lX:fI r.aV r.To
 ·rw [mh lX] at hv;obtain ⟨s,rfl,hs⟩:=hv;obtain ⟨o1,o2,o3,o4,o5⟩:=id lX;have oH:∀ {p:Prop},(bV z->False)->p ∨ ¬ bV z:=fun h => .inr h
  by_cases XZ : 8*(z.Types.length:Int)=z.To-z.aV
  ·refine Wz ?_;refine SW.alloc rfl fun b3 w1 ai cg aq => ?_
   have gd:=hw.up cg
   have zq:b1≠b3:=by have:=aZ.lt;omega
   obtain ⟨hw,aZ,hs⟩:=cn ai hw aZ hs;refine SW.ag aq rfl rfl rfl rfl (fK _) fun w2 ed hg => ?_
   have hw:=hw.own gd hg;have hs:=hs.eM aq hg rfl rfl;have aZ:=aZ.grown hg (by simpa using zq);have aq:=ed;clear ed ai hg cg
   have cO:∀ w',Ext w w'->bF prog 105 [.slice r.Types.A r.Types.n r.Types.c,.func (.func 131) #[] ([] : List Value).toArray] w' fun v _=>v = .bool (z.Types.any Dc):=fun w' h =>
    iL _ _ _ _ _ (hr.types.ext h) _ [] Dc (fun x => .int .i64 x) (fun x=>rfl) (fun x _ w1 _=>zp x w1) (by omega)
   cases Jr:z.Types.any Dc
   ·rw [Jr] at cO
    have zt:∀ t∈z.Types,kU t:=fun t Se=>by
     rw [ady] at Jr;have:=Jr t Se
     simp [Dc] at this;exact this
    repeat' (first|refine Wz ?_|(refine Wk (cO _ hw) ?_;intro v w1 ai hv;subst hv;obtain ⟨hw,aZ⟩:=df ai hw aZ;clear ai))
    refine CW.loop (fun k:Nat=>[(1,.pointer (some ⟨b1,0,none⟩)),(5,.func (.func 131) #[] #[]),(35,.slice r.aj.A r.aj.n r.aj.c),(36,.int .i64 (r.aj.n:Int)),(37,.int .i64 (k:Int))])
     (fun k w'=>k<=r.aj.n∧Ext w w'∧aS w' b1 117 (dt r)∧(∀ (i:Nat) (h:i<z.aj.length),i<k->ld z.aV z.To z.aj[i])∧(∀ (i:Nat) (h:i+1<z.aj.length),i+1<k->m6 z.aj[i] z.aj[i+1]))
     (fun k=>r.aj.n-k) 0 ⟨rfl,rfl,rfl,rfl,rfl,trivial⟩ ⟨by omega,hw,aZ,fun i h hi=>by omega,fun i h hi=>by omega⟩ ?_
    clear hw aZ aq cO hs;rintro k w' ⟨hk,hw,aZ,hI,hN⟩
    have hA:=hr.free.base;by_cases gp:k<r.aj.n
    ·have iE:=hr.free.lt gp;repeat' (first|refine Wz ?_|refine Wo hw ((hr.free.all gp)) ?_)
     refine SW.alloc rfl fun b7 w3 nT iI bf => ?_
     have gf:=hw.up iI
     have bJ:b1≠b7:=by have:=aZ.lt;omega
     (obtain ⟨hw,aZ⟩:=df nT hw aZ);refine Wz ?_;refine SW.ag bf rfl rfl rfl rfl (iy.one (enc:=aO) _) fun w4 bq hg => ?_
     have hw:=hw.own gf hg;have aZ:=aZ.grown hg (by simpa using bJ);by_cases BM:ld z.aV z.To z.aj[k]
     ·obtain ⟨Sf,GA⟩:=id BM;obtain ⟨f1,f2,f3,f4,f5⟩:=id Sf;have hp:=cQ f1 f2
      have cF:∀ w',Ext w w'->bF prog 132 [.agg (dt r).toArray,.agg (aO z.aj[k]).toArray] w' fun v _=>v = .bool true:=fun w' _=>by
       have:=s5 r z.aj[k] w' (by omega)
       rwa [eF,eT,decide_eq_true Sf] at this
      have cD:∀ w',bF prog 131 ([.int .i64 (z.aj[k]).Ty]++[]) w' fun v _=>v = .bool false:=fun w'=>by
       have:=zp (z.aj[k]).Ty w'
       rwa [Gy GA] at this
      by_cases Bd:k=0
      ·subst Bd;repeat' (first|refine Wz ?_|((apply CW.bH mixed;(· kernel_rfl);rotate_left;intro w1 ai;obtain ⟨hw,aZ,bq⟩:=cn ai hw aZ bq;clear ai;rotate_right))|refine SW.want rfl rfl ?_|refine SW.dK rfl rfl (fun w1 ai=>(cF _ (hw.trans ai))) ?_|(refine SW.ug rfl rfl rfl (fun w1 _=>cD w1) ?_)|exact SW.eU rfl)
       refine ae.again (0+1) ⟨rfl,rfl,rfl,rfl,rfl,trivial⟩ (by omega) ⟨by omega,hw,aZ,fun i h hi => ?_,fun i h hi=>by omega⟩;obtain rfl:i=0:=by omega
       exact BM
      ·obtain ⟨j,rfl⟩ : ∃ j,k=j+1:=⟨k-1,by omega⟩;have hj:j<r.aj.n:=by omega
       have rK:=hr.free.lt hj;obtain ⟨⟨g1,g2,g3,g4,g5⟩,_⟩:=hI j rK (by omega);have cE:∀ w',bF prog 133 [.agg (aO z.aj[j]).toArray] w' fun v _=>v = .int .i64 ((z.aj[j]).At+pw (z.aj[j]).Order):=fun w'=>pP _ _ ⟨g1,g2⟩ ⟨by omega,by omega⟩
       by_cases eX:(z.aj[j]).At+pw (z.aj[j]).Order<=(z.aj[j+1]).At
       ·by_cases Sg:(z.aj[j+1]).Order<4∧(z.aj[j]).Order=(z.aj[j+1]).Order∧(z.aj[j]).At=beside (z.aj[j+1]).At (z.aj[j+1]).Order
        ·obtain ⟨u1,u2,u3⟩:=id Sg;repeat' (first|refine Wz ?_|((apply CW.bH mixed;(· kernel_rfl);rotate_left;intro w1 ai;obtain ⟨hw,aZ,bq⟩:=cn ai hw aZ bq;clear ai;rotate_right))|refine SW.st (cf (j) rfl rfl (by assumption) (by omega) (by omega)) rfl ?_|refine Wo hw ((hr.free.all hj)) ?_|refine Wn hw (hr.free.jR hj rfl) ?_|refine SW.dK rfl rfl (fun w1 ai=>(cF _ (hw.trans ai))) ?_|refine SW.dK rfl rfl (fun w1 ai=>(cE _)) ?_|(refine SW.ug rfl rfl rfl (fun w1 _=>cD w1) ?_)|(refine SW.st (fG (r:=pw (z.aj[j+1]).Order) rfl rfl (by omega) (by omega) (by simp [pw]) (by omega) (by omega)) rfl ?_)|(refine SW.st (nL (z.aj[j+1]).At (z.aj[j+1]).Order rfl rfl rfl rfl ⟨by omega,by omega,f1,u1,f5⟩) rfl ?_)|exact SW.eU rfl)
         refine ae.bg rfl rfl ⟨_,rfl,hw,?_⟩;rw [qK (fun h=>(h.next j iE).2 Sg)];rfl
        ·by_cases u1:(z.aj[j+1]).Order<4
         ·by_cases u2:(z.aj[j]).Order=(z.aj[j+1]).Order
          ·have u3 : ¬ (z.aj[j]).At=beside (z.aj[j+1]).At (z.aj[j+1]).Order:=fun u3=>Sg ⟨u1,u2,u3⟩
           repeat' (first|refine Wz ?_|((apply CW.bH mixed;(· kernel_rfl);rotate_left;intro w1 ai;obtain ⟨hw,aZ,bq⟩:=cn ai hw aZ bq;clear ai;rotate_right))|refine SW.want rfl rfl ?_|refine SW.st (cf (j) rfl rfl (by assumption) (by omega) (by omega)) rfl ?_|refine Wo hw ((hr.free.all hj)) ?_|refine Wn hw (hr.free.jR hj rfl) ?_|refine SW.dK rfl rfl (fun w1 ai=>(cF _ (hw.trans ai))) ?_|refine SW.dK rfl rfl (fun w1 ai=>(cE _)) ?_|(refine SW.ug rfl rfl rfl (fun w1 _=>cD w1) ?_)|(refine SW.st (fG (r:=pw (z.aj[j+1]).Order) rfl rfl (by omega) (by omega) (by simp [pw]) (by omega) (by omega)) rfl ?_)|(refine SW.st (nL (z.aj[j+1]).At (z.aj[j+1]).Order rfl rfl rfl rfl ⟨by omega,by omega,f1,u1,f5⟩) rfl ?_)|exact SW.eU rfl)
           refine ae.again (j+1+1) ⟨rfl,rfl,rfl,rfl,rfl,trivial⟩ (by omega) ⟨by omega,hw,aZ,fun i h hi => ?_,fun i h hi => ?_⟩
           ·by_cases pk:i=j+1
            ·subst pk;exact BM
            ·exact hI i h (by omega)
           ·by_cases pk:i=j
            ·subst pk;exact ⟨eX,Sg⟩
            ·exact hN i h (by omega)
          ·repeat' (first|refine Wz ?_|((apply CW.bH mixed;(· kernel_rfl);rotate_left;intro w1 ai;obtain ⟨hw,aZ,bq⟩:=cn ai hw aZ bq;clear ai;rotate_right))|refine SW.want rfl rfl ?_|refine SW.st (cf (j) rfl rfl (by assumption) (by omega) (by omega)) rfl ?_|refine Wo hw ((hr.free.all hj)) ?_|refine Wn hw (hr.free.jR hj rfl) ?_|refine SW.dK rfl rfl (fun w1 ai=>(cF _ (hw.trans ai))) ?_|refine SW.dK rfl rfl (fun w1 ai=>(cE _)) ?_|(refine SW.ug rfl rfl rfl (fun w1 _=>cD w1) ?_)|exact SW.eU rfl)
           refine ae.again (j+1+1) ⟨rfl,rfl,rfl,rfl,rfl,trivial⟩ (by omega) ⟨by omega,hw,aZ,fun i h hi => ?_,fun i h hi => ?_⟩
           ·by_cases pk:i=j+1
            ·subst pk;exact BM
            ·exact hI i h (by omega)
           ·by_cases pk:i=j
            ·subst pk;exact ⟨eX,Sg⟩
            ·exact hN i h (by omega)
         ·repeat' (first|refine Wz ?_|((apply CW.bH mixed;(· kernel_rfl);rotate_left;intro w1 ai;obtain ⟨hw,aZ,bq⟩:=cn ai hw aZ bq;clear ai;rotate_right))|refine SW.want rfl rfl ?_|refine SW.st (cf (j) rfl rfl (by assumption) (by omega) (by omega)) rfl ?_|refine Wo hw ((hr.free.all hj)) ?_|refine SW.dK rfl rfl (fun w1 ai=>(cF _ (hw.trans ai))) ?_|refine SW.dK rfl rfl (fun w1 ai=>(cE _)) ?_|(refine SW.ug rfl rfl rfl (fun w1 _=>cD w1) ?_)|exact SW.eU rfl)
          refine ae.again (j+1+1) ⟨rfl,rfl,rfl,rfl,rfl,trivial⟩ (by omega) ⟨by omega,hw,aZ,fun i h hi => ?_,fun i h hi => ?_⟩
          ·by_cases pk:i=j+1
           ·subst pk;exact BM
           ·exact hI i h (by omega)
          ·by_cases pk:i=j
           ·subst pk;exact ⟨eX,Sg⟩
           ·exact hN i h (by omega)
       ·repeat' (first|refine Wz ?_|((apply CW.bH mixed;(· kernel_rfl);rotate_left;intro w1 ai;obtain ⟨hw,aZ,bq⟩:=cn ai hw aZ bq;clear ai;rotate_right))|refine SW.want rfl rfl ?_|refine SW.st (cf (j) rfl rfl (by assumption) (by omega) (by omega)) rfl ?_|refine Wo hw ((hr.free.all hj)) ?_|refine SW.dK rfl rfl (fun w1 ai=>(cF _ (hw.trans ai))) ?_|refine SW.dK rfl rfl (fun w1 ai=>(cE _)) ?_|(refine SW.ug rfl rfl rfl (fun w1 _=>cD w1) ?_)|exact SW.eU rfl)
        refine ae.bg rfl rfl ⟨_,rfl,hw,?_⟩;rw [qK (fun h=>eX (h.next j iE).1)];rfl
     ·have PL:fJ z=false:=qK (fun h=>BM (h.eM k iE))
      by_cases Sf:kh z.aV z.To (z.aj[k]).At (z.aj[k]).Order
      ·have GA : ¬ kU (z.aj[k]).Ty:=fun h=>BM ⟨Sf,h⟩
       have cF:∀ w',Ext w w'->bF prog 132 [.agg (dt r).toArray,.agg (aO z.aj[k]).toArray] w' fun v _=>v = .bool true:=fun w' _=>by
        have:=s5 r z.aj[k] w' (by omega)
        rwa [eF,eT,decide_eq_true Sf] at this
       have cD:∀ w',bF prog 131 ([.int .i64 (z.aj[k]).Ty]++[]) w' fun v _=>v = .bool true:=fun w'=>by
        have:=zp (z.aj[k]).Ty w'
        rwa [Gz GA] at this
       repeat' (first|refine Wz ?_|((apply CW.bH mixed;(· kernel_rfl);rotate_left;intro w1 ai;obtain ⟨hw,aZ,bq⟩:=cn ai hw aZ bq;clear ai;rotate_right))|refine SW.want rfl rfl ?_|refine SW.dK rfl rfl (fun w1 ai=>(cF _ (hw.trans ai))) ?_|(refine SW.ug rfl rfl rfl (fun w1 _=>cD w1) ?_)|exact SW.eU rfl)
       exact ae.bg rfl rfl ⟨_,rfl,hw,by rw [PL];rfl⟩
      ·have cF:∀ w',Ext w w'->bF prog 132 [.agg (dt r).toArray,.agg (aO z.aj[k]).toArray] w' fun v _=>v = .bool false:=fun w' _=>by
        have:=s5 r z.aj[k] w' (by omega)
        rwa [eF,eT,decide_eq_false Sf] at this
       repeat' (first|refine Wz ?_|((apply CW.bH mixed;(· kernel_rfl);rotate_left;intro w1 ai;obtain ⟨hw,aZ,bq⟩:=cn ai hw aZ bq;clear ai;rotate_right))|refine SW.skip rfl rfl rfl rfl ?_|refine SW.dK rfl rfl (fun w1 ai=>(cF _ (hw.trans ai))) ?_|exact SW.eU rfl)
       exact ae.bg rfl rfl ⟨_,rfl,hw,by rw [PL];rfl⟩
    ·refine Wz ?_;refine ae.bg rfl rfl ⟨_,rfl,hw,?_⟩;rw [yq ⟨by rw [<- eF,<- eT];exact lX,XZ,zt,fun i h=>hI i h (by omega),fun i h=>hN i h (by omega)⟩];rfl
   ·rw [Jr] at cO;repeat' (first|refine Wz ?_|(refine Wk (cO _ hw) ?_;intro v w1 ai hv;subst hv;obtain ⟨hw,aZ⟩:=df ai hw aZ;clear ai))
    refine ae.bg rfl rfl ⟨_,rfl,hw,?_⟩
    rw [qK (fun h=>by
     rw [adq] at Jr;obtain ⟨t,h1,h2⟩:=Jr;rw [Gy (h.types t h1)] at h2;cases h2)];rfl
  ·refine Wz ?_;refine SW.alloc rfl fun b3 w1 ai cg aq => ?_
   have gd:=hw.up cg
   have zq:b1≠b3:=by have:=aZ.lt;omega
   obtain ⟨hw,aZ,hs⟩:=cn ai hw aZ hs;refine SW.ag aq rfl rfl rfl rfl (fK _) fun w2 ed hg => ?_
   have hw:=hw.own gd hg;have hs:=hs.eM aq hg rfl rfl;have aZ:=aZ.grown hg (by simpa using zq);have aq:=ed;clear ed ai hg cg;refine Wz ?_;refine ae.bg rfl rfl ⟨_,rfl,hw,?_⟩;rw [qK (fun h=>XZ h.len)];rfl
 ·rw [uh lX] at hv;obtain ⟨s,rfl,hs⟩:=hv;refine Wz ?_;refine SW.alloc rfl fun b3 w1 ai cg aq => ?_
  have gd:=hw.up cg
  have zq:b1≠b3:=by have:=aZ.lt;omega
  obtain ⟨hw,aZ,hs⟩:=cn ai hw aZ hs;refine SW.ag aq rfl rfl rfl rfl (fK _) fun w2 ed hg => ?_
  have hw:=hw.own gd hg;have hs:=hs.eM aq hg rfl rfl;have aZ:=aZ.grown hg (by simpa using zq);have aq:=ed;clear ed ai hg cg;refine Wz ?_;refine ae.bg rfl rfl ⟨_,rfl,hw,?_⟩;rw [qK (fun h=>lX (by rw [eF,eT];exact h.ok))];rfl
variable {l:List Block} {i j:Nat}
def Be (a o:Int) (b:Block) : Bool:=decide (b.At=a) && decide (b.Order=o)
def mB (l:List Block) (a o:Int) : List Block:=l.filter fun b => !Be a o b
def jc:Nat->List Block->Int->Int->List Block×Int×Int
 | 0,l,a,o=>(l,a,o)
 | f+1,l,a,o=>if o<4 then (if l.any (Be (beside a o) o) then jc f (mB l (beside a o) o) (min a (beside a o)) (o+1) else (l,a,o)) else (l,a,o)
def bE (l:List Block) (a:Int) : Nat:=l.findIdx fun b=>decide (a<=b.At)
def aN (l:List α) (i:Nat) (b : α) : List α := l.take i++[b]++l.drop i
def ki (l:List Block) (a o:Int) : Bool:=l.any fun x=>decide (x.At<a+pw o) && decide (a<x.At+pw x.Order)
def sd (l:List Block) : Prop:=l.Pairwise fun x y=>x.At+pw x.Order<=y.At
structure Er (f t:Int) (l:List Block) (a o:Int) : Prop where
 sd:sd l
 eM:∀ b∈l,ld f t b
 fit:kh f t a o
 NZ:∀ b∈l,b.At+pw b.Order<=a∨a+pw o<=b.At
theorem jK (h:sd l) (hj:j<l.length) (pk:i<j) : (l[i]'(by omega)).At+pw (l[i]'(by omega)).Order<=l[j].At:=by
 unfold sd at h;rw [adl] at h;exact h i j (by omega) hj pk
theorem pQ (h:bV z) : sd z.aj:=by
 have key:∀ (d i:Nat) (hj:i+d+1<z.aj.length),(z.aj[i]'(by omega)).At+pw (z.aj[i]'(by omega)).Order<=z.aj[i+d+1].At:=by
  intro d;induction d with
  | zero=>intro i hj;exact (h.next i hj).1
  | succ d ih =>
    intro i hj;have h1:=ih i (by omega);have h2:=(h.next (i+d+1) (by omega)).1;have hb:=(h.eM (i+d+1) (by omega)).1;have:=cQ hb.1 hb.2.1
    have e:z.aj[i+(d+1)+1]=z.aj[i+d+1+1]'(by omega):=rfl
    rw [e];omega
 unfold sd;rw [adl];intro i j hi hj pk;have:=key (j-i-1) i (by omega)
 have e:i+(j-i-1)+1=j:=by omega
 simp only [e] at this;exact this
theorem LH {t:Int} (h:sd l) (hb:∀ b∈l,ld f t b) {x y:Block} (hx:x∈l) (hy:y∈l) : x=y∨x.At+pw x.Order<=y.At∨y.At+pw y.Order<=x.At:=by
 obtain ⟨i,hi,rfl⟩:=ade hx;obtain ⟨j,hj,rfl⟩:=ade hy;rcases adO i j with h1|h1|h1
 ·exact .inr (.inl (jK h hj h1))
 ·subst h1;exact .inl rfl
 ·exact .inr (.inr (jK h hi h1))
theorem QI {t:Int} (h:sd l) (hb:∀ b∈l,ld f t b) (hi:i<l.length) (hj:j<l.length) (e:l[i].At=l[j].At) : i=j:=by
 have p1:=hb _ (adb hi);have p2:=hb _ (adb hj);have q1:=cQ p1.1.1 p1.1.2.1;have q2:=cQ p2.1.1 p2.1.2.1;rcases adO i j with h1|h1|h1
 ·have:=jK h hj h1;omega
 ·exact h1
 ·have:=jK h hi h1;omega
theorem zu (h : 0<=a) (h0 : 0<=o) (h4:o<4) (hm:a % pw o=0) : (min a (beside a o)) % pw (o+1)=0∧(beside a o=a+pw o∨beside a o=a-pw o)∧(beside a o) % pw o=0:=by
 rw [qJ h0 (by omega)];unfold beside;have hp:=fH h0 (show o<=4 by omega);generalize pw o=q at *
 rcases hp with ⟨e,rfl⟩|⟨e,rfl⟩|⟨e,rfl⟩|⟨e,rfl⟩|⟨e,rfl⟩<;>split<;>omega
theorem j7 {b:Block}:Be a o b=true↔b.At=a∧b.Order=o:=by simp [Be]
theorem Er.step {t:Int} (h:Er f t l a o) (h0 : 0<=f) (ho:o<4) (gQ:l.any (Be (beside a o) o)=true) : Er f t (mB l (beside a o) o) (min a (beside a o)) (o+1):=by
 obtain ⟨b,hb,hi⟩:=adq.1 gQ;obtain ⟨e1,e2⟩:=j7.1 hi;obtain ⟨f1,f2,f3,f4,f5⟩:=h.fit;obtain ⟨g1,g2,g3,g4,g5⟩:=(h.eM b hb).1;obtain ⟨k1,k2,k3⟩:=zu (by omega) f1 ho f5;have hp:=qJ f1 f2;have UQ:=cQ f1 f2;refine ⟨h.sd.sublist List.filter_sublist,fun x hx=>h.eM x ((afm.1 hx).1),⟨by omega,by omega,by omega,by omega,k1⟩,fun x hx => ?_⟩;have kW:=(afm.1 hx).1
 have nV:Be (beside a o) o x=false:=by
  have:=(afm.1 hx).2
  simpa using this
 have hd:=h.NZ x kW;have Vs:=cQ (h.eM x kW).1.1 (h.eM x kW).1.2.1;rcases LH h.sd h.eM hb kW with e|e|e
 ·subst e;rw [hi] at nV;cases nV
 ·rw [hp];rw [e2] at e;omega
 ·rw [hp];omega
theorem Es {t:Int} (h0 : 0<=f) : ∀ (k:Nat) {l:List Block} {a o:Int},Er f t l a o->Er f t (jc k l a o).1 (jc k l a o).2.1 (jc k l a o).2.2∧(jc k l a o).1.length<=l.length
 | 0,l,a,o,h=>⟨h,adg _⟩
 | k+1,l,a,o,h=>by
   simp only [jc];split
   ·rename_i ho;split
    ·rename_i gQ;have ih:=Es h0 k (h.step h0 ho gQ);exact ⟨ih.1,adf ih.2 (aeR _ _)⟩
    ·exact ⟨h,adg _⟩
   ·exact ⟨h,adg _⟩
theorem Iw (hi:i<=l.length) (h1:∀ (k:Nat) (h:k<l.length),k<i->l[k].At<a) (h2:∀ h:i<l.length,a<=l[i].At) : bE l a=i:=by
 unfold bE;by_cases h:i<l.length
 ·exact (List.findIdx_eq h).2 ⟨by simpa using h2 h,fun j hj=>by simpa using h1 j (by omega) hj⟩
 ·have e:i=l.length:=by omega
  subst e;rw [List.findIdx_eq_length];intro x hx;obtain ⟨k,hk,rfl⟩:=ade hx;simpa using h1 k hk hk
theorem Ix (l:List Block) (a:Int) : bE l a<=l.length:=List.findIdx_le_length
theorem pR (hk:k<bE l a) : (l[k]'(ad7 hk (Ix l a))).At<a:=by
 have:=List.not_of_lt_findIdx hk
 simpa using this
theorem Et (h:bE l a<l.length) : a<=(l[bE l a]).At:=by
 have:=List.findIdx_getElem (w:=h)
 exact of_decide_eq_true this
def v9 (l:List Block) (a o:Int) : Bool:=if h:bE l a<l.length then decide ((l[bE l a]).At=a∧(l[bE l a]).Order=o) else false
theorem Js {t:Int} (hu:sd l) (hb:∀ b∈l,ld f t b) (a o:Int) : l.any (Be a o)=v9 l a o:=by
 unfold v9;by_cases h:bE l a<l.length
 ·rw [dif_pos h];by_cases hh:(l[bE l a]).At=a∧(l[bE l a]).Order=o
  ·rw [decide_eq_true hh];exact adq.2 ⟨_,adb h,j7.2 hh⟩
  ·rw [decide_eq_false hh,ady];intro x hx hi;obtain ⟨e1,e2⟩:=j7.1 hi;obtain ⟨j,hj,rfl⟩:=ade hx;have h1:=Et h;rcases adO j (bE l a) with eX|eX|eX
   ·have:=pR eX;omega
   ·subst eX;exact hh ⟨e1,e2⟩
   ·have:=jK hu hj eX
    have hp:=hb _ (adb h);have:=cQ hp.1.1 hp.1.2.1
    omega
 ·rw [dif_neg h,ady];intro x hx hi;obtain ⟨e1,e2⟩:=j7.1 hi;obtain ⟨j,hj,rfl⟩:=ade hx;have:=pR (show j<bE l a by omega)
  omega
theorem Bo {t:Int} (hu:sd l) (hb:∀ b∈l,ld f t b) (hi:i<l.length) (h1:l[i].At=a) (h2:l[i].Order=o) : l.eraseIdx i=mB l a o:=by
 have bJ:∀ (j:Nat) (hj:j<l.length),j≠i->Be a o l[j]=false:=fun j hj ja=>by
  cases hh:Be a o l[j] with
  | false=>rfl
  | true =>
    obtain ⟨e1,e2⟩:=j7.1 hh;exact absurd (QI hu hb hj hi (by omega)) ja
 have e:l=l.take i++l[i]::l.drop (i+1):=by simp
 have hL:∀ x∈l.take i,Be a o x=false:=fun x hx=>by
  obtain ⟨j,hj,rfl⟩:=ade hx;simp at hj;rw [adS];exact bJ j (by omega) (by omega)
 have hR:∀ x∈l.drop (i+1),Be a o x=false:=fun x hx=>by
  obtain ⟨j,hj,rfl⟩:=ade hx;simp at hj;rw [ad9];exact bJ _ (by omega) (by omega)
 have hm:Be a o l[i]=true:=j7.2 ⟨h1,h2⟩
 unfold mB;rw [adM]
 conv=>rhs;rw [e]
 rw [List.filter_append,List.filter_cons];simp only [hm,Bool.not_true,Bool.false_eq_true,if_false];rw [aeH.2 (fun x hx=>by simp [hL x hx]),aeH.2 (fun x hx=>by simp [hR x hx])]
noncomputable def fT (z:ao) (a o:Int) : Int×ao :=
 if fJ z then (if kh z.aV z.To a o then (if ki z.aj a o then (5,⟨0,0,[],[]⟩) else
  (0,⟨z.aV,z.To,aN (jc 5 z.aj a o).1 (bE (jc 5 z.aj a o).1 (jc 5 z.aj a o).2.1) ⟨(jc 5 z.aj a o).2.1,(jc 5 z.aj a o).2.2,z.Types.getD (((jc 5 z.aj a o).2.1-z.aV) / 8).toNat 0⟩,z.Types⟩)) else (1,⟨0,0,[],[]⟩)) else (8,⟨0,0,[],[]⟩)
theorem zv {f t:Int} (hz:bV z) (hf:kh z.aV z.To a o) (h:ki z.aj a o=false) : Er z.aV z.To z.aj a o:=by
 refine ⟨pQ hz,fun b hb => ?_,hf,fun b hb => ?_⟩
 ·obtain ⟨i,hi,rfl⟩:=ade hb;exact hz.eM i hi
 ·unfold ki at h;rw [ady] at h;have:=h b hb
  simp at this;omega
section
variable {P:Program} {n:Nat} {Q:Exit->Act->World->Prop} {L:Env} {w:World}
def Oo (n:Nat) (K:Env->World->Prop) (Q:Exit->Act->World->Prop) : Exit->Act->World->Prop
 | .normal,a,w' => ∃ L',Fit n a L'∧K L' w'
 | e,a,w'=>Q e a w'
theorem CW.Oq {c:Code} (K:Env->World->Prop) (h:CW P n c (Oo n K Q) L w) (k:∀ L' w',K L' w'->ae n Q .normal L' w') : CW P n c Q L w :=
 ⟨fun a ha=>wp_mono (h.out a ha) fun e a' w' h'=>by
  cases e with
  | normal=>obtain ⟨L',hf,hk⟩:=h';exact (k L' w' hk).out a' hf
  | _=>exact h'⟩
theorem CW.LI {c:Code} {id:Nat} (K:Env->World->Prop) (h:CW P n c (Exit.inBlock id (Oo n K Q)) L w) (k:∀ L' w',K L' w'->ae n Q .normal L' w') : CW P n c (Exit.inBlock id Q) L w :=
 ⟨fun a ha=>wp_mono (h.out a ha) fun e a' w' h'=>by
  cases e with
  | normal=>obtain ⟨L',hf,hk⟩:=h';exact (k L' w' hk).out a' hf
  | exit j =>
    simp only [Exit.inBlock] at h' ⊢;split
    ·rename_i hj;rw [if_pos hj] at h';obtain ⟨L',hf,hk⟩:=h';exact (k L' w' hk).out a' hf
    ·rename_i hj;rw [if_neg hj] at h';exact h'
  | _=>exact h'⟩
theorem ae.mj {K:Env->World->Prop} (h:K L w) : ae n (Oo n K Q) .normal L w:=⟨fun _ ha=>⟨L,ha,h⟩⟩
theorem ae.LJ {K:Env->World->Prop} {id:Nat} (h:ae n Q (.exit id) L w) : ae n (Oo n K Q) (.exit id) L w:=⟨fun a ha=>h.out a ha⟩
end
variable {af:Array Edge} {ops:Array Oper} {ts:Array TypeId} {Q:Exit->Act->World->Prop} {fn:Func} {lk:IntKind} {args jV:List Value} {bytes c2 d dd m sz:Nat} {A X:Option Addr} {row S4:Option Nat} {P:Program} {T e tn:TypeId} {w1 w2:World} {enc:α -> List Value}
def lay (jV:List Value) (o:Nat) (cs:List Value) : List Value:=jV.take o++cs++jV.drop (o+cs.length)
theorem Iy (jV:List Value) (o:Nat) : lay jV o []=jV:=by simp [lay]
theorem fb (X Y Z cs:List Value) (h:cs.length=Y.length) {o:Nat} (ho:o=X.length) : lay (X++Y++Z) o cs=X++cs++Z:=by
 subst ho;unfold lay;rw [adj X Y Z,List.take_left,h];congr 1
 rw [<- adj,List.drop_append];have e:List.drop (X.length+Y.length) (X++Y)=[]:=aen (by simp)
 rw [e];simp
theorem Own.opened [E:iy enc sz] {n c:Nat} {l:List α} (h:Own w lo e sz enc A n c l) (hc : 0<c) :
 ∃ g rest,A=some ⟨g,0,none⟩∧lo<=g∧aS w g e (l.flatMap enc++rest)∧n*sz+rest.length=c*sz∧n<=c∧c<=maxLen∧aJ A c=some g:=by
 rcases h.row with ⟨_,h0⟩|⟨_,g,jV,rfl,h1,h2,h3,h4,h5,h6⟩
 ·omega
 ·refine ⟨g,jV.toList.drop (n*sz),rfl,h1,?_,?_,h3,h4,by simp [aJ,Nat.pos_iff_ne_zero.1 hc]⟩
  ·unfold aS;rw [<- h6,adh];simpa using h2
  ·have:n*sz<=c*sz:=adD _ h3
   simp;omega
theorem Own.closed [E:iy enc sz] {n c g:Nat} {l:List α} {rest:List Value} (hl:l.length=n) (hB:aS w g e (l.flatMap enc++rest)) (hr:n*sz+rest.length=c*sz) (hn:n<=c) (hc : 0<c) (hm:c<=maxLen) (dD:lo<=g) :
 Own w lo e sz enc (some ⟨g,0,none⟩) n c l:=by
 have pf:(l.flatMap enc).length=n*sz:=by rw [aW,hl]
 refine ⟨hl,.inr ⟨hc,g,_,rfl,dD,hB,hn,hm,?_,?_⟩⟩
 ·simp [pf];omega
 ·rw [<- pf];simp
theorem Own.pre [E:iy enc sz] {n c:Nat} {l:List α} (h:Own w lo e sz enc A n c l) (hi:i<=n) : Own w lo e sz enc A i c (l.take i):=by
 rcases adu c with hc|hc
 ·have h1:=h.le.1;have:n=0:=by omega
  subst hc this;obtain rfl:i=0:=by omega
  simpa using Own.fF w lo e sz enc A
 ·obtain ⟨g,rest,rfl,h1,h2,h3,h4,h5,_⟩:=h.opened hc;refine Own.closed (rest:=(l.drop i).flatMap enc++rest) (by simp [h.len];omega) ?_ ?_ (by omega) hc h5 h1
  ·rw [<- adj,<- adt,adh];exact h2
  ·have e1:((l.drop i).flatMap enc).length=(n-i)*sz:=by rw [aW];simp [h.len]
   have e2:i+(n-i)=n:=by omega
   rw [adp,e1,<- h3,<- ae7,<- ad0,e2]
theorem Sl.drop {n:Nat} {l:List α} (h:Sl w sz enc A n l) (i c:Nat) (hi:i<=n) (hc:n<=c) : Sl w sz enc (if c=i then A else A.map (·.add (i*sz))) (n-i) (l.drop i):=by
 refine ⟨by simp [h.len],fun hn => ?_,fun j hj k u hu => ?_⟩
 ·have:=h.base (by omega)
  split
  ·exact this
  ·simpa using this
 ·simp at hj;have hl:=h.len;rw [if_neg (by omega)];have hb:=h.base (by omega);obtain ⟨a,rfl⟩:=adH.1 hb;have xl:=h.cell (i+j) (by omega) k u (by simpa using hu);simp only [Option.getD_some,Option.map_some,add_add] at xl ⊢;rw [<- xl];congr 2
  rw [ad0]
theorem Sl.pre {n:Nat} {l:List α} (h:Sl w sz enc A n l) (hi:i<=n) : Sl w sz enc A i (l.take i):=by
 refine ⟨by simp [h.len];omega,fun hn=>h.base (by omega),fun j hj k u hu => ?_⟩;simp at hj;exact h.cell j (by omega) k u (by simpa using hu)
section
variable {P:Program} {w:World}
theorem ij {g:Nat} (h:aS w g e jV) : aS (w.setRow g cs.toArray) g e cs∧w.grownBy (w.setRow g cs.toArray) (some g) :=
 ⟨setRow_heap w g _ _ e (0,0) h,⟨rfl,rfl,rfl,by simp,fun j _ hj=>by
  show (w.setRow g _).heap[j]?=_
  simp only [World.setRow,Array.getElem?_modify];rw [if_neg (fun e=>hj (by simp [e]))]⟩⟩
theorem Dd {z:Value} [S:bz P t e sz] [T:dr P e z sz bytes] (ty:TypeId) {n c g o:Nat} (hk:min m n=k) (hlen:cs.length=k*sz) (hB:aS w g e jV) (pn:o+cs.length<=jV.length)
 (kq : 0<k->A=some ⟨g,o,none⟩ ∧ ∃ ad,X=some ad ∧ ∀ j v,cs[j]?=some v->w.cell? (ad.add j)=some v) (h1:∀ v∈cs,v.oneCell'=true) :
 ∃ w',(Builtin.copy_ #[t,t] ty #[.slice A n c,.slice X m c2]).run P w = .ok (.int .i64 (k:Int)) w'∧aS w' g e (lay jV o cs)∧w.grownBy w' (some g):=by
 obtain ⟨i,hi,hz,hs,yo⟩:=eB P e (z:=z) (sz:=sz) (bytes:=bytes);have Ot:Nat.min m n=k:=hk
 by_cases h0:k=0
 ·have lT:cs=[]:=adw (by rw [hlen,h0];simp)
  subst lT;refine ⟨w,?_,by rw [Iy];exact hB,World.grownBy.refl _ _⟩;cases A<;>cases X<;>simp [Builtin.copy_,run_underlying S.oz,Builtin.lenOf,Builtin.firstCells,sizeOf,typeInfo,hi,Ot,h0,loadCells,loadCellsFrom,storeCells,goInt]
 ·obtain ⟨rfl,ad,rfl,lU⟩:=kq (by omega);have hl:=run_loadCells_list (P:=P) w ad cs lU;have Bc:=run_storeCells_at P g o e cs 0 jV.toArray w hB (by simpa using pn) h1;have e1:(jV.toArray.toList.take (o+0)++cs++jV.toArray.toList.drop (o+0+cs.length))=lay jV o cs:=by simp [lay]
  rw [e1] at Bc;rw [hlen] at hl;refine ⟨_,?_,(ij hB).1,(ij hB).2⟩;simp [Builtin.copy_,run_underlying S.oz,Builtin.lenOf,Builtin.firstCells,sizeOf,typeInfo,hi,hs,Ot,hl,Bc,goInt]
theorem Bp {z:Value} [S:bz P t e sz] [T:dr P e z sz bytes] (ty:TypeId) {n c g o:Nat} (hB:aS w g e jV) (pn:o+n*sz<=jV.length) (kq : 0<n->A=some ⟨g,o,none⟩) (Ou:∀ v∈z.cells.toList,v.oneCell'=true) :
 ∃ w' cs,(Builtin.clear_ #[t] ty #[.slice A n c]).run P w = .ok (.tuple #[]) w'∧cs.length=n*sz∧aS w' g e (lay jV o cs)∧w.grownBy w' (some g):=by
 obtain ⟨i,hi,hz,hs,yo⟩:=eB P e (z:=z) (sz:=sz) (bytes:=bytes);by_cases h0:n=0
 ·subst h0;refine ⟨w,[],?_,by simp,by rw [Iy];exact hB,World.grownBy.refl _ _⟩;cases A<;>simp [Builtin.clear_,run_underlying S.oz]
 ·obtain rfl:=kq (by omega);obtain ⟨k,rfl⟩ : ∃ k,n=k+1:=⟨n-1,by omega⟩;have hlen:(Builtin.zeroCells z.cells (k+1)).toList.length=(k+1)*sz:=by simp [Go.size_zeroCells,T.zc]
  have h1:∀ v∈(Builtin.zeroCells z.cells (k+1)).toList,v.oneCell'=true:=by
   intro v hv;simp only [Builtin.zeroCells,Array.toList_map,Array.toList_range,List.mem_map] at hv;obtain ⟨j,hj,rfl⟩:=hv;have hp:=T.pos;have:j % z.cells.size<z.cells.size:=Nat.mod_lt _ (by rw [T.zc];exact hp)
   rw [getElem!_pos z.cells _ this];exact Ou _ (Array.getElem_mem_toList _)
  have Bc:=run_storeCells_at P g o e (Builtin.zeroCells z.cells (k+1)).toList 0 jV.toArray w hB (by rw [hlen];simpa using pn) h1;have e1:(jV.toArray.toList.take (o+0)++(Builtin.zeroCells z.cells (k+1)).toList++jV.toArray.toList.drop (o+0+(Builtin.zeroCells z.cells (k+1)).toList.length))=lay jV o (Builtin.zeroCells z.cells (k+1)).toList:=by simp [lay]
  rw [e1] at Bc;refine ⟨_,_,?_,hlen,(ij hB).1,(ij hB).2⟩;simp [Builtin.clear_,run_underlying S.oz,zeroValue,typeInfo,hi,hz,Bc]
end
section
variable {P:Program} {n:Nat} {ops:Array Oper} {Q:Exit->Act->World->Prop} {rest:List Oper} {L:Env} {w:World} {d:Option Nat} {T:TypeId} {pos:String} {af:Array Edge} {g:Option (Nat×Bool)}
theorem SW.copy {d:Nat} {t e:TypeId} {z:Value} {sz bytes:Nat} [S:bz P t e sz] [E:dr P e z sz bytes] {x y:Operand} {A X:Option Addr} {m c m2 c2 k g:Nat} (o:Nat) {jV:List Value} (cs:List Value) (hB:aS w g e jV) (hx:cT L x=some (.slice A m c)) (hy:cT L y=some (.slice X m2 c2)) (hn:Nat.blt d n=true)
 (hk:min m2 m=k) (hlen:cs.length=k*sz) (pn:o+cs.length<=jV.length) (kq : 0<k->A=some ⟨g,o,none⟩ ∧ ∃ ad,X=some ad ∧ ∀ j v,cs[j]?=some v->w.cell? (ad.add j)=some v) (h1:∀ v∈cs,v.oneCell'=true)
 (h:∀ w',aS w' g e (lay jV o cs)->w.grownBy w' (some g)->SW P n ops (.gM Q) rest ((d,.int .i64 (k:Int))::L) w') :
 SW P n ops (.gM Q) (⟨some d,.call ⟨.builtin .copy,#[x,y],#[t,t]⟩,T,pos,af,none⟩::rest) L w :=
 ⟨fun a ha=>by
  obtain ⟨w',hr,h2,h3⟩:=Dd (P:=P) (t:=t) T (c:=c) (c2:=c2) hk hlen hB pn kq h1;simp only [swp,wpList,Region.wanted,if_true];refine .inl ?_;unfold Oper.wp
  have:(execOp a.eval ⟨some d,.call ⟨.builtin .copy,#[x,y],#[t,t]⟩,T,pos,af,none⟩).run P w = .ok (.value (.int .i64 (k:Int))) w':=by
   simp [execOp,resolve,invoke,builtin,ha.eval hx,ha.eval hy,hr]
  rw [this,Oper.upon_value];exact (h w' h2 h3).out _ (ha.put hn _)⟩
theorem SW.S1 {d:Nat} {t e:TypeId} {z:Value} {sz bytes:Nat} [S:bz P t e sz] [E:dr P e z sz bytes] {x y:Operand} {A X:Option Addr} {m c m2 c2:Nat} (hx:cT L x=some (.slice A m c)) (hy:cT L y=some (.slice X m2 c2)) (hn:Nat.blt d n=true) (hk:min m2 m=0)
 (h:SW P n ops (.gM Q) rest ((d,.int .i64 0)::L) w) : SW P n ops (.gM Q) (⟨some d,.call ⟨.builtin .copy,#[x,y],#[t,t]⟩,T,pos,af,none⟩::rest) L w :=
 ⟨fun a ha=>by
  obtain ⟨i,hi,hz,hs,yo⟩:=eB P e (z:=z) (sz:=sz) (bytes:=bytes);have Ot:Nat.min m2 m=0:=hk
  simp only [swp,wpList,Region.wanted,if_true];refine .inl ?_;unfold Oper.wp
  have hr:(Builtin.copy_ #[t,t] T #[.slice A m c,.slice X m2 c2]).run P w = .ok (.int .i64 0) w:=by
   cases A<;>cases X<;>simp [Builtin.copy_,run_underlying S.oz,Builtin.lenOf,Builtin.firstCells,sizeOf,typeInfo,hi,Ot,loadCells,loadCellsFrom,storeCells,goInt]
  have:(execOp a.eval ⟨some d,.call ⟨.builtin .copy,#[x,y],#[t,t]⟩,T,pos,af,none⟩).run P w = .ok (.value (.int .i64 0)) w:=by
   simp [execOp,resolve,invoke,builtin,ha.eval hx,ha.eval hy,hr]
  rw [this,Oper.upon_value];exact h.out _ (ha.put hn _)⟩
theorem SW.clear {z:Value} [S:bz P t e sz] [E:dr P e z sz bytes] {x:Operand} {c g:Nat} (o:Nat) (hB:aS w g e jV) (hx:cT L x=some (.slice A m c)) (pn:o+m*sz<=jV.length) (kq : 0<m->A=some ⟨g,o,none⟩) (Ou:∀ v∈z.cells.toList,v.oneCell'=true)
 (h:∀ w' cs,cs.length=m*sz->aS w' g e (lay jV o cs)->w.grownBy w' (some g)->SW P n ops (.gM Q) rest L w') :
 SW P n ops (.gM Q) (⟨none,.call ⟨.builtin .clear,#[x],#[t]⟩,T,pos,af,none⟩::rest) L w :=
 ⟨fun a ha=>by
  obtain ⟨w',cs,hr,h1,h2,h3⟩:=Bp (P:=P) (t:=t) T (c:=c) hB pn kq Ou;simp only [swp,wpList,Region.wanted,if_true];refine .inl ?_;unfold Oper.wp
  have:(execOp a.eval ⟨none,.call ⟨.builtin .clear,#[x],#[t]⟩,T,pos,af,none⟩).run P w = .ok (.value (.tuple #[])) w':=by
   simp [execOp,resolve,invoke,builtin,ha.eval hx,hr]
  rw [this,Oper.upon_value];exact (h w' cs h1 h2 h3).out _ (ha.Lt _)⟩
theorem jX [c:bz P t e sz] {x u:Operand} {cap:Nat} (hx:cT L x=some (.slice A m cap)) (hy:cT L y=some (.int .i64 (i:Int))) (hu:cT L u=some (.int .i64 (j:Int))) (hi:i<=j) (hj:j<=cap) :
 St P ⟨d,.slice t x (some y) (some u) none,T,pos,af,g⟩ L w (.slice (if cap=i then A else A.map (·.add (i*sz))) (j-i) (cap-i)) :=
 ⟨fun _ a ha w' _=>by
  have e1:=ha.eval hx;have e2:=ha.eval hy;have e3:=ha.eval hu;generalize a.eval = ρ at *
  simp [execOp,e1,e2,e3,Instr.sliceAt,Instr.slice,Instr.sliceBounds,Instr.sliceBound,asIntOf,run_underlying c.oz,run_sizeOf c.size,hi,hj]⟩
theorem s8 [c:bz P t e sz] {x u v:Operand} {cap:Nat} (hx:cT L x=some (.slice A m cap)) (hy:cT L y=some (.int .i64 (i:Int))) (hu:cT L u=some (.int .i64 (j:Int))) (hv:cT L v=some (.int .i64 (k:Int))) (hi:i<=j) (hj:j<=k) (hk:k<=cap) :
 St P ⟨d,.slice t x (some y) (some u) (some v),T,pos,af,g⟩ L w (.slice (if k=i then A else A.map (·.add (i*sz))) (j-i) (k-i)) :=
 ⟨fun _ a ha w' _=>by
  have e1:=ha.eval hx;have e2:=ha.eval hy;have e3:=ha.eval hu;have e4:=ha.eval hv;generalize a.eval = ρ at *
  simp [execOp,e1,e2,e3,e4,Instr.sliceAt,Instr.slice,Instr.sliceBounds,Instr.sliceBound,asIntOf,run_underlying c.oz,run_sizeOf c.size,hi,hj,hk]⟩
end
section
variable {P:Program} {n:Nat} {ops:Array Oper} {Q:Exit->Act->World->Prop} {rest:List Oper} {L:Env} {w:World}
structure iO (P:Program) (f:FuncId) (args:List Value) (w:World) (R:Value->World->Prop) : Prop where
 out:Calls P f args.toArray w fun e w' => ∃ v,e = .returned v∧R v w'
theorem SW.dX {f:FuncId} {xs:List Operand} {vs:List Value} {pos:String} {R:Value->World->Prop}
 [Body P f] (hx:uT L xs=some vs) (hn:Nat.blt d n=true) (hc:iO P f vs w R) (h:∀ v w',R v w'->SW P n ops (.gM Q) rest ((d,v)::L) w') :
 SW P n ops (.gM Q) (⟨some d,.call ⟨.value (.func f),xs.toArray,ts⟩,T,pos,af,none⟩::rest) L w :=
 ⟨fun a ha=>by
  simp only [swp,wpList,Region.wanted,if_true];refine .inl ?_;unfold Oper.wp;rw [yZ,Oper.upon_enter,ha.uU hx];refine Calls.mono hc.out ?_;rintro e w' ⟨v,rfl,hv⟩
  exact (h v w' hv).out _ (ha.put hn v)⟩
theorem dl {f:FuncId} {c:Code} {R:Value->World->Prop} (hf:P.funcs[f]?=some fn) (hb:fn.body=some c) (hn:fn.ntmps=n) (hl:Nat.ble args.length n=true)
 (h:CW P n c (bodyPost P fn fun e w' => ∃ v,e = .returned v∧R v w') (sX 0 args) w) : iO P f args w R:=by
 have Bb:args.length<=n:=by simpa using hl
 refine ⟨calls_of_wp hf hb (h.out _ ⟨?_,rfl,?_⟩)⟩
 ·simp [hn];omega
 ·intro i v hi;obtain ⟨_,h2⟩:=r6 args 0 i v hi;simp only [Nat.sub_zero] at h2
  have eX:i<args.length:=by
   rcases adL i args.length with h|h
   ·exact h
   ·rw [adY h] at h2;cases h2
  rw [aeo,ae5 (by simpa using eX)];simp [h2]
theorem SW.entry {f:FuncId} {e:Array Value->Sem Value} {xs:List Operand} {vs:List Value} {v:Value} {pos:String}
 (hf : P.funcs[f]? = some fn) (S3 : (fn.name == "runtime.NumGoroutine") = false) (hb : fn.body.isNone = true) (Gv : Extern.findNext fn = none) (he : Extern.find fn = some e) (hx : uT L xs = some vs) (hn : Nat.blt d n = true)
 (hr:(e vs.toArray).run P w = .ok v w) (h:SW P n ops (.gM Q) rest ((d,v)::L) w) :
 SW P n ops (.gM Q) (⟨some d,.call ⟨.value (.func f),xs.toArray,ts⟩,T,pos,af,none⟩::rest) L w :=
 ⟨fun a ha=>by
  simp only [swp,wpList,Region.wanted,if_true];refine .inl ?_;unfold Oper.wp;have h1:=run_callFunc_extern (P:=P) hf S3 hb Gv he vs.toArray w
  have:(execOp a.eval ⟨some d,.call ⟨.value (.func f),xs.toArray,ts⟩,T,pos,af,none⟩).run P w = .ok (.value v) w:=by
   have e2:=ha.uU hx;simp only [execOp,resolve,Deferred.ofValue,Act.eval,Sem.run_bind,Result.andThen,invoke,List.map_toArray,e2];rw [hr] at h1;simpa [Result.andThen] using h1
  rw [this,Oper.upon_value];exact h.out _ (ha.put hn v)⟩
end
theorem Ext.gr (h:Ext w w') (row:Option Nat) : w.grownBy w' row:=⟨h.os,h.tape,h.output,h.size,fun k hk _=>h.block k hk⟩
theorem bU (h:w.grownBy w1 row) (k:w1.grownBy w2 S4) (hr:S4=row ∨ ∀ i,S4=some i->w.heap.size<=i) : w.grownBy w2 row :=
 ⟨k.os.trans h.os,k.tape.trans h.tape,k.output.trans h.output,adf h.size k.size,fun i hi bJ=>by
  have po:i<w1.heap.size:=ad7 hi h.size
  rcases hr with e|e
  ·subst e;rw [k.block i po bJ,h.block i hi bJ]
  ·rw [k.block i po (fun e'=>by have:=e i e'.symm;omega),h.block i hi bJ]⟩
theorem SW.u6 {n:Nat} {rest:List Oper} {L:Env} {pos:String} {z:Value} {c:Nat} {l ys:List α} [S:bz P t e sz] [T':dr P e z sz bytes] [E:iy enc sz] {x:Operand}
 (hO:Own w lo e sz enc A k c l) (hS:Sl w sz enc X m ys) (ky:k+m<=c) (hx:cT L x=some (.slice A k c)) (hy:cT L y=some (.slice X m c2)) (hn:Nat.blt dd n=true)
 (h:∀ w',Own w' lo e sz enc A (k+m) c (l++ys)->w.grownBy w' (aJ A c)->SW P n ops (.gM Q) rest ((dd,.slice A (k+m) c)::L) w') :
 SW P n ops (.gM Q) (⟨some dd,.call ⟨.builtin .append,#[x,y],#[t,t]⟩,T,pos,af,none⟩::rest) L w :=
 ⟨fun a ha=>by
  obtain ⟨i,hi,hz,hs,yo⟩:=eB P e (z:=z) (sz:=sz) (bytes:=bytes);have Lj:(ys.flatMap enc).length=m*sz:=by rw [aW,hS.len]
  have pe:∀ u∈ys.flatMap enc,u.oneCell'=true:=fun u hu=>by
   obtain ⟨x,_,hx⟩:=adx.1 hu;exact E.one x u hx
  have key:∃ w',(Builtin.append_ #[t,t] T #[.slice A k c,.slice X m c2]).run P w = .ok (.slice A (k+m) c) w'∧Own w' lo e sz enc A (k+m) c (l++ys)∧w.grownBy w' (aJ A c):=by
   by_cases Eh:m=0
   ·subst Eh;have Zy:ys=[]:=adw hS.len
    subst Zy;refine ⟨w,?_,by simpa using hO,World.grownBy.refl _ _⟩;have N0:k<=c:=by omega
    cases A<;>cases X<;>simp [Builtin.append_,run_underlying S.oz,sizeOf,typeInfo,hi,Builtin.lenOf,N0,Builtin.firstCells,loadCells,loadCellsFrom,storeCells]
   ·obtain ⟨ad,rfl⟩:=adH.1 (hS.base (by omega));have uV:=du T'.pos hS;obtain ⟨g,rest,rfl,h1,h2,h3,h4,h5,h6⟩:=hO.opened (by omega);have pn:(k+m)*sz<=c*sz:=adD _ ky
    have pf:(l.flatMap enc).length=k*sz:=by rw [aW,hO.len]
    rw [ad0] at pn;have hr:=run_append_room (P:=P) w t T e i S.oz hi g k c (l.flatMap enc++rest).toArray h2 ad m c2 (ys.flatMap enc) (by rw [hs];exact Lj) uV pe ky (by rw [hs,Lj];simp [pf];omega)
    have e1:(l.flatMap enc++rest).toArray.toList.take (k*i.size)++ys.flatMap enc++(l.flatMap enc++rest).toArray.toList.drop (k*i.size+(ys.flatMap enc).length)=(l++ys).flatMap enc++rest.drop (m*sz):=by
     rw [hs];have h7:=fb (l.flatMap enc) (rest.take (m*sz)) (rest.drop (m*sz)) (ys.flatMap enc) (by rw [Lj];simp;omega) (o:=k*sz) pf.symm;rw [adj (l.flatMap enc),adh] at h7;rw [adt];exact h7
    rw [e1] at hr;refine ⟨_,hr,?_,?_⟩
    ·exact Own.closed (by rw [adp,hO.len,hS.len]) (ij h2).1 (by rw [ad0];simp;omega) ky (by omega) h5 h1
    ·rw [h6];exact (ij h2).2
  obtain ⟨w',hr,h1,h2⟩:=key;simp only [swp,wpList,Region.wanted,if_true];refine .inl ?_;unfold Oper.wp
  have:(execOp a.eval ⟨some dd,.call ⟨.builtin .append,#[x,y],#[t,t]⟩,T,pos,af,none⟩).run P w = .ok (.value (.slice A (k+m) c)) w':=by
   simp [execOp,resolve,invoke,builtin,ha.eval hx,ha.eval hy,hr]
  rw [this,Oper.upon_value];exact (h w' h1 h2).out _ (ha.put hn _)⟩
theorem SW.yu {n:Nat} {rest:List Oper} {L:Env} {pos:String} {z:Value} {c:Nat} {l:List α} [S:bz P t e sz] [T':dr P e z sz bytes] [E:iy enc sz] {x:Operand}
 {j:Int} (hS:Sl w sz enc A m l) (Zz:P.underlying tn=some (.int lk)) (hx:cT L x=some (.slice A m c)) (hy:cT L y=some (.int .i64 j)) (hj:j=(k:Int)) (hn:Nat.blt d n=true) (hk : 0<k) (ky:c<m+k) (hb:(m+k)*bytes<=140737488355328) (hm:m+k<=9223372036854775807)
 (h:∀ g PM c' w',Ext w w'->w.heap.size<=g->aS w' g e (l.flatMap enc++PM)->m*sz+PM.length=c'*sz->m+k<=c'->c'<=maxLen->SW P n ops (.gM Q) rest ((d,.slice (some ⟨g,0,none⟩) (m+k) c')::L) w') :
 SW P n ops (.gM Q) (⟨some d,.call ⟨.builtin .append,#[x,y],#[t,tn]⟩,T,pos,af,none⟩::rest) L w :=
 ⟨fun a ha=>by
  subst hj;obtain ⟨i,hi,hz,hs,yo⟩:=eB P e (z:=z) (sz:=sz) (bytes:=bytes);have hp:=T'.pos;have QJ:=du hp hS;have hlen:(l.flatMap enc).length=m*sz:=by rw [aW,hS.len]
  have hold:(Builtin.firstCells i.size m (.slice A m c)).run P w.drew = .ok (l.flatMap enc).toArray w.drew:=by
   rw [hs];cases A with
   | none =>
     have h0:m=0:=by
      rcases adu m with h0|h0
      ·exact h0
      ·have:=hS.base h0;simp at this
     subst h0;have:l=[]:=adw hS.len
     subst this;simp [Builtin.firstCells]
   | some ad =>
     simp only [Builtin.firstCells];rw [<- hlen];exact run_loadCells_list (P:=P) w.drew ad _ (fun j v hv=>QJ j v hv)
  have Ov:=Room.nextslicecap_le' ky
  have pn:Builtin.nextslicecap (m+k) c*i.bytes<=281474976710656:=by
   rw [yo]
   calc Builtin.nextslicecap (m+k) c*bytes<=2*(m+k)*bytes:=adD _ Ov
    _<=281474976710656:=by rw [Nat.mul_assoc];omega
  have ZA:k*i.bytes<=281474976710656:=by
   rw [yo];have:k*bytes<=(m+k)*bytes:=adD _ (by omega)
   omega
  have hr:=Lib.run_append_grow_zeros (P:=P) w t tn T e i z .i64 lk S.oz Zz hi hz A m c _ hold k hk (by rw [hs];exact hp) ky (by omega) ZA pn;simp only [swp,wpList,Region.wanted,if_true];refine .inl ?_;unfold Oper.wp
  have:(execOp a.eval ⟨some d,.call ⟨.builtin .append,#[x,y],#[t,tn]⟩,T,pos,af,none⟩).run P w = .ok (.value (.slice (some ⟨w.heap.size,0,none⟩) (m+k) (grownCap w (m+k) c e))) (w.drew.alloc (.cells ((l.flatMap enc).toArray++Builtin.zeroCells z.cells k++Builtin.zeroCells z.cells (grownCap w (m+k) c e-(m+k))) e)):=by
   simp [execOp,resolve,invoke,builtin,ha.eval hx,ha.eval hy,hr]
  rw [this,Oper.upon_value];have hg:=grownCap_ge w (m+k) c e;refine (h w.heap.size ((Builtin.zeroCells z.cells k).toList++(Builtin.zeroCells z.cells (grownCap w (m+k) c e-(m+k))).toList) _ _ (Ext.trans (Ext.drew w) (Ext.alloc _ _)) (adg _) ?_ ?_ hg (grownCap_le_maxLen w _ _ _ (by simp only [maxLen];omega))).out _ (ha.put hn _)
  ·have:=aS.new w.drew e (l.flatMap enc++((Builtin.zeroCells z.cells k).toList++(Builtin.zeroCells z.cells (grownCap w (m+k) c e-(m+k))).toList))
   have e1:(l.flatMap enc++((Builtin.zeroCells z.cells k).toList++(Builtin.zeroCells z.cells (grownCap w (m+k) c e-(m+k))).toList)).toArray=(l.flatMap enc).toArray++Builtin.zeroCells z.cells k++Builtin.zeroCells z.cells (grownCap w (m+k) c e-(m+k)):=by
    apply Array.ext';simp
   rw [e1] at this;exact this
  ·simp only [List.length_append,Array.length_toList,Go.size_zeroCells,T'.zc];rw [<- ad0,<- ad0];congr 1;omega⟩
variable {β:Type} {ys:List β} {t':TypeId}
def rL (w w':World) (t:TypeId) : Prop := ∃ row,w.grownBy w' row ∧ ∀ k,row=some k -> ∃ cs,w.heap[k]?=some (.cells cs t (0,0))
theorem Own.gr {n c:Nat} {l:List α} (h:Own w lo e sz enc A n c l) (hg:w.grownBy w' (aJ A c)) : rL w w' e:=by
 refine ⟨_,hg,fun k hk => ?_⟩;rcases h.row with ⟨_,rfl⟩|⟨hc,g,jV,rfl,_,h2,_⟩
 ·simp [aJ] at hk
 ·simp [aJ,Nat.pos_iff_ne_zero.1 hc] at hk;subst hk;exact ⟨jV,h2⟩
theorem aS.gr (h:aS w b t cs) (hg:w.grownBy w' (some b)) : rL w w' t:=⟨_,hg,fun k hk=>by cases hk;exact ⟨_,h⟩⟩
theorem Own.aK {t:Nat} {n c:Nat} {l:List α} (h:Own w lo e sz enc A n c l) (hG:rL w w' t) (bJ:Nat.beq t e=false) : Own w' lo e sz enc A n c l:=by
 obtain ⟨row,hg,hr⟩:=hG;refine h.grown hg ?_;rcases h.row with ⟨_,rfl⟩|⟨hc,g,jV,rfl,_,h2,_⟩
 ·simp [aJ]
 ·right;rintro rfl;obtain ⟨cs,h3⟩:=hr g (by simp [aJ,Nat.pos_iff_ne_zero.1 hc]);rw [h2] at h3;injection h3 with h3
  injection h3 with _ h _
  subst h;simp at bJ
theorem aS.aK {t:Nat} (h:aS w b t' cs) (hG:rL w w' t) (bJ:Nat.beq t t'=false) : aS w' b t' cs:=by
 obtain ⟨row,hg,hr⟩:=hG;refine h.grown hg ?_;rintro rfl;obtain ⟨cs,h3⟩:=hr b rfl;unfold aS at h;rw [h] at h3;injection h3 with h3
 injection h3 with _ h _
 subst h;simp at bJ
theorem Own.lt_size {n c:Nat} {l:List α} (h:Own w lo e sz enc A n c l) : ∀ k,aJ A c=some k->k<w.heap.size:=by
 intro k hk;rcases h.row with ⟨_,rfl⟩|⟨hc,g,jV,rfl,_,h2,_⟩
 ·simp [aJ] at hk
 ·simp [aJ,Nat.pos_iff_ne_zero.1 hc] at hk;subst hk;exact (ado.1 h2).1
structure gg {α β:Type} (R : α -> β -> Prop) (xs:List α) (ys:List β) : Prop where
 len:xs.length=ys.length
 get:∀ (i:Nat) (h1:i<xs.length) (h2:i<ys.length),R xs[i] ys[i]
theorem gg.mono {R R' : α -> β -> Prop} {xs:List α} (h:gg R xs ys) (hm:∀ a b,R a b->R' a b) : gg R' xs ys:=⟨h.len,fun i h1 h2=>hm _ _ (h.get i h1 h2)⟩
theorem gg.nil {R : α -> β -> Prop}:gg R ([] : List α) ([] : List β):=⟨rfl,fun i h1 h2=>by simp at h1⟩
theorem gg.snoc {R : α -> β -> Prop} {xs:List α} (h:gg R xs ys) {x : α} {y : β} (hr:R x y) : gg R (xs++[x]) (ys++[y]):=by
 refine ⟨by simp [h.len],fun i h1 h2 => ?_⟩;have hl:=h.len;by_cases hi:i<xs.length
 ·rw [aeh hi,aeh (by omega)];exact h.get i hi (by omega)
 ·have e:i=xs.length:=by simp at h1;omega
  subst e;simp [hl];exact hr
structure dx where
 ga:Int
 ao:Int
 Ty:Int
 ax:gb
def cm (r:dx) : List Value:=[.int .i64 r.ga,.int .i64 r.ao,.int .i64 r.Ty,r.ax.v]
instance:iy cm 4:=⟨fun _=>rfl,fun r u hu=>by simp [cm,gb.v] at hu;rcases hu with rfl|rfl|rfl|rfl<;>rfl⟩
structure jy where
 bp:gb
 dO:gb
 bG:Int
 av:gb
 Live:gb
def dG (r:jy) : List Value:=[r.bp.v,r.dO.v,.int .i64 r.bG,r.av.v,r.Live.v]
instance:iy dG 5:=⟨fun _=>rfl,fun r u hu=>by simp [dG,gb.v] at hu;rcases hu with rfl|rfl|rfl|rfl|rfl<;>rfl⟩
def jy.zero:jy:=⟨.nil,.nil,0,.nil,.nil⟩
def Heap.zero:Heap:=⟨[],[],0,[],[]⟩
structure QK (w:World) (r:dx) (l:aT) : Prop where
 cpu:r.ga=l.ga
 kr:r.ao=l.ao
 ty:r.Ty=l.Ty
 bC:Sl w 1 bw r.ax.A r.ax.n l.ax
structure rM (w:World) (lo:Nat) (r:dx) (l:aT) : Prop where
 cpu:r.ga=l.ga
 kr:r.ao=l.ao
 ty:r.Ty=l.Ty
 bC:Own w lo 3 1 bw r.ax.A r.ax.n r.ax.c l.ax
theorem QK.ext {r:dx} {l:aT} (h:QK w r l) (hx:Ext w w') : QK w' r l:=⟨h.cpu,h.kr,h.ty,h.bC.ext hx⟩
theorem rM.ext {r:dx} {l:aT} (h:rM w lo r l) (hx:Ext w w') : rM w' lo r l:=⟨h.cpu,h.kr,h.ty,h.bC.ext hx⟩
theorem rM.low {r:dx} {l:aT} (h:rM w lo r l) (hl:oA<=lo) : rM w oA r l:=⟨h.cpu,h.kr,h.ty,h.bC.low hl⟩
theorem rM.rd {r:dx} {l:aT} (h:rM w lo r l) : QK w r l:=⟨h.cpu,h.kr,h.ty,h.bC.sl⟩
theorem rM.aK {t:Nat} {r:dx} {l:aT} (h:rM w lo r l) (hG:rL w w' t) (bJ:Nat.beq t 3=false) : rM w' lo r l:=⟨h.cpu,h.kr,h.ty,h.bC.aK hG bJ⟩
theorem iH.aK {t:Nat} {r:ef} (h:iH w lo r z) (hG:rL w w' t) (bJ:(Nat.beq t 3 || Nat.beq t 147)=false) : iH w' lo r z:=by
 simp only [Bool.or_eq_false_iff] at bJ;exact ⟨h.from_,h.pj,h.free.aK hG bJ.2,h.types.aK hG bJ.1⟩
structure GC (w:World) (s:gb) (zs:List ef) (l:List ao) : Prop where
 row:Sl w 4 dt s.A s.n zs
 each:gg (Gx w) zs l
structure lf (w:World) (lo:Nat) (s:gb) (zs:List ef) (l:List ao) : Prop where
 row:Own w lo 117 4 dt s.A s.n s.c zs
 each:gg (iH w lo) zs l
structure zw (w:World) (s:gb) (ls:List dx) (l:List aT) : Prop where
 row:Sl w 4 cm s.A s.n ls
 each:gg (QK w) ls l
structure gl (w:World) (lo:Nat) (s:gb) (ls:List dx) (l:List aT) : Prop where
 row:Own w lo 159 4 cm s.A s.n s.c ls
 each:gg (rM w lo) ls l
section
variable {w w':World} {lo oA t:Nat} {s:gb} {zs:List ef} {z:List ao} {ls:List dx} {l:List aT}
theorem GC.ext (h:GC w s zs z) (hx:Ext w w') : GC w' s zs z:=⟨h.row.ext hx,h.each.mono fun _ _ h=>h.ext hx⟩
theorem zw.ext (h:zw w s ls l) (hx:Ext w w') : zw w' s ls l:=⟨h.row.ext hx,h.each.mono fun _ _ h=>h.ext hx⟩
theorem lf.ext (h:lf w lo s zs z) (hx:Ext w w') : lf w' lo s zs z:=⟨h.row.ext hx,h.each.mono fun _ _ h=>h.ext hx⟩
theorem gl.ext (h:gl w lo s ls l) (hx:Ext w w') : gl w' lo s ls l:=⟨h.row.ext hx,h.each.mono fun _ _ h=>h.ext hx⟩
theorem lf.low (h:lf w lo s zs z) (hl:oA<=lo) : lf w oA s zs z:=⟨h.row.low hl,h.each.mono fun _ _ h=>h.low hl⟩
theorem gl.low (h:gl w lo s ls l) (hl:oA<=lo) : gl w oA s ls l:=⟨h.row.low hl,h.each.mono fun _ _ h=>h.low hl⟩
theorem lf.rd (h:lf w lo s zs z) : GC w s zs z:=⟨h.row.sl,h.each.mono fun _ _ h=>h.rd⟩
theorem gl.rd (h:gl w lo s ls l) : zw w s ls l:=⟨h.row.sl,h.each.mono fun _ _ h=>h.rd⟩
theorem lf.aK (h:lf w lo s zs z) (hG:rL w w' t) (bJ:(Nat.beq t 117 || (Nat.beq t 3 || Nat.beq t 147))=false) : lf w' lo s zs z:=by
 rw [aeG] at bJ;exact ⟨h.row.aK hG bJ.1,h.each.mono fun _ _ h=>h.aK hG bJ.2⟩
theorem gl.aK (h:gl w lo s ls l) (hG:rL w w' t) (bJ:(Nat.beq t 159 || Nat.beq t 3)=false) : gl w' lo s ls l:=by
 rw [aeG] at bJ;exact ⟨h.row.aK hG bJ.1,h.each.mono fun _ _ h=>h.aK hG bJ.2⟩
theorem lf.nil (w:World) (lo:Nat) : lf w lo .nil [] []:=⟨Own.fF _ _ _ _ _ _,.nil⟩
theorem gl.nil (w:World) (lo:Nat) : gl w lo .nil [] []:=⟨Own.fF _ _ _ _ _ _,.nil⟩
theorem GC.len (h:GC w s zs z) : zs.length=s.n∧z.length=s.n:=⟨h.row.len,by rw [<- h.each.len,h.row.len]⟩
theorem zw.len (h:zw w s ls l) : ls.length=s.n∧l.length=s.n:=⟨h.row.len,by rw [<- h.each.len,h.row.len]⟩
end
structure Iz (w:World) (r:jy) (h:Heap) : Prop where
 cpus:r.bG=h.bG
 eE:Sl w 1 bw r.dO.A r.dO.n h.dO
 live:Sl w 3 aO r.Live.A r.Live.n h.Live
 ct:∃ zs,GC w r.bp zs h.bp
 lists:∃ ls,zw w r.av ls h.av
structure jH (w:World) (lo:Nat) (r:jy) (h:Heap) : Prop where
 cpus:r.bG=h.bG
 eE:Own w lo 3 1 bw r.dO.A r.dO.n r.dO.c h.dO
 live:Own w lo 147 3 aO r.Live.A r.Live.n r.Live.c h.Live
 ct:∃ zs,lf w lo r.bp zs h.bp
 lists:∃ ls,gl w lo r.av ls h.av
section
variable {w w':World} {lo oA t:Nat} {r:jy} {h:Heap}
theorem Iz.ext (a:Iz w r h) (hx:Ext w w') : Iz w' r h:=by
 obtain ⟨zs,hz⟩:=a.ct;obtain ⟨ls,hl⟩:=a.lists;exact ⟨a.cpus,a.eE.ext hx,a.live.ext hx,⟨zs,hz.ext hx⟩,⟨ls,hl.ext hx⟩⟩
theorem jH.ext (a:jH w lo r h) (hx:Ext w w') : jH w' lo r h:=by
 obtain ⟨zs,hz⟩:=a.ct;obtain ⟨ls,hl⟩:=a.lists;exact ⟨a.cpus,a.eE.ext hx,a.live.ext hx,⟨zs,hz.ext hx⟩,⟨ls,hl.ext hx⟩⟩
theorem jH.low (a:jH w lo r h) (Bb:oA<=lo) : jH w oA r h:=by
 obtain ⟨zs,hz⟩:=a.ct;obtain ⟨ls,hl⟩:=a.lists;exact ⟨a.cpus,a.eE.low Bb,a.live.low Bb,⟨zs,hz.low Bb⟩,⟨ls,hl.low Bb⟩⟩
theorem jH.rd (a:jH w lo r h) : Iz w r h:=by
 obtain ⟨zs,hz⟩:=a.ct;obtain ⟨ls,hl⟩:=a.lists;exact ⟨a.cpus,a.eE.sl,a.live.sl,⟨zs,hz.rd⟩,⟨ls,hl.rd⟩⟩
theorem jH.aK (a:jH w lo r h) (hG:rL w w' t) (bJ:(Nat.beq t 3 || (Nat.beq t 147 || (Nat.beq t 117 || Nat.beq t 159)))=false) : jH w' lo r h:=by
 obtain ⟨zs,hz⟩:=a.ct;obtain ⟨ls,hl⟩:=a.lists;simp only [Bool.or_eq_false_iff] at bJ;obtain ⟨h1,h2,h3,h4⟩:=bJ;exact ⟨a.cpus,a.eE.aK hG h1,a.live.aK hG h2,⟨zs,hz.aK hG (by simp [h1,h2,h3])⟩,⟨ls,hl.aK hG (by simp [h1,h4])⟩⟩
theorem jH.zero (w:World) (lo:Nat) : jH w lo .zero .zero:=⟨rfl,Own.fF _ _ _ _ _ _,Own.fF _ _ _ _ _ _,⟨[],.nil _ _⟩,⟨[],.nil _ _⟩⟩
end
structure Heap.small (h:Heap) : Prop where
 ct:h.bp.length*64<=140737488355328
 eE:h.dO.length*8<=140737488355328
 lists:h.av.length*48<=140737488355328
 live:h.Live.length*24<=140737488355328
 free:∀ z∈h.bp,z.aj.length*24<=140737488355328∧z.Types.length*8<=140737488355328
 bC:∀ l∈h.av,l.ax.length*8<=140737488355328
set_option maxHeartbeats 4000000 in
theorem m7 (A:Option Addr) (n c lo:Nat) (l:List Block) (w:World) (hO:Own w lo 147 3 aO A n c l) (i:Nat) (hi:i<n) (hn:n<=1000000000000000000) (dD:lo<=w.heap.size) :
 iO prog 94 [.slice A n c,.int .i64 (i:Int),.int .i64 ((i+1:Nat) : Int)] w fun v w'=>v = .slice A (n-1) c∧Own w' lo 147 3 aO A (n-1) c (l.eraseIdx i)∧w.grownBy w' (aJ A c):=by
 refine dl func94 rfl ntmps94 rfl ?_;have hle:=hO.le;have mH:=hO.len;have hA:=hO.sl.base;have GD:w.grownBy w (aJ A c):=World.grownBy.refl _ _
 repeat' (first|refine Wz ?_|(refine SW.st (s8 (i:=i) (j:=i+1) (k:=n) rfl rfl rfl rfl (by omega) (by omega) (by omega)) rfl ?_))
 all_goals try omega
 have hw:=Ext.refl w;have e0:i+(n-(i+1))=n-1:=by omega
 have el:l.take i++l.drop (i+1)=l.eraseIdx i:=by rw [adM]
 refine CW.any 6 mixed (dk (by kernel_rfl)) rfl fun w1 ai aG => ?_
 obtain ⟨hw,hO⟩:=df ai hw hO;clear ai;refine Wa ?_;refine Wu 2 aG rfl (dn (k:=i) rfl rfl (by omega)) ?_;refine Wa ?_;refine Wu 5 aG rfl (bd (k:=i+1) rfl rfl (by omega) (by omega)) ?_;refine SA.done (by kernel_rfl) ?_;refine SW.u6 (hO.pre (i:=i) (by omega)) (hO.sl.drop (i+1) c (by omega) (by omega)) (by omega) rfl rfl rfl fun w2 bj hg => ?_
 rw [e0,el] at bj;rw [e0];have GF:=(hw.gr (aJ A c));repeat' (first|refine Wz ?_|(refine SW.st (jX (i:=n-1) (j:=n) rfl rfl rfl (by omega) (by omega)) rfl ?_))
 obtain ⟨g,rest,rfl,h1,h2,h3,h4,h5,h6⟩:=bj.opened (by omega);have pf:((l.eraseIdx i).flatMap aO).length=(n-1)*3:=by rw [aW,bj.len]
 refine SW.clear ((n-1)*3) h2 rfl (by rw [adp,pf];omega) (fun h0 => ?_) (by decide) fun w3 cs lT hB qE => ?_
 ·rw [if_neg (by omega)];simp [dc]
 ·have e7:=fb ((l.eraseIdx i).flatMap aO) (rest.take ((n-(n-1))*3)) (rest.drop ((n-(n-1))*3)) cs (by rw [lT];simp;omega) (o:=(n-1)*3) pf.symm;rw [adj (List.flatMap _ _),adh] at e7;rw [e7,adj] at hB;have Ep:=Own.closed (l:=l.eraseIdx i) bj.len hB (by rw [adp,lT];simp;omega) h4 (by omega) h5 h1;rw [<- h6] at qE;have Bf:=bU (bU GF hg (.inl rfl)) qE (.inl rfl);refine Wz ?_;exact ae.bg rfl rfl ⟨_,rfl,rfl,Ep,Bf⟩
set_option maxHeartbeats 4000000 in
theorem kN (A:Option Addr) (n c lo:Nat) (l:List Block) (w:World) (hO:Own w lo 147 3 aO A n c l) (i:Nat) (hi:i<=n) (x:Block) (b:Nat) (hB:aS w b 147 (aO x)) (bJ:aJ A c≠some b) (hn:(n+1)*24<=140737488355328) (dD:lo<=w.heap.size) :
 iO prog 66 [.slice A n c,.int .i64 (i:Int),.slice (some ⟨b,0,none⟩) 1 1] w fun v w' => ∃ A' c',v = .slice A' (n+1) c'∧Own w' lo 147 3 aO A' (n+1) c' (aN l i x)∧w.grownBy w' (aJ A c):=by
 refine dl func66 rfl ntmps66 rfl ?_;have hle:=hO.le;have mH:=hO.len;have hA:=hO.sl.base;have hw:=Ext.refl w;have kW:Sl w 3 aO (some ⟨b,0,none⟩) 1 [x]:=aS.ue hB
 have nW:(aO x).length=3:=rfl
 have pf:∀ q:List Block,(q.flatMap aO).length=q.length*3:=fun q=>aW q
 have pe:∀ (q:List Block) (v:Value),v∈q.flatMap aO->v.oneCell'=true:=fun q v hv=>by
  obtain ⟨u,_,hu⟩:=adx.1 hv;exact iy.one (enc:=aO) u v hu
 by_cases cy:i=n
 ·subst cy;repeat' (first|refine Wz ?_|(refine SW.st (bd (k:=i) rfl rfl (by omega) (by omega)) rfl ?_))
  all_goals try omega
  refine SW.append hO kW dD rfl rfl rfl (by omega) (by omega) fun A2 c2 w2 bj hg => ?_
  refine Wz ?_;refine ae.bg rfl rfl ⟨_,rfl,A2,c2,rfl,?_,hg⟩;have e:aN l i x=l++[x]:=by unfold aN;rw [adr (by omega),aen (by omega)];simp
  rw [e];exact bj
 ·by_cases ky:n+1<=c
  ·obtain ⟨g,rest,rfl,h1,h2,h3,h4,h5,h6⟩:=hO.opened (by omega);have D7:g≠b:=fun e=>bJ (by rw [h6,e])
   have es:l.flatMap aO++rest=(l.take i).flatMap aO++((l.drop i).flatMap aO++rest):=by rw [<- adj,<- adt,adh]
   have e1:((l.take i).flatMap aO).length=i*3:=by rw [pf];simp;omega
   have e2:((l.drop i).flatMap aO).length=(n-i)*3:=by rw [pf];simp [mH]
   have lU:=hO.sl.drop i c (by omega) (by omega);rw [if_neg (by omega)] at lU;rw [es] at h2
   have Jt:∀ w',Ext w w'->(Extern.SlicesOverlaps.overlaps #[39,39] #[4] #[.slice (some ⟨b,0,none⟩) 1 1,.slice (if c=i+1 then (some ⟨g,0,none⟩) else (some (⟨g,0,none⟩ : Addr)).map (·.add ((i+1)*3))) (n+1-(i+1)) (c-(i+1))]).run prog w' = .ok (.bool false) w':=fun w' hx=>by
    rw [if_neg (by omega),aeV,dc];have b1:=hB.ext hx;have b2:=h2.ext hx;unfold aS at b1 b2
    exact Lib.run_overlaps_apart w' 39 4 147 (bz.oz (t:=39)) 3 (fun w0=>run_sizeOf (bz.size (t:=39)) w0) ⟨b,0,none⟩ ⟨g,(i+1)*3,none⟩ 1 1 _ _ (fun e=>D7 e.symm) 147 147 (aO x).toArray.size ((l.take i).flatMap aO++((l.drop i).flatMap aO++rest)).toArray.size
     (by simp only [World.shape?,b1]) (by simp only [World.shape?,b2]) (by simp [e1,e2];omega) (by simp [World.frozen?,b1]) (by simp [World.frozen?,b1])
   repeat' (first|refine Wz ?_|(refine CW.gu rfl ?_)|(refine SW.st (bd (k:=i) rfl rfl (by omega) (by omega)) rfl ?_)|(refine SW.st (dn (k:=n+1) rfl rfl (by omega)) rfl ?_)|(refine SW.st (bd (k:=i+1) rfl rfl (by omega) (by omega)) rfl ?_)|(refine SW.entry func113 (by kernel_rfl) (by kernel_rfl) (by kernel_rfl) (e:=Extern.SlicesOverlaps.overlaps #[39,39] #[4]) (by kernel_rfl) rfl rfl (Jt _ hw) ?_))
   all_goals try omega
   have oD:((n-i)+1)*3<=((l.drop i).flatMap aO++rest).length:=by rw [adp,e2];omega
   have e4:(l.drop i).flatMap aO++rest=((l.drop i).flatMap aO++rest).take 3++(((l.drop i).flatMap aO++rest).drop 3).take ((n-i)*3)++((l.drop i).flatMap aO++rest).drop (3+(n-i)*3):=by
    rw [adj,<- aeg,adh,adh]
   generalize GG:((l.drop i).flatMap aO++rest).take 3=D1 at e4
   generalize GH:(((l.drop i).flatMap aO++rest).drop 3).take ((n-i)*3)=D2 at e4
   generalize GI:((l.drop i).flatMap aO++rest).drop (3+(n-i)*3)=D3 at e4
   have f1:D1.length=3:=by rw [<- GG];simp only [List.length_take];omega
   have f2:D2.length=(n-i)*3:=by rw [<- GH];simp only [List.length_take,List.length_drop];omega
   have f3:D3.length+3=rest.length:=by rw [<- GI];simp only [List.length_drop,List.length_append,e2];omega
   rw [e4] at h2;refine CW.any 8 mixed (dk (by kernel_rfl)) rfl fun w1 ai aG => ?_
   obtain ⟨hw,hO,hB,h2⟩:=dv ai hw hO hB h2;clear ai;refine Wa ?_;refine Wu 4 aG rfl (bd (k:=i+1) rfl rfl (by omega) (by omega)) ?_;refine Wa ?_;refine Wu 7 aG rfl (bd (k:=i) rfl rfl (by omega) (by omega)) ?_;refine SA.done (by kernel_rfl) ?_;refine SW.copy (k:=n-i) ((i+1)*3) ((l.drop i).flatMap aO) h2 rfl rfl rfl (by omega) e2 (by simp only [List.length_append,e1,e2,f1,f2];omega) (fun h0=>⟨by rw [if_neg (by omega)];simp [dc],(⟨g,0,none⟩ : Addr).add (i*3),by rw [if_neg (by omega)];rfl,fun j v hv=>du (by omega) (lU.ext hw) j v hv⟩) (pe _) fun w3 ns qE => ?_
   have g1:=fb ((l.take i).flatMap aO++D1) D2 D3 ((l.drop i).flatMap aO) (by rw [e2,f2]) (o:=(i+1)*3) (by rw [adp,e1,f1];omega);have g0:(l.take i).flatMap aO++(D1++D2++D3)=(l.take i).flatMap aO++D1++D2++D3:=by simp only [List.append_assoc]
   rw [g0,g1] at ns;have GF:=bU (hw.gr (aJ (some ⟨g,0,none⟩) c)) qE (.inl h6.symm);have QL:=hB.grown qE (by simpa using fun e=>D7 e.symm);repeat' (first|refine Wz ?_|(refine SW.st (bd (k:=i) rfl rfl (by omega) (by omega)) rfl ?_))
   refine SW.copy (k:=1) (i*3) (aO x) ns rfl rfl rfl (by omega) nW (by simp only [List.length_append,e1,e2,f1,nW];omega) (fun h0=>⟨by rw [if_neg (by omega)];simp [dc],⟨b,0,none⟩,rfl,fun j v hv=>QL.cell hv⟩) (iy.one (enc:=aO) x) fun w4 nX xO => ?_
   have g2:=fb ((l.take i).flatMap aO) D1 ((l.drop i).flatMap aO++D3) (aO x) (by rw [nW,f1]) (o:=i*3) e1.symm;have g3:(l.take i).flatMap aO++D1++(l.drop i).flatMap aO++D3=(l.take i).flatMap aO++D1++((l.drop i).flatMap aO++D3):=by simp only [List.append_assoc]
   have g4:(l.take i).flatMap aO++aO x++((l.drop i).flatMap aO++D3)=(aN l i x).flatMap aO++D3:=by unfold aN;simp only [List.flatMap_append,List.flatMap_cons,List.flatMap_nil,List.append_nil,List.append_assoc]
   rw [g3,g2,g4] at nX;have Eu:=Own.closed (n:=n+1) (c:=c) (l:=aN l i x) (by unfold aN;simp;omega) nX (by omega) ky (by omega) h5 h1;have ee:=bU GF xO (.inl h6.symm);refine Wz ?_;exact ae.bg rfl rfl ⟨_,rfl,_,_,rfl,Eu,ee⟩
  ·have Si:c=n:=by omega
   have lU:=hO.sl.drop i c (by omega) (by omega);have Bq:=hO.sl.pre (i:=i) (by omega);repeat' (first|refine Wz ?_|(refine SW.st (bd (k:=i) rfl rfl (by omega) (by omega)) rfl ?_)|(refine SW.st (dn (k:=i) rfl rfl (by omega)) rfl ?_))
   all_goals try omega
   refine SW.yu (k:=n+1-i) Bq Tryz.underlying3 rfl rfl (by omega) rfl (by omega) (by omega) (by omega) (by omega) fun g rest c2 w2 bt dE h2 h3 h4 h5 => ?_
   have e1:((l.take i).flatMap aO).length=i*3:=by rw [pf];simp;omega
   have e2:((l.drop i).flatMap aO).length=(n-i)*3:=by rw [pf];simp [mH]
   have oD:((n-i)+1)*3<=rest.length:=by omega
   have e4:rest=rest.take 3++(rest.drop 3).take ((n-i)*3)++rest.drop (3+(n-i)*3):=by
    rw [adj,<- aeg,adh,adh]
   generalize GG:rest.take 3=D1 at e4
   generalize GH:(rest.drop 3).take ((n-i)*3)=D2 at e4
   generalize GI:rest.drop (3+(n-i)*3)=D3 at e4
   have f1:D1.length=3:=by rw [<- GG];simp only [List.length_take];omega
   have f2:D2.length=(n-i)*3:=by rw [<- GH];simp only [List.length_take,List.length_drop];omega
   have f3:D3.length+((n-i)+1)*3=rest.length:=by rw [<- GI];simp only [List.length_drop];omega
   rw [e4] at h2;have gm:aJ A c≠some g:=fun e=>by have:=hO.lt_size _ e;omega
   have D7:b≠g:=by have:=hB.lt;omega
   obtain ⟨lU,hB,hw⟩:=cn bt lU hB hw;repeat' (first|refine Wz ?_|(refine SW.st (bd (k:=i) rfl rfl (by omega) (by omega)) rfl ?_))
   refine SW.copy (k:=1) (i*3) (aO x) h2 rfl rfl rfl (by omega) nW (by simp only [List.length_append,e1,f1,f2,nW];omega) (fun h0=>⟨by rw [if_neg (by omega)];simp [dc],⟨b,0,none⟩,rfl,fun j v hv=>hB.cell hv⟩) (iy.one (enc:=aO) x) fun w3 ns qE => ?_
   have g2:=fb ((l.take i).flatMap aO) D1 (D2++D3) (aO x) (by rw [nW,f1]) (o:=i*3) e1.symm;have g3:(l.take i).flatMap aO++(D1++D2++D3)=(l.take i).flatMap aO++D1++(D2++D3):=by simp only [List.append_assoc]
   rw [g3,g2] at ns;have LK:Ext w w3:=hw.own dE qE
   have lz:Sl w3 3 aO (if c=i then A else A.map (·.add (i*3))) (n-i) (l.drop i):=(hO.sl.drop i c (by omega) (by omega)).ext LK
   have hw:=LK;refine Wz ?_;refine CW.any 8 mixed (dk (by kernel_rfl)) rfl fun w1 ai aG => ?_
   obtain ⟨hw,ns,lz⟩:=cn ai hw ns lz;clear ai;refine Wa ?_;refine Wu 4 aG rfl (bd (k:=i+1) rfl rfl (by omega) (by omega)) ?_;refine Wa ?_;refine Wu 7 aG rfl (bd (k:=i) rfl rfl (by omega) (by omega)) ?_;refine SA.done (by kernel_rfl) ?_;refine SW.copy (k:=n-i) ((i+1)*3) ((l.drop i).flatMap aO) ns rfl rfl rfl (by omega) e2 (by simp only [List.length_append,e1,e2,f2,nW];omega) (fun h0=>⟨by rw [if_neg (by omega)];simp [dc],(if c=i then A else A.map (·.add (i*3))).getD default,?_,fun j v hv=>du (by omega) lz j v hv⟩) (pe _) fun w4 nX xO => ?_
   ·obtain ⟨a,ha⟩:=adH.1 (lz.base h0);rw [ha];rfl
   ·have g4:=fb ((l.take i).flatMap aO++aO x) D2 D3 ((l.drop i).flatMap aO) (by rw [e2,f2]) (o:=(i+1)*3) (by rw [adp,e1,nW];omega);have g5:(l.take i).flatMap aO++aO x++(D2++D3)=(l.take i).flatMap aO++aO x++D2++D3:=by simp only [List.append_assoc]
    have g6:(l.take i).flatMap aO++aO x++(l.drop i).flatMap aO++D3=(aN l i x).flatMap aO++D3:=by unfold aN;simp only [List.flatMap_append,List.flatMap_cons,List.flatMap_nil,List.append_nil,List.append_assoc]
    rw [g5,g4,g6] at nX;have Eu:=Own.closed (n:=n+1) (c:=c2) (lo:=lo) (l:=aN l i x) (by unfold aN;simp;omega) nX (by omega) (by omega) (by omega) h5 (by omega);have kz:Ext w w4:=hw.own dE xO
    have e9:i+(n+1-i)=n+1:=by omega
    refine Wz ?_;rw [e9];exact ae.bg rfl rfl ⟨_,rfl,_,_,rfl,Eu,kz.gr _⟩
variable {k' yk:IntKind} {ft tt:TypeId}
theorem mJ:prog.underlying 171=some (.int .u64):=by kernel_rfl
theorem wrap_u64 {z:Int} (h0 : 0<=z) (h1:z<=9223372036854775807) : IntKind.u64.wrap z=z:=by
 simp [IntKind.wrap,IntKind.bits,IntKind.signed];omega
section
variable {P:Program} {L:Env} {w:World} {d:Option Nat} {T:TypeId} {pos:String} {af:Array Edge} {g:Option (Nat×Bool)}
theorem mK {x:Operand} {k:IntKind} {i:Int} (hf:P.underlying ft=some (.int k)) (ht:P.underlying tt=some (.int k')) (hx:cT L x=some (.int k i)) :
 St P ⟨d,.convert ft tt x,T,pos,af,g⟩ L w (.int k' (k'.wrap i)) :=
 ⟨fun n a ha w' _=>by
  have e1:=ha.eval hx;generalize a.eval = ρ at *
  simp [go_sem,e1,convert,run_underlying hf,run_underlying ht,Conv.intToInt]⟩
theorem yv {x:Operand} {i:Int} (hx:cT L x=some (.int .u64 i)) (hy:cT L y=some (.int yk 1)) :
 St P ⟨d,.binOp .shr t x y ty,T,pos,af,g⟩ L w (.int .u64 (i / 2)) :=
 ⟨fun n a ha w' _=>by
  have e1:=ha.eval hx;have e2:=ha.eval hy;generalize a.eval = ρ at *
  simp [go_sem,e1,e2]⟩
end
def bP (l:List Block) (a:Int) : Bool:=if h:bE l a<l.length then decide ((l[bE l a]).At=a) else false
theorem jz (A:Option Addr) (n c:Nat) (l:List Block) (a:Int) (w:World) (hl:Sl w 3 aO A n l) (f:FuncId) [Body prog f] (hf:∀ x∈l,∀ w',Ext w w'->bF prog f ([.agg (aO x).toArray,.int .i64 a]++[]) w' fun v _=>v = .int .i64 (x.At-a))
 (hu:l.Pairwise fun x y=>x.At<y.At) (hn:n<=1000000000000000000) : bF prog 111 [.slice A n c,.int .i64 a,.func (.func f) #[] #[]] w fun v _=>v = .tuple #[.int .i64 (bE l a:Int),.bool (bP l a)]:=by
 refine aC func111 rfl ntmps111 rfl ?_;have hw:=Ext.refl w;have hA:=hl.base;have mH:=hl.len;rw [adl] at hu;refine Wz ?_
 refine CW.loop (fun s:Nat×Nat=>[(0,.slice A n c),(1,.int .i64 a),(2,.func (.func f) #[] #[]),(8,.int .i64 (n:Int)),(9,.int .i64 (s.1:Int)),(10,.int .i64 (s.2:Int))])
  (fun s w'=>s.1<=s.2∧s.2<=n∧Ext w w'∧(∀ (k:Nat) (h:k<l.length),k<s.1->l[k].At<a)∧(∀ (k:Nat) (h:k<l.length),s.2<=k->a<=l[k].At)) (fun s=>s.2-s.1) (0,n)
  ⟨rfl,rfl,rfl,rfl,rfl,rfl,trivial⟩ ⟨by omega,by omega,hw,fun k h h'=>by omega,fun k h h'=>by omega⟩ ?_
 clear hw;rintro ⟨i,j⟩ w' ⟨pk,pO,hw,hI,hJ⟩
 simp only at pk pO hI hJ ⊢;by_cases eX:i<j
 ·have hk:(i+j) / 2<n:=by omega
  have iE:=hl.lt hk;have vV:=fun w1 h1=>hf (l[(i+j) / 2]) (adb iE) w1 h1
  repeat' (first|refine Wz ?_|refine Wo hw ((hl.all hk)) ?_|(refine SW.st ((mK Tryz.underlying3 mJ rfl).eq (congrArg (Value.int .u64) (wrap_u64 (by omega) (by omega)))) rfl ?_)|(refine SW.st ((mK mJ Tryz.underlying3 rfl).eq (congrArg (Value.int .i64) (jl (by omega) (by omega)))) rfl ?_)|(refine SW.st (yv rfl rfl) rfl ?_))
  refine SW.tP (cap:=[]) rfl rfl rfl (vV _ hw) fun v w1 ai hv => ?_
  subst hv;have hw:=hw.trans ai;by_cases S5:l[(i+j) / 2].At<a
  ·refine Wz ?_;refine ae.again ((i+j) / 2+1,j) ⟨rfl,rfl,rfl,rfl,congrArg (fun z=>some (Value.int .i64 z)) (by omega),rfl,trivial⟩ (by simp only;omega) ⟨by simp only;omega,pO,hw,fun k h h' => ?_,hJ⟩;simp only at h';by_cases e:k=(i+j) / 2
   ·subst e;exact S5
   ·have:=hu k ((i+j) / 2) h iE (by omega)
    omega
  ·refine Wz ?_;refine ae.again (i,(i+j) / 2) ⟨rfl,rfl,rfl,rfl,rfl,congrArg (fun z=>some (Value.int .i64 z)) (by omega),trivial⟩ (by simp only;omega) ⟨by simp only;omega,by simp only;omega,hw,hI,fun k h h' => ?_⟩;simp only at h';by_cases e:k=(i+j) / 2
   ·subst e;omega
   ·have:=hu ((i+j) / 2) k iE h (by omega)
    omega
 ·obtain rfl:i=j:=by omega
  have Bg:bE l a=i:=Iw (by omega) hI (fun h=>hJ i h (by omega))
  by_cases cy:i<n
  ·have iE:=hl.lt cy;have vV:=fun w1 h1=>hf (l[i]) (adb iE) w1 h1
   have N1:bP l a=decide (l[i].At=a):=by unfold bP;simp only [Bg,iE,dif_pos]
   rw [Bg,N1];repeat' (first|refine Wz ?_|refine Wo hw ((hl.all cy)) ?_)
   refine SW.tP (cap:=[]) rfl rfl rfl (vV _ hw) fun v w1 ai hv => ?_
   subst hv;have hw:=hw.trans ai;by_cases he:l[i].At=a
   ·refine Wz ?_;refine ae.dm rfl rfl rfl ⟨_,rfl,hw,?_⟩;rw [decide_eq_true he,decide_eq_true (by omega)]
   ·refine Wz ?_;refine ae.dm rfl rfl rfl ⟨_,rfl,hw,?_⟩;rw [decide_eq_false he,decide_eq_false (by omega)]
  ·have N1:bP l a=false:=by unfold bP;rw [dif_neg (by omega)]
   rw [Bg,N1];refine Wz ?_;exact ae.dm rfl rfl rfl ⟨_,rfl,hw,rfl⟩
theorem QM {t:Int} (h:sd l) (hb:∀ b∈l,ld f t b) : l.Pairwise fun x y=>x.At<y.At:=by
 unfold sd at h;rw [adl] at h ⊢;intro i j hi hj pk;have h1:=h i j hi hj pk;have hp:=hb _ (adb hi);have:=cQ hp.1.1 hp.1.2.1
 omega
theorem De (x:Block) (a:Int) (w:World) (hx : -4000000000000000000<=x.At∧x.At<=4000000000000000000) (ha : -4000000000000000000<=a∧a<=4000000000000000000) : bF prog 158 ([.agg (aO x).toArray,.int .i64 a]++[]) w fun v _=>v = .int .i64 (x.At-a):=by
 refine aC func158 rfl ntmps158 rfl ?_;refine CW.seq (CW.region (SW.box rfl rfl fun b1 w1 hw lp aZ => ?_));refine Wz ?_;exact ae.bg rfl rfl ⟨_,rfl,hw,rfl⟩
theorem we (r:ef) (l:List Block) (f t a:Int) (w:World) (hl:Sl w 3 aO r.aj.A r.aj.n l) (hu:sd l) (hb:∀ b∈l,ld f t b) (h0 : 0<=f) (ht:t<=256) (hn:r.aj.n<=1000000000000000000) (ha : -1000<=a∧a<=1000) :
 bF prog 135 [.agg (dt r).toArray,.int .i64 a] w fun v _=>v = .tuple #[.int .i64 (bE l a:Int),.bool (bP l a)]:=by
 refine aC func135 rfl ntmps135 rfl ?_;refine CW.seq (CW.region (SW.box rfl rfl fun b1 w1 hw lp aZ => ?_))
 have cB:∀ w',Ext w w'->bF prog 111 [.slice r.aj.A r.aj.n r.aj.c,.int .i64 a,.func (.func 158) #[] #[]] w' fun v _=>v = .tuple #[.int .i64 (bE l a:Int),.bool (bP l a)]:=fun w' h =>
  jz _ _ _ _ _ _ (hl.ext h) _ (fun x hx w1 _=>De x a w1 (by have:=(hb x hx).1;unfold kh at this;omega) (by omega)) (QM hu hb) hn
 repeat' (first|refine Wz ?_|(refine Wk (cB _ hw) ?_;intro v w1 ai hv;subst hv;obtain ⟨hw,aZ⟩:=df ai hw aZ;clear ai))
 exact ae.dm rfl rfl rfl ⟨_,rfl,hw,rfl⟩
theorem Ju (a o:Int) (b9:Nat) (x:Block) (w:World) (h9:aS w b9 147 (aO ⟨a,o,0⟩)) (ho : 0<=o∧o<=4) (ha : 0<=a∧a<=256) (hx : 0<=x.At∧x.At<=256) (hy : 0<=x.Order∧x.Order<=4) :
 bF prog 134 ([.agg (aO x).toArray]++[.pointer (some ⟨b9,0,none⟩)]) w fun v _=>v = .bool (decide (x.At<a+pw o) && decide (a<x.At+pw x.Order)):=by
 refine aC func134 rfl ntmps134 rfl ?_;refine CW.seq (CW.region (SW.box rfl rfl fun b2 w1 hw fA au => ?_));have h9:=h9.ext hw;have c1:∀ w',bF prog 133 [.agg (aO ⟨a,o,0⟩).toArray] w' fun v _=>v = .int .i64 (a+pw o):=fun w'=>pP ⟨a,o,0⟩ w' ho ha
 have c2:∀ w',bF prog 133 [.agg (aO x).toArray] w' fun v _=>v = .int .i64 (x.At+pw x.Order):=fun w'=>pP x w' hy hx
 by_cases h1:x.At<a+pw o
 ·repeat' (first|refine Wz ?_|((apply CW.bH mixed;(· kernel_rfl);rotate_left;intro w1 ai;obtain ⟨hw,au,h9⟩:=cn ai hw au h9;clear ai;rotate_right))|refine SW.dK rfl rfl (fun w1 ai=>(c1 _)) ?_|refine SW.dK rfl rfl (fun w1 ai=>(c2 _)) ?_|exact SW.eU rfl)
  exact ae.bg rfl rfl ⟨_,rfl,hw,by simp [h1]⟩
 ·repeat' (first|refine Wz ?_|((apply CW.bH mixed;(· kernel_rfl);rotate_left;intro w1 ai;obtain ⟨hw,au,h9⟩:=cn ai hw au h9;clear ai;rotate_right))|refine SW.dK rfl rfl (fun w1 ai=>(c1 _)) ?_|exact SW.eU rfl)
  exact ae.bg rfl rfl ⟨_,rfl,hw,by simp [h1]⟩
variable {a':Int}
theorem u7 (h:fJ z=false) : fT z a o=(8,.zero):=by simp [fT,h,ao.zero]
theorem yw (h:fJ z=true) (hf : ¬ kh z.aV z.To a o) : fT z a o=(1,.zero):=by simp [fT,h,hf,ao.zero]
theorem Df (h:fJ z=true) (hf:kh z.aV z.To a o) (ho:ki z.aj a o=true) : fT z a o=(5,.zero):=by simp [fT,h,hf,ho,ao.zero]
theorem yx (h:fJ z=true) (hf:kh z.aV z.To a o) (ho:ki z.aj a o=false) {o':Int} (hj:jc 5 z.aj a o=(l,a',o')) {t:Int} (ht:z.Types.getD ((a'-z.aV) / 8).toNat 0=t) :
 fT z a o=(0,⟨z.aV,z.To,aN l (bE l a') ⟨a',o',t⟩,z.Types⟩):=by simp [fT,h,hf,ho,hj,<- ht]
theorem kA (h:bV z) : z.aj.length<=256∧z.Types.length<=32:=by
 have hu:=pQ h;have lX:=h.ok;unfold fI at lX
 have key:∀ (i:Nat) (hi:i<z.aj.length),(i:Int)<=(z.aj[i]).At:=by
  intro i;induction i with
  | zero =>
    intro hi;have:=(h.eM 0 hi).1
    unfold kh at this;omega
  | succ i ih =>
    intro hi;have h1:=ih (by omega);have h2:=jK hu hi (aeP i);have h3:=(h.eM i (by omega)).1;have:=cQ h3.1 h3.2.1
    omega
 refine ⟨?_,by have:=h.len;omega⟩;rcases adu z.aj.length with h0|h0
 ·omega
 ·have h1:=key (z.aj.length-1) (by omega);have h2:=(h.eM (z.aj.length-1) (by omega)).1;unfold kh at h2;omega
theorem ml (z:ao) (a o:Int) : (fT z a o).2.aj.length<=257∧(fT z a o).2.Types.length<=32∧((fT z a o).1=0->(fT z a o).2.aV=z.aV∧(fT z a o).2.To=z.To∧(fT z a o).2.Types=z.Types):=by
 cases hq:fJ z
 ·rw [u7 hq];simp [ao.zero]
 ·have hz:=fq.1 hq;have hl:=kA hz;by_cases hf:kh z.aV z.To a o
  ·cases ho:ki z.aj a o
   ·have hJ:=zv (f:=0) (t:=0) hz hf ho;have hj:=Es (by have:=hz.ok;unfold fI at this;omega) 5 hJ;obtain ⟨⟨l,a',o'⟩,lA⟩ : ∃ u,jc 5 z.aj a o=u:=⟨_,rfl⟩;rw [lA] at hj;rw [yx hq hf ho lA rfl];have h3:=hj.2;simp only [aN,List.length_append,List.length_take,List.length_drop,List.length_singleton] at h3 ⊢;exact ⟨by omega,hl.2,fun _=>by simp⟩
   ·rw [Df hq hf ho];simp [ao.zero]
  ·rw [yw hq hf];simp [ao.zero]
noncomputable def u9:Nat->ao->Int->Int×ao
 | 0,z,_=>(0,z)
 | k+1,z,p=>if (fT z p 0).1=0 then u9 k (fT z p 0).2 (p+1) else ((fT z p 0).1,.zero)
def mL (z:ao) (f s:Int) : Prop:=0<=s∧z.aV<=f∧f<=z.To∧s<=z.To-f
instance (z:ao) (f s:Int) : Decidable (mL z f s):=inferInstanceAs (Decidable (_∧_))
noncomputable def pS (z:ao) (f s:Int) : Int×ao:=if fJ z then (if mL z f s then u9 s.toNat z f else (1,.zero)) else (8,.zero)
theorem IA {s:Int} (h:fJ z=false) : pS z f s=(8,.zero):=by simp [pS,h]
theorem IB {s:Int} (h:fJ z=true) (ha : ¬ mL z f s) : pS z f s=(1,.zero):=by simp [pS,h,ha]
theorem IC (h:fJ z=true) (ha:mL z f (k:Int)) : pS z f (k:Int)=u9 k z f:=by simp [pS,h,ha]
structure Jv (z:ao) (a o:Int) (f:Nat) (l:List Block) (a' o':Int) : Prop where
 ok:Er z.aV z.To l a' o'
 eq:jc 5 z.aj a o=jc f l a' o'
 fuel : 5<=(f:Int)+o'
 len:l.length<=z.aj.length
theorem Jv.stop {f:Nat} {o':Int} (h:Jv z a o f l a' o') (ho : ¬ o'<4∨l.any (Be (beside a' o') o')=false) : jc 5 z.aj a o=(l,a',o'):=by
 rw [h.eq];cases f with
 | zero=>rfl
 | succ f =>
   simp only [jc];rcases ho with h1|h1
   ·rw [if_neg h1]
   ·simp [h1]
theorem Jv.next {f:Nat} {o':Int} (h:Jv z a o f l a' o') (h0 : 0<=z.aV) (ho:o'<4) (gQ:l.any (Be (beside a' o') o')=true) : ∃ f',Jv z a o f' (mB l (beside a' o') o') (min a' (beside a' o')) (o'+1):=by
 have hf:=h.fuel;obtain ⟨g,rfl⟩ : ∃ g,f=g+1:=⟨f-1,by omega⟩;refine ⟨g,h.ok.step h0 ho gQ,?_,by omega,adf (aeR _ _) h.len⟩;rw [h.eq];simp only [jc,if_pos ho,gQ,if_true]
set_option maxHeartbeats 8000000 in
theorem pT (r:ef) (z:ao) (a o:Int) (w:World) (hr:Gx w r z) (hf:(r.aj.n+1)*24<=140737488355328) (ht:r.Types.n*8<=140737488355328) (h1 : -9223372036854775808<=r.aV∧r.aV<=9223372036854775807) (h2 : -9223372036854775808<=r.To∧r.To<=9223372036854775807) :
 bF prog 81 [.agg (dt r).toArray,.int .i64 a,.int .i64 o] w (yr w.heap.size (fT z a o)):=by
 refine aC func81 rfl ntmps81 rfl ?_;refine CW.seq (CW.region (SW.box rfl rfl fun b3 w1 hw cg aq => ?_));refine SW.alloc rfl fun b6 w2 bt dw ar => ?_
 have cS:=hw.up dw
 have oL:b3≠b6:=by have:=aq.lt;omega
 (obtain ⟨hw,aq⟩:=df bt hw aq);have eF:=hr.from_;have eT:=hr.pj;have On:=hr.free.len;have S0:=hr.types.len;obtain ⟨q,hq⟩ : ∃ q,fJ z=q:=⟨_,rfl⟩
 have c1:∀ w',Ext w w'->bF prog 80 [.agg (dt r).toArray] w' fun v _=>v = .int .i64 (if q then 0 else 8):=fun w' h=>by
  have:=kV r z w' (hr.ext h) (by omega) (by omega) h1 h2
  rwa [hq] at this
 cases q
 ·simp only [Bool.false_eq_true,if_false] at c1;rw [u7 hq];repeat' (first|refine Wz ?_|(refine Wk (c1 _ hw) ?_;intro v w1 ai hv;subst hv;obtain ⟨hw,aq,ar⟩:=cn ai hw aq ar;clear ai))
  refine SW.ag ar rfl rfl rfl rfl (fK .zero) fun w5 cX hg => ?_
  have hw:=hw.own cS hg;refine Wz ?_;exact ae.dA rfl rfl rfl cX rfl ⟨_,rfl,hw,.zero,rfl,iH.zero _ _⟩
 ·simp only [if_true] at c1;have hz:=fq.1 hq;obtain ⟨o1,o2,o3,o4,o5⟩:=hz.ok;repeat' (first|refine Wz ?_|(refine Wk (c1 _ hw) ?_;intro v w1 ai hv;subst hv;obtain ⟨hw,aq,ar⟩:=cn ai hw aq ar;clear ai))
  clear c1;refine SW.alloc rfl fun b9 w1 ai nY bD => ?_
  skip;refine SW.ag bD rfl rfl rfl rfl (iy.one (enc:=aO) ⟨a,o,0⟩) fun w2 jS hg => ?_
  have ak:=ai.own nY hg;have se:=hw.up nY
  obtain ⟨hw,aq,ar⟩:=cn ak hw aq ar;have bD:=jS;clear jS ai hg ak
  have cF:∀ w',bF prog 132 [.agg (dt r).toArray,.agg (aO ⟨a,o,0⟩).toArray] w' fun v _=>v = .bool (decide (kh z.aV z.To a o)):=fun w'=>by
   have:=s5 r ⟨a,o,0⟩ w' (by omega)
   rwa [eF,eT] at this
  by_cases pn:kh z.aV z.To a o
  ·rw [decide_eq_true pn] at cF;obtain ⟨f1,f2,f3,f4,f5⟩:=id pn
   have cC:∀ w',Ext w w'->aS w' b9 147 (aO ⟨a,o,0⟩)->bF prog 128 [.slice r.aj.A r.aj.n r.aj.c,.func (.func 134) #[] [.pointer (some ⟨b9,0,none⟩)].toArray] w' fun v _=>v = .bool (ki z.aj a o):=fun w' hx h9 =>
    lY _ _ _ _ _ (hr.free.ext hx) _ [.pointer (some ⟨b9,0,none⟩)] (fun x=>decide (x.At<a+pw o) && decide (a<x.At+pw x.Order)) (fun x => .agg (aO x).toArray) (fun x=>rfl)
     (fun x Sj w1 kW=>by
       obtain ⟨i,hi,rfl⟩:=ade Sj;obtain ⟨g1,g2,g3,g4,g5⟩:=(hz.eM i hi).1;exact Ju a o b9 _ w1 (h9.ext kW) ⟨f1,f2⟩ ⟨by omega,by omega⟩ ⟨by omega,by omega⟩ ⟨g1,g2⟩) (by omega)
   cases Jt:ki z.aj a o
   ·rw [Jt] at cC;have Vt:=zv (f:=0) (t:=0) hz pn Jt;repeat' (first|refine Wz ?_|(refine CW.fY rfl ?_)|((first|refine Wk (cF _) ?_|refine Wk (cC _ hw bD) ?_);intro v w1 ai hv;subst hv;obtain ⟨hw,aq,ar,bD⟩:=dv ai hw aq ar bD;clear ai)|(refine SW.st (iK (vs:=[.pointer (some ⟨b9,0,none⟩)]) rfl) rfl ?_))
    have S6:b9+1<=_:=bD.lt
    refine Wk (sZ r z _ (hr.ext hw) (by omega) ht) fun v w4 kz hv => ?_
    obtain ⟨s,rfl,hs,e1,e2⟩:=hv;have hs:=hs.low S6;(obtain ⟨hw,aq,ar,bD⟩:=dv kz hw aq ar bD);clear S6 cC cF;skip;refine SW.ag aq rfl rfl rfl rfl (fK s) fun w5 ed hg => ?_
    have hG:=aq.gr hg;have hw:=hw.own cg hg;(have bD:=bD.aK hG rfl);have hX:=hs.free.aK hG rfl;have hT:=hs.types.aK hG rfl;have ar:=ar.grown hg (by simpa using oL.symm);have aq:=ed;have es:s.aj.n=z.aj.length:=by rw [e1,On]
    have ZB:s=⟨s.aV,s.To,⟨s.aj.A,z.aj.length,s.aj.c⟩,s.Types⟩:=by rw [<- es]
    have sF:=hs.from_;have sT:=hs.pj;rw [es] at hX;rw [ZB] at aq;clear ed hg hG hs;refine Wz ?_
    obtain ⟨K,hK⟩ : ∃ K:Env->World->Prop,K=fun L' w' => ∃ l a' o' A c,iw L' [(3,.pointer (some ⟨b3,0,none⟩)),(6,.pointer (some ⟨b6,0,none⟩)),(9,.pointer (some ⟨b9,0,none⟩))]∧Ext w w'∧aS w' b3 117 [.int .i64 s.aV,.int .i64 s.To,.slice A l.length c,.slice s.Types.A s.Types.n s.Types.c]∧aS w' b6 117 (dt .zero)∧aS w' b9 147 [.int .i64 a',.int .i64 o',.int .i64 0] ∧
     Own w' (b9+1) 147 3 aO A l.length c l∧Own w' (b9+1) 3 1 bw s.Types.A s.Types.n s.Types.c z.Types∧Er z.aV z.To l a' o'∧jc 5 z.aj a o=(l,a',o')∧l.length<=z.aj.length:=⟨_,rfl⟩
    refine CW.LI K ?_ ?_
    ·refine CW.loop (fun u:Nat×List Block×Int×Int×Option Addr×Nat=>[(3,.pointer (some ⟨b3,0,none⟩)),(6,.pointer (some ⟨b6,0,none⟩)),(9,.pointer (some ⟨b9,0,none⟩))])
      (fun u w'=>Ext w w'∧aS w' b3 117 [.int .i64 s.aV,.int .i64 s.To,.slice u.2.2.2.2.1 u.2.1.length u.2.2.2.2.2,.slice s.Types.A s.Types.n s.Types.c]∧aS w' b6 117 (dt .zero)∧aS w' b9 147 [.int .i64 u.2.2.1,.int .i64 u.2.2.2.1,.int .i64 0] ∧
        Own w' (b9+1) 147 3 aO u.2.2.2.2.1 u.2.1.length u.2.2.2.2.2 u.2.1∧Own w' (b9+1) 3 1 bw s.Types.A s.Types.n s.Types.c z.Types∧Jv z a o u.1 u.2.1 u.2.2.1 u.2.2.2.1) (fun u=>(5-u.2.2.2.1).toNat) (5,z.aj,a,o,s.aj.A,s.aj.c)
      ⟨rfl,rfl,rfl,trivial⟩ ⟨hw,aq,ar,bD,hX,hT,⟨Vt,rfl,by simp only;omega,adg _⟩⟩ ?_
     clear hw aq ar bD hX hT Vt;rintro ⟨f,l,a',o',A,c⟩ w' ⟨hw,aq,ar,bD,hX,hT,hJ⟩
     simp only at aq bD hX hJ ⊢;obtain ⟨k1,k2,k3,k4,k5⟩:=hJ.ok.fit;have hlen:=hJ.len;have hp:=cQ k1 k2;by_cases QN:o'<4
     ·obtain ⟨m1,m2,m3⟩:=zu (by omega) k1 QN k5;generalize Ev:beside a' o'=wg at m1 m2 m3
      have N1:=Js hJ.ok.sd hJ.ok.eM wg o'
      have cD:∀ w1,Ext w' w1->bF prog 135 [.agg (dt ⟨s.aV,s.To,⟨A,l.length,c⟩,s.Types⟩).toArray,.int .i64 wg] w1 fun v _=>v = .tuple #[.int .i64 (bE l wg:Int),.bool (bP l wg)]:=fun w1 hx =>
       we ⟨s.aV,s.To,⟨A,l.length,c⟩,s.Types⟩ l z.aV z.To wg w1 (hX.sl.ext hx) hJ.ok.sd hJ.ok.eM o1 (by omega) (by simp only;omega) ⟨by omega,by omega⟩
      by_cases Bg:bE l wg<l.length∧(∀ h:bE l wg<l.length,(l[bE l wg]).At=wg∧(l[bE l wg]).Order=o')
      ·obtain ⟨Bg,hh⟩:=Bg;obtain ⟨lg,xR⟩:=hh Bg;have QO:bP l wg=true:=by unfold bP;rw [dif_pos Bg];exact decide_eq_true lg
       have Vu:v9 l wg o'=true:=by unfold v9;rw [dif_pos Bg];exact decide_eq_true ⟨lg,xR⟩
       rw [Vu] at N1;rw [QO] at cD;have ZC:=Bo hJ.ok.sd hJ.ok.eM Bg lg xR;have hA:=hX.sl.base;generalize D8:bE l wg=lb at *
       have PN:∀ x,x=beside a' o'->x=wg:=fun x e=>e.trans Ev
       refine Wz ?_;(apply CW.bH mixed;(· kernel_rfl);rotate_left;intro w1 ai;obtain ⟨hw,aq,ar,bD,hX,hT⟩:=gw ai hw aq ar bD hX hT;clear ai;rotate_right);repeat' (first|refine Wz ?_|refine SW.dK rfl rfl (fun w1 ai=>(cD _ ai)) ?_|(refine SW.st (fG (r:=pw o') rfl rfl (by omega) (by omega) (by simp [pw]) (by omega) (by omega)) rfl ?_)|(refine SW.st ((nL a' o' rfl rfl rfl rfl ⟨by omega,by omega,k1,QN,k5⟩).eq (congrArg (Value.int .i64) Ev)) rfl ?_)|exact SW.eU rfl)
       (apply CW.bH mixed;(· kernel_rfl);rotate_left;intro w1 ai;obtain ⟨hw,aq,ar,bD,hX,hT⟩:=gw ai hw aq ar bD hX hT;clear ai;rotate_right);repeat' (first|refine Wz ?_|refine SW.want rfl rfl ?_|refine Wl (hX.sl.jR Bg rfl) ?_|exact SW.eU rfl)
       refine CW.any 8 mixed (dk (by kernel_rfl)) rfl fun w1 ai aG => ?_
       obtain ⟨hw,aq,ar,bD,hX,hT⟩:=gw ai hw aq ar bD hX hT;clear ai;refine Wa ?_;refine Wu 7 aG rfl (aU rfl (hX.sl.jR Bg rfl)) ?_;refine SA.done (by kernel_rfl) ?_;repeat' (first|refine Wz ?_|(refine SW.st (C7 rfl rfl) rfl ?_))
       refine Wb (i:=0) bD fun w5 jS hg => ?_
       have hG:=bD.gr hg;have hw:=hw.own se hg;have hX:=hX.grown hg (.inr (fun e=>by have:=hX.a9 _ e;omega));(obtain ⟨aq,ar,hT⟩:=cn hG aq ar hT);have bD:=jS;clear jS hg hG;refine Wz ?_;refine Wb (i:=1) bD fun w5 jS hg => ?_
       have hG:=bD.gr hg;have hw:=hw.own se hg;have hX:=hX.grown hg (.inr (fun e=>by have:=hX.a9 _ e;omega));(obtain ⟨aq,ar,hT⟩:=cn hG aq ar hT);have bD:=jS;clear jS hg hG;refine Wz ?_;refine SW.dX rfl rfl (m7 A l.length c _ l _ hX lb Bg (by omega) (by have:=bD.lt;omega)) fun v w6 hv => ?_
       obtain ⟨rfl,Dg,hg⟩:=hv;have hG:=hX.gr hg;have hw:=aD hw hg (adf se (Nat.le_succ _)) hX.a9;have bD:=bD.grown hg (fun e=>by have:=hX.a9 _ e.symm;omega);(obtain ⟨aq,ar,hT⟩:=cn hG aq ar hT);clear hg hG;have Br:l.length-1=(l.eraseIdx lb).length:=by rw [aes Bg]
       rw [Br] at Dg;rw [Br];refine Wz ?_;refine Wb (i:=2) aq fun w7 ed hg => ?_
       have hG:=aq.gr hg;have hw:=hw.own cg hg;have ar:=ar.grown hg (by simpa using oL.symm);(obtain ⟨bD,Dg,hT⟩:=cn hG bD Dg hT);refine Wz ?_;obtain ⟨f',PO⟩:=hJ.next o1 QN (by rw [Ev];exact N1)
       rw [Ev,<- ZC] at PO;refine ae.again (f',l.eraseIdx lb,min a' wg,o'+1,A,c) ⟨rfl,rfl,rfl,trivial⟩ (by simp only;omega) ⟨hw,ed,ar,?_,Dg,hT,PO⟩;rw [lg] at bD;exact bD
      ·have Vu:v9 l wg o'=false:=by
        unfold v9;by_cases h:bE l wg<l.length
        ·rw [dif_pos h];exact decide_eq_false (fun hh=>Bg ⟨h,fun _=>hh⟩)
        ·rw [dif_neg h]
       rw [Vu] at N1;have Bc:=hJ.stop (.inr (by rw [Ev];exact N1))
       have yy:∀ w1,Ext w w1->aS w1 b3 117 [.int .i64 s.aV,.int .i64 s.To,.slice A l.length c,.slice s.Types.A s.Types.n s.Types.c]->aS w1 b6 117 (dt .zero)->aS w1 b9 147 [.int .i64 a',.int .i64 o',.int .i64 0]->Own w1 (b9+1) 147 3 aO A l.length c l->Own w1 (b9+1) 3 1 bw s.Types.A s.Types.n s.Types.c z.Types -> ∀ L',iw L' [(3,.pointer (some ⟨b3,0,none⟩)),(6,.pointer (some ⟨b6,0,none⟩)),(9,.pointer (some ⟨b9,0,none⟩))]->K L' w1:=fun w1 x1 x2 x3 x4 x5 x6 L' x7=>by
        rw [hK];exact ⟨l,a',o',A,c,x7,x1,x2,x3,x4,x5,x6,hJ.ok,Bc,hJ.len⟩
       by_cases Br:bE l wg<l.length
       ·have hA:=hX.sl.base;by_cases lg:(l[bE l wg]).At=wg
        ·have xR : ¬ (l[bE l wg]).Order=o':=fun h=>Bg ⟨Br,fun _=>⟨lg,h⟩⟩
         have QO:bP l wg=true:=by unfold bP;rw [dif_pos Br];exact decide_eq_true lg
         rw [QO] at cD;generalize D8:bE l wg=lb at *
         repeat' (first|refine Wz ?_|((apply CW.bH mixed;(· kernel_rfl);rotate_left;intro w1 ai;obtain ⟨hw,aq,ar,bD,hX,hT⟩:=gw ai hw aq ar bD hX hT;clear ai;rotate_right))|refine SW.want rfl rfl ?_|refine Wl (hX.sl.jR Br rfl) ?_|refine SW.dK rfl rfl (fun w1 ai=>(cD _ ai)) ?_|(refine SW.st (fG (r:=pw o') rfl rfl (by omega) (by omega) (by simp [pw]) (by omega) (by omega)) rfl ?_)|(refine SW.st ((nL a' o' rfl rfl rfl rfl ⟨by omega,by omega,k1,QN,k5⟩).eq (congrArg (Value.int .i64) Ev)) rfl ?_)|exact SW.eU rfl)
         exact ae.mj (K:=K) (yy _ hw aq ar bD hX hT _ ⟨rfl,rfl,rfl,trivial⟩)
        ·have QO:bP l wg=false:=by unfold bP;rw [dif_pos Br];exact decide_eq_false lg
         rw [QO] at cD;generalize D8:bE l wg=lb at *
         repeat' (first|refine Wz ?_|((apply CW.bH mixed;(· kernel_rfl);rotate_left;intro w1 ai;obtain ⟨hw,aq,ar,bD,hX,hT⟩:=gw ai hw aq ar bD hX hT;clear ai;rotate_right))|refine SW.skip rfl rfl rfl rfl ?_|refine SW.dK rfl rfl (fun w1 ai=>(cD _ ai)) ?_|(refine SW.st (fG (r:=pw o') rfl rfl (by omega) (by omega) (by simp [pw]) (by omega) (by omega)) rfl ?_)|(refine SW.st ((nL a' o' rfl rfl rfl rfl ⟨by omega,by omega,k1,QN,k5⟩).eq (congrArg (Value.int .i64) Ev)) rfl ?_)|exact SW.eU rfl)
         exact ae.mj (K:=K) (yy _ hw aq ar bD hX hT _ ⟨rfl,rfl,rfl,trivial⟩)
       ·have QO:bP l wg=false:=by unfold bP;rw [dif_neg Br]
        rw [QO] at cD;generalize D8:bE l wg=lb at *
        repeat' (first|refine Wz ?_|((apply CW.bH mixed;(· kernel_rfl);rotate_left;intro w1 ai;obtain ⟨hw,aq,ar,bD,hX,hT⟩:=gw ai hw aq ar bD hX hT;clear ai;rotate_right))|refine SW.skip rfl rfl rfl rfl ?_|refine SW.dK rfl rfl (fun w1 ai=>(cD _ ai)) ?_|(refine SW.st (fG (r:=pw o') rfl rfl (by omega) (by omega) (by simp [pw]) (by omega) (by omega)) rfl ?_)|(refine SW.st ((nL a' o' rfl rfl rfl rfl ⟨by omega,by omega,k1,QN,k5⟩).eq (congrArg (Value.int .i64) Ev)) rfl ?_)|exact SW.eU rfl)
        exact ae.mj (K:=K) (yy _ hw aq ar bD hX hT _ ⟨rfl,rfl,rfl,trivial⟩)
     ·refine Wz ?_;exact ae.mj (K:=K) (by rw [hK];exact ⟨l,a',o',A,c,⟨rfl,rfl,rfl,trivial⟩,hw,aq,ar,bD,hX,hT,hJ.ok,hJ.stop (.inl QN),hJ.len⟩)
    ·clear hw aq ar bD hX hT Vt;subst hK;rintro L' w' ⟨l,a',o',A,c,jA,hw,aq,ar,bD,hX,hT,hJ,S7,hlen⟩
     refine ae.sub jA ?_;obtain ⟨k1,k2,k3,k4,k5⟩:=hJ.fit;obtain ⟨k,hk,iE⟩:=Iv hz k3 k4;have gp:k<s.Types.n:=by omega
     have ZD:=yx hq pn Jt S7 (t:=z.Types[k]) (by rw [hk];simp [List.getD_eq_getElem?_getD,List.getElem?_eq_getElem iE]);rw [ZD];have Vv:l.length<=1000000000000000000:=by omega
     have hA:=hT.sl.base;have eF2:s.aV=z.aV:=sF
     repeat' (first|refine Wz ?_|refine SW.st (cf (k) rfl rfl (by assumption) (by omega) (by omega)) rfl ?_|refine Wl (hT.sl.one gp rfl) ?_)
     refine Wb (i:=2) bD fun w5 jS hg => ?_
     have hG:=bD.gr hg;have hw:=hw.own se hg;have hX:=hX.grown hg (.inr (fun e=>by have:=hX.a9 _ e;omega));(obtain ⟨aq,ar,hT⟩:=cn hG aq ar hT);have bD:=jS;clear jS hg hG;repeat' (first|refine Wz ?_|(refine Wk (we ⟨s.aV,s.To,⟨A,l.length,c⟩,s.Types⟩ l z.aV z.To a' _ hX.sl hJ.sd hJ.eM o1 (by omega) Vv ⟨by omega,by omega⟩) ?_;intro v w1 ai hv;subst hv;obtain ⟨hw,aq,ar,bD,hX,hT⟩:=gw ai hw aq ar bD hX hT;clear ai))
     have eX:=hX.lt_size;refine SW.dI rfl rfl rfl rfl rfl fun vb w6 ak S8 ZE => ?_
     (obtain ⟨hw,aq,ar,bD,hX,hT⟩:=gw ak hw aq ar bD hX hT);skip;refine SW.dX rfl rfl (kN A l.length c _ l _ hX (bE l a') (Ix l a') ⟨a',o',z.Types[k]⟩ vb ZE (fun e=>by have:=eX _ e;omega) (adf (adD 24 (by omega)) hf) (by have:=bD.lt;omega)) fun v w7 hv => ?_
     obtain ⟨A2,c2,rfl,Dg,hg⟩:=hv;have hG:=hX.gr hg;have hw:=aD hw hg (adf se (Nat.le_succ _)) hX.a9;have bD:=bD.grown hg (fun e=>by have:=hX.a9 _ e.symm;omega);(obtain ⟨aq,ar,hT⟩:=cn hG aq ar hT);clear hg hG;refine Wz ?_;refine Wb (i:=2) aq fun w8 ed hg => ?_
     have hG:=aq.gr hg;have hw:=hw.own cg hg;have ar:=ar.grown hg (by simpa using oL.symm);(obtain ⟨bD,Dg,hT⟩:=cn hG bD Dg hT);clear hg hG;refine Wz ?_;refine SW.ag ar rfl rfl rfl rfl (fK ⟨s.aV,s.To,⟨A2,l.length+1,c2⟩,s.Types⟩) fun w9 cX hg => ?_
     have hG:=ar.gr hg;have hw:=hw.own cS hg;(obtain ⟨Dg,hT⟩:=df hG Dg hT);refine Wz ?_;exact ae.dA rfl rfl rfl cX rfl ⟨_,rfl,hw,⟨s.aV,s.To,⟨A2,l.length+1,c2⟩,s.Types⟩,rfl,sF,sT,Dg.low (by omega),hT.low (by omega)⟩
   ·rw [Jt] at cC;rw [Df hq pn Jt];repeat' (first|refine Wz ?_|(refine CW.fY rfl ?_)|((first|refine Wk (cF _) ?_|refine Wk (cC _ hw bD) ?_);intro v w1 ai hv;subst hv;obtain ⟨hw,aq,ar,bD⟩:=dv ai hw aq ar bD;clear ai)|(refine SW.st (iK (vs:=[.pointer (some ⟨b9,0,none⟩)]) rfl) rfl ?_))
    refine SW.ag ar rfl rfl rfl rfl (fK .zero) fun w5 cX hg => ?_
    have hw:=hw.own cS hg;refine Wz ?_;exact ae.dA rfl rfl rfl cX rfl ⟨_,rfl,hw,.zero,rfl,iH.zero _ _⟩
  ·rw [decide_eq_false pn] at cF;rw [yw hq pn];repeat' (first|refine Wz ?_|(refine CW.gu rfl ?_)|(refine Wk (cF _) ?_;intro v w1 ai hv;subst hv;obtain ⟨hw,aq,ar,bD⟩:=dv ai hw aq ar bD;clear ai))
   refine SW.ag ar rfl rfl rfl rfl (fK .zero) fun w5 cX hg => ?_
   have hw:=hw.own cS hg;refine Wz ?_;exact ae.dA rfl rfl rfl cX rfl ⟨_,rfl,hw,.zero,rfl,iH.zero _ _⟩
def eI (l:List Region) (p:Int) : Bool:=l.any fun r=>decide (r.aV<=p) && decide (p<r.aV+r.az)
def bump:List Region->List Region
 | []=>[]
 | [r]=>[⟨r.aV,r.az+1⟩]
 | x::y::l=>x::bump (y::l)
def runs (p:Nat->Bool) : Nat->List Region
 | 0=>[]
 | i+1=>if p i then (if 0<i∧p (i-1)=true then bump (runs p i) else runs p i++[⟨(i:Int),1⟩]) else runs p i
theorem oM:∀ (l:List Region) (r:Region),bump (l++[r])=l++[⟨r.aV,r.az+1⟩]
 | [],_=>rfl
 | [x],_=>rfl
 | x::y::l,r=>by
   have ih:=oM (y::l) r;simp only [List.cons_append,bump] at ih ⊢;rw [ih]
structure QP (p:Nat->Bool) (k:Nat) (l:List Region) : Prop where
 PP:∀ r∈l,0<=r.aV∧1<=r.az∧r.aV+r.az<=(k:Int)
 len:l.length<=k
 last : 0<k->p (k-1)=true -> ∃ init r,l=init++[r]∧r.aV+r.az=(k:Int)
 below:(0<k->p (k-1)=false) -> ∀ r∈l,r.aV+r.az<(k:Int)
 sep:l.Pairwise fun a b=>a.aV+a.az<b.aV
 iff:∀ i:Nat,i<k->(p i=true ↔ ∃ r∈l,r.aV<=(i:Int)∧(i:Int)<r.aV+r.az)
theorem va (p:Nat->Bool) : ∀ k,QP p k (runs p k)
 | 0=>⟨by simp [runs],by simp [runs],by simp,by simp [runs],by simp [runs],by simp⟩
 | k+1=>by
   have ih:=va p k;simp only [runs];by_cases hp:p k=true
   ·rw [if_pos hp];by_cases hq : 0<k∧p (k-1)=true
    ·rw [if_pos hq];obtain ⟨init,r,hl,hr⟩:=ih.last hq.1 hq.2;rw [hl,oM];have QQ:=ih.PP;have hlen:=ih.len;have Ew:=ih.sep;have LL:=ih.iff;rw [hl] at QQ hlen Ew LL;have hr0:=QQ r (by simp);refine ⟨?_,?_,?_,?_,?_,?_⟩
     ·intro x hx;simp only [List.mem_append,List.mem_singleton] at hx;rcases hx with hx|rfl
      ·have:=QQ x (by simp [hx]);omega
      ·simp only;omega
     ·simp only [List.length_append,List.length_singleton] at hlen ⊢;omega
     ·intro _ _;exact ⟨init,_,rfl,by simp only;omega⟩
     ·intro h;simp at h;rw [h] at hp;cases hp
     ·rw [adA] at Ew ⊢;refine ⟨Ew.1,by simp,fun a ha b hb => ?_⟩;simp only [List.mem_singleton] at hb;subst hb;exact Ew.2.2 a ha r (by simp)
     ·intro i hi;by_cases Eo:i=k
      ·subst Eo;simp only [hp,true_iff];exact ⟨⟨r.aV,r.az+1⟩,by simp,by simp only;omega,by simp only;omega⟩
      ·rw [LL i (by omega)];constructor
       ·rintro ⟨x,hx,h1,h2⟩
        simp only [List.mem_append,List.mem_singleton] at hx;rcases hx with hx|rfl
        ·exact ⟨x,by simp [hx],h1,h2⟩
        ·exact ⟨⟨x.aV,x.az+1⟩,by simp,h1,by simp only;omega⟩
       ·rintro ⟨x,hx,h1,h2⟩
        simp only [List.mem_append,List.mem_singleton] at hx;rcases hx with hx|rfl
        ·exact ⟨x,by simp [hx],h1,h2⟩
        ·simp only at h1 h2;exact ⟨r,by simp,h1,by omega⟩
    ·rw [if_neg hq]
     have hb:∀ r∈runs p k,r.aV+r.az<(k:Int):=ih.below (fun h0=>by
      cases hh:p (k-1) with
      | false=>rfl
      | true=>exact absurd ⟨h0,hh⟩ hq)
     refine ⟨?_,?_,?_,?_,?_,?_⟩
     ·intro x hx;simp only [List.mem_append,List.mem_singleton] at hx;rcases hx with hx|rfl
      ·have:=ih.PP x hx;omega
      ·simp only;omega
     ·have:=ih.len
      simp only [List.length_append,List.length_singleton];omega
     ·intro _ _;exact ⟨runs p k,_,rfl,by simp only;omega⟩
     ·intro h;simp at h;rw [h] at hp;cases hp
     ·rw [adA];refine ⟨ih.sep,by simp,fun a ha b iz => ?_⟩;simp only [List.mem_singleton] at iz;subst iz;exact hb a ha
     ·intro i hi;by_cases Eo:i=k
      ·subst Eo;simp only [hp,true_iff];exact ⟨⟨(i:Int),1⟩,by simp,by simp only;omega,by simp only;omega⟩
      ·rw [ih.iff i (by omega)];constructor
       ·rintro ⟨x,hx,h1,h2⟩
        exact ⟨x,by simp [hx],h1,h2⟩
       ·rintro ⟨x,hx,h1,h2⟩
        simp only [List.mem_append,List.mem_singleton] at hx;rcases hx with hx|rfl
        ·exact ⟨x,hx,h1,h2⟩
        ·simp only at h1 h2;omega
   ·rw [if_neg hp];have GJ:p k=false:=by simpa using hp
    refine ⟨?_,?_,?_,?_,ih.sep,?_⟩
    ·intro x hx;have:=ih.PP x hx;omega
    ·have:=ih.len;omega
    ·intro _ h;simp at h;rw [h] at GJ;cases GJ
    ·intro _ x hx;have:=ih.PP x hx;omega
    ·intro i hi;by_cases Eo:i=k
     ·subst Eo;simp only [GJ,Bool.false_eq_true,false_iff];rintro ⟨x,hx,h1,h2⟩
      have:=ih.PP x hx;omega
     ·exact ih.iff i (by omega)
def marksOf (p:Nat->Bool) (k:Nat) : List Bool:=(List.range k).map p
theorem Ex (p:Nat->Bool) (k:Nat) : (marksOf p k).length=k:=by simp [marksOf]
theorem mM (p:Nat->Bool) (k i:Nat) (h:i<(marksOf p k).length) : (marksOf p k)[i]=p i:=by simp [marksOf]
theorem sh (p:Nat->Bool) (k i:Nat) (b:Bool) : (marksOf p k).set i b=marksOf (fun j=>if j=i then b else p j) k:=by
 apply ad1 (by simp [marksOf]);intro j h1 h2;rw [adB];by_cases h:i=j
 ·subst h;simp [marksOf]
 ·have : ¬ j=i:=fun e=>h e.symm
  simp [marksOf,h,this]
theorem iA {p q:Nat->Bool} (h:∀ i,i<k->p i=q i) : marksOf p k=marksOf q k:=by
 apply ad1 (by simp [marksOf]);intro j h1 h2;simp only [mM];exact h j (by simpa [marksOf] using h1)
variable {bs:List Block}
def qB (b:Block) (i:Nat) : Bool:=decide (b.At<=(i:Int)) && decide ((i:Int)<b.At+pw b.Order)
def eu (bs:List Block) (i:Nat) : Bool:=bs.any fun b=>qB b i
def xm (bs:List Block) (b:Block) : Prop:=0<=b.At∧b.At+pw b.Order<=256∧ki bs b.At b.Order=false
instance (bs:List Block) (b:Block) : Decidable (xm bs b):=inferInstanceAs (Decidable (_∧_))
def lV (s:Option (List Block)) (b:Block) : Option (List Block):=match s with
 | none=>none
 | some bs=>if xm bs b then some (bs++[b]) else none
def bA (s:Option (List Block)) (l:List Block) : Option (List Block):=l.foldl lV s
theorem jd:∀ l,bA none l=none
 | []=>rfl
 | b::l=>jd l
theorem dy (s:Option (List Block)) (l m:List Block) : bA s (l++m)=bA (bA s l) m:=ae9
theorem xn (s:Option (List Block)) (l:List Block) (k:Nat) (h:k<l.length) : bA s (l.take (k+1))=lV (bA s (l.take k)) l[k]:=by
 rw [adk h,dy];rfl
theorem pU {s:Option (List Block)} {b:Block} (h:lV s b=some bs) : ∃ cs,s=some cs∧xm cs b∧bs=cs++[b]:=by
 cases s with
 | none=>simp [lV] at h
 | some cs =>
   simp only [lV] at h;split at h
   ·rename_i hf;injection h with h;exact ⟨cs,rfl,hf,h.symm⟩
   ·cases h
def QR (p:Nat->Bool) (a n:Int) : Prop:=0<=a∧a<256∧n<=256-a ∧ ∀ i:Nat,a<=(i:Int)->(i:Int)<a+n->p i=false
def Bs (p:Nat->Bool) (a n:Int) (i:Nat) : Bool:=p i || (decide (a<=(i:Int)) && decide ((i:Int)<a+n))
theorem s9 (hb:∀ b∈bs,0<=b.At∧1<=pw b.Order) {b:Block} (h1 : 1<=pw b.Order) : QR (eu bs) b.At (pw b.Order)↔xm bs b:=by
 constructor
 ·rintro ⟨h2,h3,h4,h5⟩
  refine ⟨h2,by omega,?_⟩;unfold ki;rw [ady];intro x hx hh;simp only [Bool.and_eq_true,decide_eq_true_eq] at hh;obtain ⟨k1,k2⟩:=hh;obtain ⟨q1,q2⟩:=hb x hx;have h6:=h5 (max x.At b.At).toNat (by omega) (by omega);unfold eu at h6;rw [ady] at h6;apply h6 x hx;simp only [qB,Bool.and_eq_true,decide_eq_true_eq];omega
 ·rintro ⟨h2,h3,h4⟩
  refine ⟨h2,by omega,by omega,fun i k1 k2 => ?_⟩;unfold eu;rw [ady];intro x hx hh;simp only [qB,Bool.and_eq_true,decide_eq_true_eq] at hh;unfold ki at h4;rw [ady] at h4;apply h4 x hx;simp only [Bool.and_eq_true,decide_eq_true_eq];omega
theorem LM (bs:List Block) (b:Block) (i:Nat) : Bs (eu bs) b.At (pw b.Order) i=eu (bs++[b]) i:=by
 simp [Bs,eu,qB]
def si (s:Option (List Block)) : Prop := ∀ bs,s=some bs -> ∀ x∈bs,0<=x.At∧1<=pw x.Order
theorem BN:si (some []):=fun bs h x hx=>by cases h;simp at hx
theorem Jw {s:Option (List Block)} {b:Block} (h:si s) (hb : 1<=pw b.Order) : si (lV s b):=fun bs S9 x hx=>by
 obtain ⟨cs,rfl,hf,rfl⟩:=pU S9;rcases adm.1 hx with hx|hx
 ·exact h cs rfl x hx
 ·simp at hx;subst hx;exact ⟨hf.1,hb⟩
theorem lh {s:Option (List Block)}:∀ {l:List Block},si s->(∀ b∈l,1<=pw b.Order)->si (bA s l)
 | [],h,_=>h
 | b::l,h,hb=>lh (l:=l) (Jw h (hb b (by simp))) (fun x hx=>hb x (by simp [hx]))
def cu (p:Int) : Block:=⟨p,0,0⟩
def bc (l:List aT) : List Block:=l.flatMap fun x=>x.ax.map cu
theorem jm:pw 0=1:=by decide
def dg (a b:aT) : Prop:=a.ga<b.ga∨(a.ga=b.ga∧(a.ao<b.ao∨(a.ao=b.ao∧a.Ty<b.Ty)))
instance (a b:aT) : Decidable (dg a b):=inferInstanceAs (Decidable (_∨_))
def lB (cpus:Int) (l:aT) : Prop:=(0<=l.ga∧l.ga<cpus)∧(0<=l.ao∧l.ao<=1)∧(0<=l.Ty∧l.Ty<=2)∧(1<=l.ax.length∧l.ax.length<=8)
instance (c:Int) (l:aT) : Decidable (lB c l):=inferInstanceAs (Decidable (_∧_))
structure nu (cpus to:Int) (ls:List aT) : Prop where
 head:∀ (i:Nat) (h:i<ls.length),lB cpus ls[i]
 next:∀ (i:Nat) (h:i+1<ls.length),dg ls[i] ls[i+1]
 kr:∀ (i:Nat) (h:i<ls.length),∀ p∈(ls[i]).ax,(p<to↔(ls[i]).ao=0)
def wh (b:Block) : Prop:=(0<=b.Order∧b.Order<=4)∧(0<=b.At∧b.At<=255)∧b.At % pw b.Order=0∧kU b.Ty
structure fV (l:List Block) : Prop where
 each:∀ (i:Nat) (h:i<l.length),wh l[i]
 next:∀ (i:Nat) (h:i+1<l.length),l[i].At<l[i+1].At
structure bK (h:Heap) : Prop where
 ct:∃ z0 z1,h.bp=[z0,z1]∧bV z0∧bV z1∧z0.aV=0∧z0.To=z1.aV∧z1.To=256∧nu h.bG z0.To h.av∧(bA (some []) (z0.aj++z1.aj++bc h.av++h.Live)).isSome=true
 eE:∃ m0 m1,h.dO=[m0,m1]∧(0<=m0∧m0<=256)∧(0<=m1∧m1<=256)
 cpus : 1<=h.bG∧h.bG<=4
 live:fV h.Live
noncomputable def je (h:Heap) : Bool := @decide (bK h) (Classical.propDecidable _)
theorem Dh {h:Heap} (a:bK h) : je h=true:=by unfold je;exact @decide_eq_true _ (Classical.propDecidable _) a
theorem nv {h:Heap} (a : ¬ bK h) : je h=false:=by unfold je;exact @decide_eq_false _ (Classical.propDecidable _) a
theorem cq {h:Heap}:je h=true↔bK h:=by
 by_cases a:bK h
 ·simp [Dh a,a]
 ·simp [nv a,a]
theorem sk (l:List aT) (k:Nat) (h:k<l.length) : bc (l.take (k+1))=bc (l.take k)++l[k].ax.map cu:=by
 unfold bc;rw [adk h,adt];simp
theorem jY {s:Option (List Block)} {m:List Block} (h:(bA s (l++m)).isSome=true) : (bA s l).isSome=true:=by
 rw [dy] at h;cases e:bA s l with
 | none=>rw [e,jd] at h;cases h
 | some x=>rfl
variable {ad:Addr} {R:Ending->World->Prop} {N:Nat}
section
variable {P:Program} {L:Env} {w:World} {d:Option Nat} {T:TypeId} {pos:String} {af:Array Edge} {g:Option (Nat×Bool)}
theorem sn {len:Nat} [c:y4 P t len e sz] {x:Operand} {i:Int} (k:Nat) (hx:cT L x=some (.pointer (some ad))) (hy:cT L y=some (.int .i64 i)) (hi:i=(k:Int)) (hk:k<len) :
 St P ⟨d,.indexAddr t x y,T,pos,af,g⟩ L w (.pointer (some (ad.add (k*sz)))) :=
 ⟨fun _ a ha w' _=>by
  subst hi;have e1:=ha.eval hx;have e2:=ha.eval hy;generalize a.eval = ρ at *
  simp [execOp,e1,e2,Instr.indexAt,Instr.sureAddr,asIntOf,run_underlying c.oz,run_sizeOf c.size,hk]⟩
end
theorem ae.QS {n:Nat} {L:Env} (hr:fn.results = #[]) (h:R (.returned (.tuple #[])) w) : ae n (bodyPost P fn R) .ret L w :=
 ⟨fun a ha=>⟨ha.defers,_,by simpa using mI.results (rs:=[]) hr .nil ha,h⟩⟩
theorem ae.pV {n:Nat} {L:Env} (hr:fn.results = #[]) (h:R (.returned (.tuple #[])) w) : ae n (bodyPost P fn R) .normal L w :=
 ⟨fun a ha=>⟨ha.defers,_,by simpa using mI.results (rs:=[]) hr .nil ha,h⟩⟩
def iP (p:Nat->Bool) (N:Nat) (bad:Bool) : List Value:=(marksOf p N).map Value.bool++[.bool bad]
theorem uj (p:Nat->Bool) (N:Nat) (bad:Bool) : (iP p N bad).length=N+1:=by simp [iP,marksOf]
theorem zx (p:Nat->Bool) (N:Nat) (bad:Bool) : (iP p N bad)[N]?=some (.bool bad):=by
 unfold iP;rw [adX (by simp [marksOf])];simp [marksOf]
theorem Jx (p:Nat->Bool) (N:Nat) (bad:Bool) (h:i<N) : (iP p N bad)[i]?=some (.bool (p i)):=by
 unfold iP;rw [adQ (by simp [marksOf];omega)];simp [marksOf,h]
theorem tR (p:Nat->Bool) (N:Nat) (bad b:Bool) : (iP p N bad).set N (.bool b)=iP p N b:=by
 unfold iP;rw [aec _ _ (by simp [marksOf])];simp [marksOf]
theorem GK (p:Nat->Bool) (N:Nat) (bad:Bool) (h:i<N) : (iP p N bad).set i (.bool true)=iP (fun j=>if j=i then true else p j) N bad:=by
 unfold iP;rw [List.set_append_left _ _ (by simp [marksOf];omega),<- sh,aew]
theorem qM {p q:Nat->Bool} {bad:Bool} (h:∀ i,i<N->p i=q i) : iP p N bad=iP q N bad:=by
 unfold iP;rw [iA h]
set_option maxHeartbeats 4000000 in
theorem Ey (b:Nat) (p:Nat->Bool) (bad:Bool) (N:Nat) (hN:N=256) (a n:Int) (w:World) (hB:aS w b 191 (iP p N bad)) (hn : 0<=n∧n<=16) :
 iO prog 107 [.pointer (some ⟨b,0,none⟩),.int .i64 a,.int .i64 n] w fun v w' => ∃ p' Jy,aS w' b 191 (iP p' N Jy)∧w.grownBy w' (some b)∧((QR p a n∧Jy=bad∧p'=Bs p a n)∨(¬ QR p a n∧Jy=true)):=by
 refine dl func107 rfl ntmps107 rfl ?_;have GD:w.grownBy w (some b):=World.grownBy.refl _ _
 have hw:=Ext.refl w;by_cases cy : 0<=a∧a<256∧n<=256-a
 ·obtain ⟨h1,h2,h3⟩:=id cy;obtain ⟨k,rfl⟩:=adn h1;obtain ⟨m,rfl⟩:=adn hn.1;refine Wz ?_;clear hw
  refine CW.loop (fun j:Nat=>[(0,.pointer (some ⟨b,0,none⟩)),(1,.int .i64 (k:Int)),(2,.int .i64 (m:Int)),(6,.int .i64 ((k+j:Nat) : Int))])
   (fun j w'=>j<=m∧aS w' b 191 (iP (Bs p k (j:Int)) N bad)∧w.grownBy w' (some b) ∧ ∀ i:Nat,k<=i->i<k+j->p i=false) (fun j=>m-j) 0
   ⟨rfl,rfl,rfl,rfl,trivial⟩ ⟨by omega,by rwa [qM (q:=p) (fun i _=>by simp [Bs]<;>omega)],GD,fun i h1 h2=>by omega⟩ ?_
  clear hB GD;rintro j w' ⟨hj,hB,hg,hI⟩
  have hw:=Ext.refl w';by_cases X0:j<m
  ·have eX:k+j<N:=by omega
   have hc:=hB.cell (Jx _ N bad eX);have hv:Bs p k (j:Int) (k+j)=p (k+j):=by simp [Bs]
   rw [hv] at hc;have g7:w'.cell? (((⟨b,0,none⟩ : Addr).add 0).add ((k+j)*1))=some (.bool (p (k+j))):=by rw [add_add];simpa using hc
   cases hp:p (k+j)
   ·rw [hp] at g7;repeat' (first|refine Wz ?_|refine Wl (g7) ?_|(refine SW.st (sn (k+j) rfl rfl rfl (by omega)) rfl ?_))
    have Vw:(⟨b,0,none⟩ : Addr).add (k+j)=((⟨b,0,none⟩ : Addr).add 0).add ((k+j)*1):=by rw [add_add];simp
    refine SW.sb (i:=k+j) hB (by rw [Vw];rfl) rfl rfl (by rw [uj];simp;omega) fun w3 v7 Lk => ?_
    rw [GK _ _ _ eX,qM (q:=Bs p k ((j+1:Nat) : Int)) (fun i _=>by
     by_cases e:i=k+j
     ·subst e;simp [Bs];omega
     ·simp only [e,if_false,Bs];congr 1
      by_cases e1:i<k+j
      ·rw [decide_eq_true (show (i:Int)<(k:Int)+(j:Int) by omega),decide_eq_true (show (i:Int)<(k:Int)+((j+1:Nat) : Int) by omega)]
      ·rw [decide_eq_false (show ¬ (i:Int)<(k:Int)+(j:Int) by omega),decide_eq_false (show ¬ (i:Int)<(k:Int)+((j+1:Nat) : Int) by omega)])] at v7
    have Bf:=bU hg Lk (.inl rfl);clear hw;have hw:=Ext.refl w3;refine Wz ?_;refine ae.again (j+1) ⟨rfl,rfl,rfl,rfl,trivial⟩ (by omega) ⟨by omega,v7,Bf,fun i h1 h2 => ?_⟩;by_cases e:i=k+j
    ·subst e;exact hp
    ·exact hI i h1 (by omega)
   ·rw [hp] at g7;repeat' (first|refine Wz ?_|refine Wl (g7) ?_|(refine SW.st (sn (k+j) rfl rfl rfl (by omega)) rfl ?_))
    subst hN;refine SW.sb (i:=256) hB rfl rfl rfl (by rw [uj];rfl) fun w3 v7 Lk => ?_
    rw [tR] at v7;clear hw;have hw:=Ext.refl w3;refine Wz ?_;exact ae.QS rfl ⟨_,rfl,_,true,v7,bU hg Lk (.inl rfl),.inr ⟨(fun h=>by have:=h.2.2.2 (k+j) (by omega) (by omega);rw [hp] at this;cases this),rfl⟩⟩
  ·obtain rfl:j=m:=by omega
   refine Wz ?_;exact ae.pV rfl ⟨_,rfl,_,bad,hB,hg,.inl ⟨⟨h1,h2,h3,fun i h4 h5=>hI i (by omega) (by omega)⟩,rfl,rfl⟩⟩
 ·have oH : ¬ QR p a n:=fun h=>cy ⟨h.1,h.2.1,h.2.2.1⟩
  subst hN;repeat' (first|refine Wz ?_|refine SW.gi rfl rfl rfl (fun h => ?_) (fun h => ?_))
  all_goals
   first
    | (exfalso;omega)
    | (refine SW.sb (i:=256) hB rfl rfl rfl (by rw [uj];rfl) fun w3 v7 Lk => ?_
       rw [tR] at v7;clear hw;have hw:=Ext.refl w3;refine Wz ?_;exact ae.QS rfl ⟨_,rfl,_,true,v7,Lk,.inr ⟨oH,rfl⟩⟩)
end Go.Proofs.YtohigmjjbgpfmaaGreatDoor
