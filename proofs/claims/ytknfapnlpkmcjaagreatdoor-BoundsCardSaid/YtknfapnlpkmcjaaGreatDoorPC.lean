/- A part of the proofs of the cards of this seat: whatever the input, each law returns true and leaves its arguments as they were. No condition. -/
import Derived.Test.YtknfapnlpkmcjaaGreatDoorPB
import Derived.Test.YtknfapnlpkmcjaaGreatDoorProg
import Derived.Test.YtknfapnlpkmcjaaGreatDoorPA
set_option linter.all false
set_option maxRecDepth 100000
set_option maxHeartbeats 32000000
namespace Go.Inv
open Go.Sh
@[reducible] noncomputable def pr:Program:=Go.Proofs.Tryz.prog
abbrev G(g:Nat):Value:=.pointer (some ⟨g,0,none⟩)
abbrev Fu(f:Nat):Value:=.func (.func f) #[] #[]
def E2k(f:Nat):Bool:=Nat.testBit 499144518139023094971542516988371122283741826864865009887105962262335560607333074599932 f
theorem E3:pr.follows .mixedOrders=true:=kr
theorem E2b:(List.range 289).all (fun f=>!Nat.testBit 499144518139023094971542516988371122283741826864865009887105962262335560607333074599932 f||A3J pr f)=true:=kr
theorem D4:A7l pr E2k:=D1r E2b kr
abbrev B3Z:Nat:=9
abbrev A6j:Nat:=15
abbrev B5w:Nat:=18
abbrev A2o:Nat:=21
abbrev A3y:Nat:=25
abbrev B0p:Nat:=32
abbrev A0X:Nat:=34
abbrev A3z:Nat:=35
abbrev A6f:Nat:=36
abbrev A2L:Nat:=39
abbrev A0u:Nat:=41
abbrev A6i:Nat:=42
abbrev A0t:Nat:=44
abbrev A0O:Nat:=45
abbrev T8:Nat:=46
abbrev A0v:Nat:=47
abbrev A0k:Nat:=51
abbrev A4U:Nat:=52
abbrev A1T:Nat:=53
abbrev A0W:Nat:=54
abbrev F8:Nat:=55
abbrev W8:Nat:=56
abbrev I8:Nat:=57
abbrev A8L:Nat:=60
abbrev A1x:Nat:=61
abbrev O6:Nat:=64
abbrev H9:Nat:=65
abbrev N8:Nat:=66
abbrev A6O:Nat:=69
abbrev A2n:Nat:=70
abbrev A1S:Nat:=71
abbrev B0o:Nat:=72
abbrev B2M:Nat:=73
abbrev X2:Nat:=74
abbrev A1q:Nat:=75
abbrev A7P:Nat:=76
abbrev A1r:Nat:=77
abbrev A1M:Nat:=78
abbrev R3:Nat:=81
abbrev B0q:Nat:=82
abbrev A2x:Nat:=83
abbrev A3t:Nat:=84
abbrev A3v:Nat:=85
abbrev A1p:Nat:=86
abbrev B2K:Nat:=87
abbrev A8I:Nat:=88
abbrev A1g:Nat:=89
abbrev C6O:Nat:=90
abbrev B0s:Nat:=91
abbrev A0f:Nat:=94
abbrev A5x:Nat:=95
abbrev N0:Nat:=101
abbrev R5:Nat:=102
abbrev A6L:Nat:=103
abbrev N4:Nat:=104
abbrev A0n:Nat:=105
abbrev L3:Nat:=106
abbrev A2c:Nat:=107
abbrev V4:Nat:=110
abbrev Y2:Nat:=111
abbrev A7Q:Nat:=112
abbrev A0o:Nat:=113
abbrev A6h:Nat:=114
abbrev A1h:Nat:=115
abbrev A8J:Nat:=116
abbrev A5q:Nat:=117
abbrev A3u:Nat:=119
abbrev Q2:Nat:=120
abbrev A1G:Nat:=121
abbrev Q1:Nat:=122
abbrev A0m:Nat:=123
abbrev Z2:Nat:=124
abbrev R6:Nat:=125
abbrev B3Y:Nat:=126
abbrev A1n:Nat:=132
abbrev G4:Nat:=133
abbrev B1p:Nat:=134
abbrev A0g:Nat:=135
abbrev B5v:Nat:=136
abbrev A6e:Nat:=143
abbrev A6M:Nat:=144
abbrev A0h:Nat:=145
abbrev A3w:Nat:=146
abbrev A7N:Nat:=147
abbrev Z7:Nat:=148
abbrev A6g:Nat:=149
abbrev A8H:Nat:=150
abbrev A8G:Nat:=151
abbrev T2:Nat:=152
abbrev R7:Nat:=153
abbrev A8E:Nat:=154
abbrev X1:Nat:=155
abbrev A1L:Nat:=156
abbrev A0l:Nat:=157
abbrev A1F:Nat:=158
abbrev O7:Nat:=159
abbrev V0:Nat:=160
abbrev A2b:Nat:=162
abbrev A5p:Nat:=164
abbrev A4a:Nat:=165
abbrev A1U:Nat:=172
abbrev D0U:Nat:=173
abbrev A6c:Nat:=174
abbrev A6d:Nat:=175
abbrev B2L:Nat:=176
abbrev C1U:Nat:=178
abbrev A6N:Nat:=180
abbrev A2K:Nat:=181
abbrev Z6:Nat:=182
abbrev A8F:Nat:=183
abbrev A0H:Nat:=184
abbrev A1E:Nat:=185
abbrev A3x:Nat:=186
abbrev B0t:Nat:=187
abbrev L7:Nat:=188
abbrev A7O:Nat:=195
abbrev A4E:Nat:=196
abbrev B0r:Nat:=197
abbrev A6P:Nat:=249
abbrev B5A:Nat:=250
abbrev A5y:Nat:=251
abbrev B2P:Nat:=252
abbrev B0u:Nat:=253
abbrev B5z:Nat:=254
abbrev B5y:Nat:=255
abbrev B9I:Nat:=256
abbrev B2O:Nat:=257
abbrev B2N:Nat:=258
abbrev B5x:Nat:=259
abbrev A1V:Nat:=260
abbrev A1s:Nat:=261
abbrev A1i:Nat:=262
abbrev A8K:Nat:=263
abbrev A9N:Nat:=123
abbrev E6:Nat:=118
abbrev A3S:Nat:=121
abbrev B3m:Nat:=80
abbrev F7:Nat:=74
abbrev D5y:Nat:=78
abbrev G8:Nat:=33
abbrev G1:Nat:=82
abbrev C7O:Nat:=274
abbrev A8j:Nat:=272
abbrev B4L:Nat:=277
abbrev A4j:Nat:=275
abbrev B7o:Nat:=280
abbrev A3b:Nat:=278
abbrev B8p:Nat:=283
abbrev A8i:Nat:=281
abbrev A4t:Nat:=200
abbrev A3R:Nat:=196
abbrev B3l:Nat:=206
abbrev A4O:Nat:=204
abbrev X4:Nat:=213
abbrev A0c:Nat:=207
abbrev A7q:Nat:=216
abbrev A7p:Nat:=214
abbrev R9:Nat:=219
abbrev A1I:Nat:=217
abbrev L4:Nat:=193
abbrev U0:Nat:=211
abbrev A2D:Nat:=195
abbrev D4b:Nat:=1
abbrev A0L:Nat:=3
theorem pl3:I7 pr 3=true:=kr
theorem pl4:I7 pr 4=true:=kr
theorem pl5:I7 pr 5=true:=kr
theorem pl9:I7 pr 9=true:=kr
theorem A3I:I7 pr 22=true:=kr
theorem D6z:I7 pr 23=true:=kr
theorem B6X:I7 pr 26=true:=kr
theorem B7j:A0A pr 28=some 2:=kr
theorem C2J:I7 pr 30=true:=kr
theorem B1G:I7 pr 40=true:=kr
theorem D3a:I7 pr 70=true:=kr
theorem D7C:A0A pr 94=some 8:=kr
theorem C8v:I7 pr 118=true:=kr
theorem A9f:I7 pr 119=true:=kr
theorem C8u:I7 pr 127=true:=kr
theorem B6y:A0A pr 193=some 1:=kr
theorem B6r:I7 pr 195=true:=kr
theorem B6q:I7 pr 198=true:=kr
theorem B6p:I7 pr 209=true:=kr
theorem B4v:A0A pr 211=some 3:=kr
theorem C9O:A0A pr 343=some 6:=kr
theorem B8e:C3 pr 121 0=some 0:=kr
theorem B8d:C3 pr 121 1=some 1:=kr
theorem B8c:C3 pr 121 2=some 2:=kr
theorem B8b:C3 pr 121 3=some 3:=kr
theorem C9w:C3 pr 123 0=some 0:=kr
theorem C9v:C3 pr 123 1=some 1:=kr
theorem C9u:C3 pr 123 2=some 2:=kr
theorem C9t:C3 pr 123 3=some 3:=kr
theorem C9s:C3 pr 123 4=some 4:=kr
theorem C9r:C3 pr 129 0=some 0:=kr
theorem C9q:C3 pr 129 1=some 8:=kr
theorem C9p:C3 pr 129 2=some 9:=kr
theorem C9o:C3 pr 129 3=some 10:=kr
theorem C9c:C3 pr 173 0=some 0:=kr
theorem B7X:C3 pr 193 0=some 0:=kr
theorem B7W:C3 pr 200 1=some 1:=kr
theorem B7V:C3 pr 200 2=some 2:=kr
theorem B7U:C3 pr 206 1=some 1:=kr
theorem B7T:C3 pr 211 0=some 0:=kr
theorem B7S:C3 pr 211 1=some 1:=kr
theorem B7R:C3 pr 211 2=some 2:=kr
theorem B7Q:C3 pr 213 1=some 1:=kr
theorem B7P:C3 pr 213 2=some 4:=kr
theorem B7O:C3 pr 216 1=some 1:=kr
theorem B7N:C3 pr 216 2=some 4:=kr
theorem B7M:C3 pr 216 3=some 5:=kr
theorem C8V:C3 pr 216 4=some 6:=kr
theorem B7L:C3 pr 219 0=some 0:=kr
theorem B7K:C3 pr 219 1=some 1:=kr
theorem B7J:C3 pr 219 2=some 4:=kr
theorem B7E:C3 pr 274 0=some 0:=kr
theorem B7D:C3 pr 277 0=some 0:=kr
theorem B7C:C3 pr 280 0=some 0:=kr
theorem B7B:C3 pr 283 0=some 0:=kr
theorem B7A:C3 pr 283 1=some 1:=kr
theorem B7z:C3 pr 283 2=some 2:=kr
theorem B7y:C3 pr 283 3=some 3:=kr
theorem is9:A1Y pr 9=true:=kr
theorem D7m:A7W pr 23=true:=kr
theorem C8I:A7W pr 119=true:=kr
theorem ik3:A4c pr 3 .i64=true:=kr
theorem ik5:A4c pr 5 .u8=true:=kr
theorem B1O:A4c pr 21 .i32=true:=kr
theorem A0R:A4c pr 40 .i16=true:=kr
theorem D0l:A2j pr 33=true:=kr
theorem E1p:A2j pr 74=true:=kr
theorem D7X:A2j pr 130=true:=kr
theorem D7U:A2j pr 196=true:=kr
theorem D7T:A2j pr 204=true:=kr
theorem D7S:A2j pr 207=true:=kr
theorem D7R:A2j pr 214=true:=kr
theorem D7Q:A2j pr 217=true:=kr
theorem D7P:A2j pr 272=true:=kr
theorem D7O:A2j pr 275=true:=kr
theorem D7N:A2j pr 278=true:=kr
theorem D7M:A2j pr 281=true:=kr
def RT:=(yA (yA (yA (yA (yA (yA (yA (H8 pl3) (yA (F5 pl3) (F4 pl3))) (yA (yA (F6 pl3) (H8 pl4)) (yA (F5 pl4) (F4 pl4)))) (yA (yA (F6 pl4) (yA (H8 pl5) (F5 pl5))) (yA (yA (F4 pl5) (F6 pl5)) (yA (H8 pl9) (F5 pl9))))) (yA (yA (yA (F4 pl9) (yA (F6 pl9) (H8 A3I))) (yA (yA (F5 A3I) (F4 A3I)) (yA (F6 A3I) (H8 D6z)))) (yA (yA (F5 D6z) (yA (F4 D6z) (F6 D6z))) (yA (yA (H8 B6X) (F5 B6X)) (yA (F4 B6X) (F6 B6X)))))) (yA (yA (yA (yA (H8 C2J) (yA (F5 C2J) (F4 C2J))) (yA (yA (F6 C2J) (H8 B1G)) (yA (F5 B1G) (F4 B1G)))) (yA (yA (F6 B1G) (yA (H8 D3a) (F5 D3a))) (yA (yA (F4 D3a) (F6 D3a)) (yA (H8 C8v) (F5 C8v))))) (yA (yA (yA (F4 C8v) (yA (F6 C8v) (H8 A9f))) (yA (yA (F5 A9f) (F4 A9f)) (yA (F6 A9f) (H8 C8u)))) (yA (yA (F5 C8u) (yA (F4 C8u) (F6 C8u))) (yA (yA (H8 B6r) (F5 B6r)) (yA (F4 B6r) (F6 B6r))))))) (yA (yA (yA (yA (yA (H8 B6q) (yA (F5 B6q) (F4 B6q))) (yA (yA (F6 B6q) (H8 B6p)) (yA (F5 B6p) (F4 B6p)))) (yA (yA (F6 B6p) (yA (N3 B7j) (J7 B7j))) (yA (yA (J6 B7j) (J8 B7j)) (yA (N3 D7C) (J7 D7C))))) (yA (yA (yA (J6 D7C) (yA (J8 D7C) (N3 B6y))) (yA (yA (J7 B6y) (J6 B6y)) (yA (J8 B6y) (N3 B4v)))) (yA (yA (J7 B4v) (yA (J6 B4v) (J8 B4v))) (yA (yA (N3 C9O) (J7 C9O)) (yA (J6 C9O) (J8 C9O)))))) (yA (yA (yA (yA (J5 B8e) (yA (D7 B8e) (J5 B8d))) (yA (yA (D7 B8d) (J5 B8c)) (yA (D7 B8c) (J5 B8b)))) (yA (yA (D7 B8b) (yA (J5 C9w) (D7 C9w))) (yA (yA (J5 C9v) (D7 C9v)) (yA (J5 C9u) (D7 C9u))))) (yA (yA (yA (J5 C9t) (yA (D7 C9t) (J5 C9s))) (yA (yA (D7 C9s) (J5 C9r)) (yA (D7 C9r) (J5 C9q)))) (yA (yA (yA (D7 C9q) (J5 C9p)) (yA (D7 C9p) (J5 C9o))) (yA (yA (D7 C9o) (J5 C9c)) (yA (D7 C9c) (J5 B7X)))))))) (yA (yA (yA (yA (yA (yA (D7 B7X) (yA (J5 B7W) (D7 B7W))) (yA (yA (J5 B7V) (D7 B7V)) (yA (J5 B7U) (D7 B7U)))) (yA (yA (J5 B7T) (yA (D7 B7T) (J5 B7S))) (yA (yA (D7 B7S) (J5 B7R)) (yA (D7 B7R) (J5 B7Q))))) (yA (yA (yA (D7 B7Q) (yA (J5 B7P) (D7 B7P))) (yA (yA (J5 B7O) (D7 B7O)) (yA (J5 B7N) (D7 B7N)))) (yA (yA (J5 B7M) (yA (D7 B7M) (J5 C8V))) (yA (yA (D7 C8V) (J5 B7L)) (yA (D7 B7L) (J5 B7K)))))) (yA (yA (yA (yA (D7 B7K) (yA (J5 B7J) (D7 B7J))) (yA (yA (J5 B7E) (D7 B7E)) (yA (J5 B7D) (D7 B7D)))) (yA (yA (J5 B7C) (yA (D7 B7C) (J5 B7B))) (yA (yA (D7 B7B) (J5 B7A)) (yA (D7 B7A) (J5 B7z))))) (yA (yA (yA (D7 B7z) (yA (J5 B7y) (D7 B7y))) (yA (yA (C1D is9) (B5l is9)) (yA (C1C is9) (B5k is9)))) (yA (yA (D0H is9) (yA (C1t is9) (C1F is9))) (yA (yA (B5m is9) (A1X D7m)) (yA (A0b D7m) (A1X C8I))))))) (yA (yA (yA (yA (yA (A0b C8I) (yA (A1f D0l) (Y0 D0l))) (yA (yA (A1f E1p) (Y0 E1p)) (yA (A1f D7X) (Y0 D7X)))) (yA (yA (A1f D7U) (yA (Y0 D7U) (A1f D7T))) (yA (yA (Y0 D7T) (A1f D7S)) (yA (Y0 D7S) (A1f D7R))))) (yA (yA (yA (Y0 D7R) (yA (A1f D7Q) (Y0 D7Q))) (yA (yA (A1f D7P) (Y0 D7P)) (yA (A1f D7O) (Y0 D7O)))) (yA (yA (A1f D7N) (yA (Y0 D7N) (A1f D7M))) (yA (yA (Y0 D7M) (T0 ik3 ik3)) (yA (M9 ik3 ik3) (T0 ik3 ik5)))))) (yA (yA (yA (yA (M9 ik3 ik5) (yA (T0 ik3 B1O) (M9 ik3 B1O))) (yA (yA (T0 ik3 A0R) (M9 ik3 A0R)) (yA (T0 ik5 ik3) (M9 ik5 ik3)))) (yA (yA (T0 ik5 ik5) (yA (M9 ik5 ik5) (T0 ik5 B1O))) (yA (yA (M9 ik5 B1O) (T0 ik5 A0R)) (yA (M9 ik5 A0R) (T0 B1O ik3))))) (yA (yA (yA (M9 B1O ik3) (yA (T0 B1O ik5) (M9 B1O ik5))) (yA (yA (T0 B1O B1O) (M9 B1O B1O)) (yA (T0 B1O A0R) (M9 B1O A0R)))) (yA (yA (yA (T0 A0R ik3) (M9 A0R ik3)) (yA (T0 A0R ik5) (M9 A0R ik5))) (yA (yA (T0 A0R B1O) (M9 A0R B1O)) (yA (T0 A0R A0R) (M9 A0R A0R)))))))))
def RG:=(yA (yA (yA (yA (E4t (P:=pr)) (E1t (P:=pr))) (yA (E4E (P:=pr)) (yA (E1H (P:=pr)) (D8V (P:=pr))))) (yA (yA (E1J (P:=pr)) (D8W (P:=pr))) (yA (E4z (P:=pr)) (yA (E1u (P:=pr)) (E4F (P:=pr)))))) (yA (yA (yA (E1M (P:=pr)) (E1L (P:=pr))) (yA (E1v (P:=pr)) (yA (D8X (P:=pr)) (E4A (P:=pr))))) (yA (yA (E1K (P:=pr)) (E4v (P:=pr))) (yA (E1I (P:=pr)) (yA (E4s (P:=pr)) (E4u (P:=pr)))))))
def Zz2:=yA @RT<|@RG
end Go.Inv
