/- A part of the proofs of the cards of this seat: whatever the input, each law returns true and leaves its arguments as they were. No condition. -/
import Derived.Test.YtknfapnlpkmcjaaGreatDoorPC
import Derived.Test.YtknfapnlpkmcjaaGreatDoorProg
set_option linter.all false
set_option maxRecDepth 100000
set_option maxHeartbeats 32000000
variable{a b c d e f:Nat}{g h i:Go.World}{j k m:Go.Value}{n r s:Int}{t u:Go.Inv.A1}{x y:Go.TypeId}{z:Bool}{A:Go.Yv}{B D:Prop}{E:List Go.Value}{F:List Int}{H:Array Go.Value}{I:Nat×Nat}{J:UInt8}{K:List UInt8}{L M:Go.Inv.RS}{N O:Go.Inv.RF}
namespace Go.Inv
open Go.Sh
@[reducible] noncomputable def pr:Program:=Go.Proofs.Tryz.prog
abbrev G(g:Nat):Value:=.pointer (some ⟨g,0,none⟩)
abbrev Fu(f:Nat):Value:=.func (.func f) #[] #[]
def A9Y(f:Nat):Bool:=Nat.testBit 499144518139023094971542516988371122283741826864865009887105962262335560607333074599932 f
def mixed:pr.follows .mixedOrders=true:=kr
def E9o:(List.range 289).all (λf=>!Nat.testBit 499144518139023094971542516988371122283741826864865009887105962262335560607333074599932 f||A3v pr f)=true:=kr
def C1D:A7P pr A9Y:=D5w E9o kr
abbrev C9X:Nat:=3
abbrev D4R:Nat:=5
abbrev C5m:Nat:=6
abbrev C5l:Nat:=13
abbrev D4S:Nat:=14
abbrev A6u:Nat:=15
abbrev D4N:Nat:=16
abbrev B6V:Nat:=17
abbrev D4Q:Nat:=18
abbrev A7H:Nat:=21
abbrev C7J:Nat:=24
abbrev A3x:Nat:=25
abbrev C7G:Nat:=26
abbrev B7E:Nat:=32
abbrev C3E:Nat:=33
abbrev A4J:Nat:=34
abbrev B5x:Nat:=35
abbrev B4j:Nat:=36
abbrev B4l:Nat:=37
abbrev B3b:Nat:=38
abbrev A1i:Nat:=39
abbrev C5d:Nat:=40
abbrev A2G:Nat:=41
abbrev C1d:Nat:=42
abbrev B2Z:Nat:=43
abbrev A0A:Nat:=44
abbrev C3F:Nat:=45
abbrev A0m:Nat:=46
abbrev B4m:Nat:=47
abbrev A4H:Nat:=48
abbrev A6o:Nat:=49
abbrev A5k:Nat:=50
abbrev A2g:Nat:=51
abbrev A9W:Nat:=52
abbrev A4c:Nat:=53
abbrev A4I:Nat:=54
abbrev A1P:Nat:=55
abbrev A8z:Nat:=56
abbrev A0a:Nat:=57
abbrev B3a:Nat:=58
abbrev B3c:Nat:=59
abbrev A3y:Nat:=60
abbrev A3U:Nat:=61
abbrev B4d:Nat:=62
abbrev A7G:Nat:=63
abbrev A6q:Nat:=64
abbrev A0H:Nat:=65
abbrev A2u:Nat:=66
abbrev B4k:Nat:=67
abbrev B5u:Nat:=68
abbrev B7I:Nat:=69
abbrev B3s:Nat:=70
abbrev B5l:Nat:=71
abbrev C7B:Nat:=72
abbrev C9U:Nat:=73
abbrev C9T:Nat:=74
abbrev B3u:Nat:=75
abbrev C3G:Nat:=76
abbrev D4O:Nat:=77
abbrev A8A:Nat:=78
abbrev B5m:Nat:=79
abbrev B4f:Nat:=80
abbrev Q8:Nat:=81
abbrev B7F:Nat:=82
abbrev A5d:Nat:=83
abbrev A6p:Nat:=84
abbrev C1b:Nat:=85
abbrev B3t:Nat:=86
abbrev C9R:Nat:=87
abbrev C5j:Nat:=88
abbrev A9y:Nat:=89
abbrev C9P:Nat:=90
abbrev C7H:Nat:=91
abbrev D4H:Nat:=92
abbrev D4I:Nat:=93
abbrev D4C:Nat:=94
abbrev D4D:Nat:=95
abbrev B4e:Nat:=96
abbrev C7C:Nat:=97
abbrev C9K:Nat:=98
abbrev C7D:Nat:=99
abbrev B2Y:Nat:=100
abbrev B1s:Nat:=101
abbrev A8y:Nat:=102
abbrev B7G:Nat:=103
abbrev A6s:Nat:=104
abbrev B1t:Nat:=105
abbrev A5l:Nat:=106
abbrev B3e:Nat:=107
abbrev C5k:Nat:=108
abbrev A6r:Nat:=109
abbrev A0s:Nat:=110
abbrev A1h:Nat:=111
abbrev D4P:Nat:=112
abbrev A2i:Nat:=113
abbrev C9W:Nat:=114
abbrev A3w:Nat:=115
abbrev C9V:Nat:=116
abbrev B5v:Nat:=117
abbrev B6T:Nat:=118
abbrev C5i:Nat:=119
abbrev B5r:Nat:=120
abbrev B5s:Nat:=121
abbrev B5o:Nat:=122
abbrev B5t:Nat:=123
abbrev B4i:Nat:=124
abbrev A4d:Nat:=125
abbrev B5n:Nat:=126
abbrev D8p:Nat:=127
abbrev C9N:Nat:=128
abbrev D4F:Nat:=129
abbrev D4J:Nat:=130
abbrev D4G:Nat:=131
abbrev D8o:Nat:=132
abbrev C9L:Nat:=133
abbrev D4A:Nat:=134
abbrev D4E:Nat:=135
abbrev D4B:Nat:=136
abbrev A4G:Nat:=137
abbrev B6U:Nat:=138
abbrev A5z:Nat:=139
abbrev C0X:Nat:=140
abbrev C7A:Nat:=141
abbrev B5j:Nat:=142
abbrev C1a:Nat:=143
abbrev B1p:Nat:=144
abbrev A5e:Nat:=145
abbrev B1q:Nat:=146
abbrev A8x:Nat:=147
abbrev B0u:Nat:=148
abbrev C1c:Nat:=149
abbrev B4h:Nat:=150
abbrev C0Y:Nat:=151
abbrev Z0:Nat:=152
abbrev W8:Nat:=153
abbrev C5c:Nat:=154
abbrev A5c:Nat:=155
abbrev A6t:Nat:=156
abbrev B5q:Nat:=157
abbrev B5p:Nat:=158
abbrev A0r:Nat:=159
abbrev A2h:Nat:=160
abbrev C5f:Nat:=161
abbrev B2X:Nat:=162
abbrev C9O:Nat:=163
abbrev C5e:Nat:=164
abbrev C9M:Nat:=165
abbrev A5y:Nat:=166
abbrev C5g:Nat:=172
abbrev D4K:Nat:=173
abbrev C9Q:Nat:=174
abbrev C0Z:Nat:=175
abbrev C9S:Nat:=176
abbrev C2C:Nat:=177
abbrev D4L:Nat:=178
abbrev C7F:Nat:=179
abbrev B7H:Nat:=180
abbrev B4g:Nat:=181
abbrev B0t:Nat:=182
abbrev C5h:Nat:=183
abbrev B3d:Nat:=184
abbrev B5k:Nat:=185
abbrev A9z:Nat:=186
abbrev C7I:Nat:=187
abbrev U3:Nat:=188
abbrev A8B:Nat:=189
abbrev D4M:Nat:=195
abbrev B1r:Nat:=196
abbrev C7E:Nat:=197
abbrev A6Q:Nat:=207
abbrev A5A:Nat:=209
abbrev B5w:Nat:=233
abbrev B7M:Nat:=234
abbrev C3Q:Nat:=235
abbrev C3P:Nat:=236
abbrev C1l:Nat:=237
abbrev B7L:Nat:=238
abbrev C3O:Nat:=239
abbrev C3N:Nat:=240
abbrev C7L:Nat:=241
abbrev C1k:Nat:=242
abbrev C1j:Nat:=243
abbrev C3M:Nat:=244
abbrev C5n:Nat:=245
abbrev C2D:Nat:=246
abbrev B3v:Nat:=247
abbrev C1i:Nat:=248
abbrev B7K:Nat:=249
abbrev C3L:Nat:=250
abbrev C3K:Nat:=251
abbrev C1h:Nat:=252
abbrev B7J:Nat:=253
abbrev C3J:Nat:=254
abbrev C3I:Nat:=255
abbrev C7K:Nat:=256
abbrev C1f:Nat:=257
abbrev C1e:Nat:=258
abbrev C3H:Nat:=259
abbrev B6W:Nat:=260
abbrev C2E:Nat:=261
abbrev C5o:Nat:=262
abbrev C1g:Nat:=263
abbrev A6n:Nat:=276
abbrev A8w:Nat:=277
abbrev A7f:Nat:=278
abbrev A9V:Nat:=279
abbrev B0F:Nat:=123
abbrev D7:Nat:=118
abbrev A0N:Nat:=121
abbrev B4E:Nat:=80
abbrev F2:Nat:=74
abbrev E0O:Nat:=78
abbrev G1:Nat:=33
abbrev F6:Nat:=82
abbrev C2Y:Nat:=274
abbrev A7v:Nat:=272
abbrev B0G:Nat:=277
abbrev A3i:Nat:=275
abbrev B1T:Nat:=280
abbrev A2z:Nat:=278
abbrev A7T:Nat:=283
abbrev A7u:Nat:=281
abbrev A2Z:Nat:=200
abbrev A3W:Nat:=196
abbrev A9M:Nat:=206
abbrev A4V:Nat:=204
abbrev U0:Nat:=213
abbrev A0j:Nat:=207
abbrev A6K:Nat:=216
abbrev A7U:Nat:=214
abbrev T6:Nat:=219
abbrev A1o:Nat:=217
abbrev L2:Nat:=193
abbrev M7:Nat:=211
abbrev A2P:Nat:=195
abbrev A3j:Nat:=129
abbrev A6V:Nat:=127
abbrev A0o:Nat:=96
abbrev O5:Nat:=28
abbrev D8X:Nat:=1
abbrev A0O:Nat:=3
def pl3:I3 pr 3=true:=kr
def pl4:I3 pr 4=true:=kr
def pl5:I3 pr 5=true:=kr
def pl9:I3 pr 9=true:=kr
def A3N:I3 pr 22=true:=kr
def E1V:I3 pr 23=true:=kr
def B8v:I3 pr 26=true:=kr
def A7M:A0u pr 28=some 2:=kr
def C4U:I3 pr 30=true:=kr
def B2V:I3 pr 40=true:=kr
def D7P:I3 pr 70=true:=kr
def E3i:A0u pr 94=some 8:=kr
def D1P:I3 pr 118=true:=kr
def A5j:I3 pr 119=true:=kr
def D1O:I3 pr 127=true:=kr
def A8M:A0u pr 193=some 1:=kr
def A9T:I3 pr 195=true:=kr
def A7c:I3 pr 198=true:=kr
def B7D:I3 pr 209=true:=kr
def A6D:A0u pr 211=some 3:=kr
def D3j:A0u pr 343=some 6:=kr
def B2H:B6 pr 121 0=some 0:=kr
def B9l:B6 pr 121 1=some 1:=kr
def B9k:B6 pr 121 2=some 2:=kr
def B9j:B6 pr 121 3=some 3:=kr
def D2J:B6 pr 123 0=some 0:=kr
def D2I:B6 pr 123 1=some 1:=kr
def D2H:B6 pr 123 2=some 2:=kr
def D2G:B6 pr 123 3=some 3:=kr
def D2F:B6 pr 123 4=some 4:=kr
def D2E:B6 pr 129 0=some 0:=kr
def D2D:B6 pr 129 1=some 8:=kr
def D2C:B6 pr 129 2=some 9:=kr
def D2B:B6 pr 129 3=some 10:=kr
def B9g:B6 pr 173 0=some 0:=kr
def B9e:B6 pr 193 0=some 0:=kr
def B2E:B6 pr 200 1=some 1:=kr
def A9G:B6 pr 200 2=some 2:=kr
def B2D:B6 pr 206 1=some 1:=kr
def B9d:B6 pr 211 0=some 0:=kr
def B9c:B6 pr 211 1=some 1:=kr
def B9b:B6 pr 211 2=some 2:=kr
def A9F:B6 pr 213 1=some 1:=kr
def B9a:B6 pr 213 2=some 4:=kr
def A9E:B6 pr 216 1=some 1:=kr
def B2C:B6 pr 216 2=some 4:=kr
def B2B:B6 pr 216 3=some 5:=kr
def B8Z:B6 pr 216 4=some 6:=kr
def B8Y:B6 pr 219 0=some 0:=kr
def A7i:B6 pr 219 1=some 1:=kr
def B2A:B6 pr 219 2=some 4:=kr
def B8X:B6 pr 274 0=some 0:=kr
def B8W:B6 pr 277 0=some 0:=kr
def B5H:B6 pr 280 0=some 0:=kr
def B2z:B6 pr 283 0=some 0:=kr
def B5G:B6 pr 283 1=some 1:=kr
def B5F:B6 pr 283 2=some 2:=kr
def B8V:B6 pr 283 3=some 3:=kr
def is9:A2p pr 9=true:=kr
def E2I:A8G pr 23=true:=kr
def C3W:A8G pr 119=true:=kr
def ik3:A3A pr 3 .i64=true:=kr
def ik5:A3A pr 5 .u8=true:=kr
def B3g:A3A pr 21 .i32=true:=kr
def V5:A3A pr 40 .i16=true:=kr
def D3I:A2C pr 33=true:=kr
def E8u:A2C pr 74=true:=kr
def E3O:A2C pr 130=true:=kr
def E3L:A2C pr 196=true:=kr
def E3K:A2C pr 204=true:=kr
def E3J:A2C pr 207=true:=kr
def E3I:A2C pr 214=true:=kr
def E3H:A2C pr 217=true:=kr
def E3G:A2C pr 272=true:=kr
def E3F:A2C pr 275=true:=kr
def E3E:A2C pr 278=true:=kr
def E3D:A2C pr 281=true:=kr
def RT:=(yA (yA (yA (yA (yA (yA (yA (G4 pl3) (yA (E3 pl3) (E2 pl3))) (yA (yA (E4 pl3) (G4 pl4)) (yA (E3 pl4) (E2 pl4)))) (yA (yA (E4 pl4) (yA (G4 pl5) (E3 pl5))) (yA (yA (E2 pl5) (E4 pl5)) (yA (G4 pl9) (E3 pl9))))) (yA (yA (yA (E2 pl9) (yA (E4 pl9) (G4 A3N))) (yA (yA (E3 A3N) (E2 A3N)) (yA (E4 A3N) (G4 E1V)))) (yA (yA (E3 E1V) (yA (E2 E1V) (E4 E1V))) (yA (yA (G4 B8v) (E3 B8v)) (yA (E2 B8v) (E4 B8v)))))) (yA (yA (yA (yA (G4 C4U) (yA (E3 C4U) (E2 C4U))) (yA (yA (E4 C4U) (G4 B2V)) (yA (E3 B2V) (E2 B2V)))) (yA (yA (E4 B2V) (yA (G4 D7P) (E3 D7P))) (yA (yA (E2 D7P) (E4 D7P)) (yA (G4 D1P) (E3 D1P))))) (yA (yA (yA (E2 D1P) (yA (E4 D1P) (G4 A5j))) (yA (yA (E3 A5j) (E2 A5j)) (yA (E4 A5j) (G4 D1O)))) (yA (yA (E3 D1O) (yA (E2 D1O) (E4 D1O))) (yA (yA (G4 A9T) (E3 A9T)) (yA (E2 A9T) (E4 A9T))))))) (yA (yA (yA (yA (yA (G4 A7c) (yA (E3 A7c) (E2 A7c))) (yA (yA (E4 A7c) (G4 B7D)) (yA (E3 B7D) (E2 B7D)))) (yA (yA (E4 B7D) (yA (M8 A7M) (H7 A7M))) (yA (yA (H9 A7M) (I7 A7M)) (yA (M8 E3i) (H7 E3i))))) (yA (yA (yA (H9 E3i) (yA (I7 E3i) (M8 A8M))) (yA (yA (H7 A8M) (H9 A8M)) (yA (I7 A8M) (M8 A6D)))) (yA (yA (H7 A6D) (yA (H9 A6D) (I7 A6D))) (yA (yA (M8 D3j) (H7 D3j)) (yA (H9 D3j) (I7 D3j)))))) (yA (yA (yA (yA (I4 B2H) (yA (D1 B2H) (I4 B9l))) (yA (yA (D1 B9l) (I4 B9k)) (yA (D1 B9k) (I4 B9j)))) (yA (yA (D1 B9j) (yA (I4 D2J) (D1 D2J))) (yA (yA (I4 D2I) (D1 D2I)) (yA (I4 D2H) (D1 D2H))))) (yA (yA (yA (I4 D2G) (yA (D1 D2G) (I4 D2F))) (yA (yA (D1 D2F) (I4 D2E)) (yA (D1 D2E) (I4 D2D)))) (yA (yA (yA (D1 D2D) (I4 D2C)) (yA (D1 D2C) (I4 D2B))) (yA (yA (D1 D2B) (I4 B9g)) (yA (D1 B9g) (I4 B9e)))))))) (yA (yA (yA (yA (yA (yA (D1 B9e) (yA (I4 B2E) (D1 B2E))) (yA (yA (I4 A9G) (D1 A9G)) (yA (I4 B2D) (D1 B2D)))) (yA (yA (I4 B9d) (yA (D1 B9d) (I4 B9c))) (yA (yA (D1 B9c) (I4 B9b)) (yA (D1 B9b) (I4 A9F))))) (yA (yA (yA (D1 A9F) (yA (I4 B9a) (D1 B9a))) (yA (yA (I4 A9E) (D1 A9E)) (yA (I4 B2C) (D1 B2C)))) (yA (yA (I4 B2B) (yA (D1 B2B) (I4 B8Z))) (yA (yA (D1 B8Z) (I4 B8Y)) (yA (D1 B8Y) (I4 A7i)))))) (yA (yA (yA (yA (D1 A7i) (yA (I4 B2A) (D1 B2A))) (yA (yA (I4 B8X) (D1 B8X)) (yA (I4 B8W) (D1 B8W)))) (yA (yA (I4 B5H) (yA (D1 B5H) (I4 B2z))) (yA (yA (D1 B2z) (I4 B5G)) (yA (D1 B5G) (I4 B5F))))) (yA (yA (yA (D1 B5F) (yA (I4 B8V) (D1 B8V))) (yA (yA (B7z is9) (B1d is9)) (yA (B7y is9) (B1c is9)))) (yA (yA (C7a is9) (yA (B7x is9) (B7B is9))) (yA (yA (B1e is9) (A1L E2I)) (yA (Y7 E2I) (A1L C3W))))))) (yA (yA (yA (yA (yA (Y7 C3W) (yA (A1f D3I) (Y8 D3I))) (yA (yA (A1f E8u) (Y8 E8u)) (yA (A1f E3O) (Y8 E3O)))) (yA (yA (A1f E3L) (yA (Y8 E3L) (A1f E3K))) (yA (yA (Y8 E3K) (A1f E3J)) (yA (Y8 E3J) (A1f E3I))))) (yA (yA (yA (Y8 E3I) (yA (A1f E3H) (Y8 E3H))) (yA (yA (A1f E3G) (Y8 E3G)) (yA (A1f E3F) (Y8 E3F)))) (yA (yA (A1f E3E) (yA (Y8 E3E) (A1f E3D))) (yA (yA (Y8 E3D) (J7 ik3 ik3)) (yA (F9 ik3 ik3) (J7 ik3 ik5)))))) (yA (yA (yA (yA (F9 ik3 ik5) (yA (J7 ik3 B3g) (F9 ik3 B3g))) (yA (yA (J7 ik3 V5) (F9 ik3 V5)) (yA (J7 ik5 ik3) (F9 ik5 ik3)))) (yA (yA (J7 ik5 ik5) (yA (F9 ik5 ik5) (J7 ik5 B3g))) (yA (yA (F9 ik5 B3g) (J7 ik5 V5)) (yA (F9 ik5 V5) (J7 B3g ik3))))) (yA (yA (yA (F9 B3g ik3) (yA (J7 B3g ik5) (F9 B3g ik5))) (yA (yA (J7 B3g B3g) (F9 B3g B3g)) (yA (J7 B3g V5) (F9 B3g V5)))) (yA (yA (yA (J7 V5 ik3) (F9 V5 ik3)) (yA (J7 V5 ik5) (F9 V5 ik5))) (yA (yA (J7 V5 B3g) (F9 V5 B3g)) (yA (J7 V5 V5) (F9 V5 V5)))))))))
def RG:=(yA (yA (yA (yA (F2M (P:=pr)) (B4V (P:=pr))) (yA (F2W (P:=pr)) (yA (E8R (P:=pr)) (E5p (P:=pr))))) (yA (yA (E8U (P:=pr)) (E5q (P:=pr))) (yA (F2R (P:=pr)) (yA (D1x (P:=pr)) (F2X (P:=pr)))))) (yA (yA (yA (D7B (P:=pr)) (E8X (P:=pr))) (yA (E8x (P:=pr)) (yA (E5r (P:=pr)) (F2S (P:=pr))))) (yA (yA (E8V (P:=pr)) (F2N (P:=pr))) (yA (E8T (P:=pr)) (yA (F2L (P:=pr)) (E8S (P:=pr)))))))
def Zz2:=yA @RT<|@RG
end Go.Inv
