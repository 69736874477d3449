/- A part of the proofs of the cards of this seat: whatever the input, each law returns true and leaves its arguments as they were. No condition. -/
import Derived.Test.YtknfapnlpkmcjaaGreatDoorPB
import Derived.Test.YtknfapnlpkmcjaaGreatDoorProg
set_option linter.all false
set_option maxRecDepth 100000
set_option maxHeartbeats 32000000
namespace Go.Inv
open Go.Sh
@[reducible] noncomputable def pr : Program := Go.Proofs.Tryz.prog
abbrev G (g : Nat) : Value := .pointer (some ⟨g, 0, none⟩)
abbrev Fu (f : Nat) : Value := .func (.func f) #[] #[]
def known (f : Nat) : Bool := Nat.testBit 499144518139023094971542516988371122283741826864865009887105962262335560607333074599932 f
theorem mixed : pr.follows .mixedOrders = true := by kernel_rfl
theorem okAll : (List.range 289).all (fun f => !Nat.testBit 499144518139023094971542516988371122283741826864865009887105962262335560607333074599932 f || okFn pr f) = true := by kernel_rfl
theorem enters : Enters pr known := enters_of okAll (by kernel_rfl)
abbrev n_law_Prints : Nat := 6
abbrev n_api_Tell : Nat := 15
abbrev n_law_num : Nat := 18
abbrev n_inv_Print : Nat := 24
abbrev n_ref_Print : Nat := 26
abbrev n_text_Read : Nat := 32
abbrev n_errors_As : Nat := 34
abbrev n_api_Place_Where : Nat := 35
abbrev n_ref_Read : Nat := 36
abbrev n_text_Write : Nat := 40
abbrev n_ref_Program_lines : Nat := 43
abbrev n_text_Read_1 : Nat := 44
abbrev n_rd_next : Nat := 45
abbrev n_rd_statements : Nat := 46
abbrev n_rd_leave : Nat := 47
abbrev n_rl_ValueOf : Nat := 51
abbrev n_rl_Value_Type : Nat := 52
abbrev n_rl_Value_IsNil : Nat := 53
abbrev n_errors_as : Nat := 54
abbrev n_ref_Reader_step : Nat := 55
abbrev n_ref_Reader_statements : Nat := 56
abbrev n_ref_Reader_wrong : Nat := 57
abbrev n_text_writer_list : Nat := 62
abbrev n_strings_Builder_String : Nat := 63
abbrev n_ref_Program_show : Nat := 67
abbrev n_ref_Program_ask : Nat := 68
abbrev n_rd_next_1 : Nat := 69
abbrev n_text_letter : Nat := 70
abbrev n_text_digit : Nat := 71
abbrev n_text_sign : Nat := 72
abbrev n_rd_kinds : Nat := 73
abbrev n_rd_token : Nat := 74
abbrev n_rd_variable : Nat := 75
abbrev n_rd_name : Nat := 76
abbrev n_rd_take : Nat := 77
abbrev n_rd_sum : Nat := 78
abbrev n_rl_TypeOf : Nat := 82
abbrev n_rl_Value_Elem : Nat := 83
abbrev n_rl_Value_Set : Nat := 84
abbrev n_ref_isLetter : Nat := 85
abbrev n_ref_isDigit : Nat := 86
abbrev n_ref_sign : Nat := 87
abbrev n_ref_begins : Nat := 88
abbrev n_ref_Reader_statement : Nat := 89
abbrev n_text_writer_line : Nat := 96
abbrev n_text_name : Nat := 97
abbrev n_text_sum : Nat := 98
abbrev n_text_cond : Nat := 99
abbrev n_text_writer_block : Nat := 100
abbrev n_ref_Digits : Nat := 108
abbrev n_ref_Program_rank : Nat := 109
abbrev n_rd_kinds_1 : Nat := 110
abbrev n_rd_kinds_2 : Nat := 111
abbrev n_rd_cond : Nat := 112
abbrev n_rd_kinds_3 : Nat := 113
abbrev n_rd_block : Nat := 114
abbrev n_rd_kinds_4 : Nat := 115
abbrev n_rd_chain : Nat := 116
abbrev n_rd_product : Nat := 117
abbrev n_ref_isName : Nat := 119
abbrev n_ref_Reader_node : Nat := 120
abbrev n_ref_Reader_name : Nat := 121
abbrev n_ref_Reader_take : Nat := 122
abbrev n_ref_Reader_cond : Nat := 123
abbrev n_ref_Reader_block : Nat := 124
abbrev n_ref_Reader_sum : Nat := 125
abbrev n_strings_Builder_WriteString : Nat := 137
abbrev n_strings_Repeat : Nat := 138
abbrev n_strings_Builder_WriteByte : Nat := 139
abbrev n_strconv_Itoa : Nat := 140
abbrev n_tree_Rank : Nat := 141
abbrev n_tree_Rel_String : Nat := 142
abbrev n_tree_RelOf : Nat := 154
abbrev n_text_within_tree_Statement : Nat := 155
abbrev n_rd_unary : Nat := 156
abbrev n_ref_Reader_open : Nat := 157
abbrev n_ref_Reader_shut : Nat := 158
abbrev n_ref_Reader_product : Nat := 159
abbrev n_ref_Reader_two : Nat := 160
abbrev n_strings_Builder_copyCheck : Nat := 166
abbrev n_text_within_Sum : Nat := 185
abbrev n_rd_unary_1 : Nat := 186
abbrev n_rd_number : Nat := 187
abbrev n_ref_Reader_unary : Nat := 188
abbrev n_internal_abi_NoEscape : Nat := 189
abbrev n_ref_value : Nat := 197
abbrev n_tree_Number_rank : Nat := 276
abbrev n_tree_Name_rank : Nat := 277
abbrev n_tree_Minus_rank : Nat := 278
abbrev n_tree_Two_rank : Nat := 279
abbrev tyReader : Nat := 123
abbrev tyReaderP : Nat := 118
abbrev tyProg : Nat := 121
abbrev tyFault : Nat := 80
abbrev tyFaultP : Nat := 74
abbrev tyPlace : Nat := 78
abbrev tyErrno : Nat := 33
abbrev tyErrnoP : Nat := 82
abbrev tyNum : Nat := 274
abbrev tyNumP : Nat := 272
abbrev tyName : Nat := 277
abbrev tyNameP : Nat := 275
abbrev tyMinus : Nat := 280
abbrev tyMinusP : Nat := 278
abbrev tyTwo : Nat := 283
abbrev tyTwoP : Nat := 281
abbrev tySet : Nat := 200
abbrev tySetP : Nat := 196
abbrev tyGet : Nat := 206
abbrev tyGetP : Nat := 204
abbrev tyAssert : Nat := 213
abbrev tyAssertP : Nat := 207
abbrev tyIf : Nat := 216
abbrev tyIfP : Nat := 214
abbrev tyWhile : Nat := 219
abbrev tyWhileP : Nat := 217
abbrev tyPoint : Nat := 193
abbrev tyCond : Nat := 211
abbrev tyStmt : Nat := 195
abbrev gRels : Nat := 1
abbrev tyInt : Nat := 3
theorem pl3 : plainT pr 3 = true := by kernel_rfl
theorem pl4 : plainT pr 4 = true := by kernel_rfl
theorem pl5 : plainT pr 5 = true := by kernel_rfl
theorem pl9 : plainT pr 9 = true := by kernel_rfl
theorem pl22 : plainT pr 22 = true := by kernel_rfl
theorem pl23 : plainT pr 23 = true := by kernel_rfl
theorem pl26 : plainT pr 26 = true := by kernel_rfl
theorem ag28 : aggT pr 28 = some 2 := by kernel_rfl
theorem pl30 : plainT pr 30 = true := by kernel_rfl
theorem pl40 : plainT pr 40 = true := by kernel_rfl
theorem pl70 : plainT pr 70 = true := by kernel_rfl
theorem ag94 : aggT pr 94 = some 8 := by kernel_rfl
theorem pl118 : plainT pr 118 = true := by kernel_rfl
theorem pl119 : plainT pr 119 = true := by kernel_rfl
theorem pl127 : plainT pr 127 = true := by kernel_rfl
theorem ag193 : aggT pr 193 = some 1 := by kernel_rfl
theorem pl195 : plainT pr 195 = true := by kernel_rfl
theorem pl198 : plainT pr 198 = true := by kernel_rfl
theorem pl209 : plainT pr 209 = true := by kernel_rfl
theorem ag211 : aggT pr 211 = some 3 := by kernel_rfl
theorem ag343 : aggT pr 343 = some 6 := by kernel_rfl
theorem fo121_0 : fieldOff pr 121 0 = some 0 := by kernel_rfl
theorem fo121_1 : fieldOff pr 121 1 = some 1 := by kernel_rfl
theorem fo121_2 : fieldOff pr 121 2 = some 2 := by kernel_rfl
theorem fo121_3 : fieldOff pr 121 3 = some 3 := by kernel_rfl
theorem fo123_0 : fieldOff pr 123 0 = some 0 := by kernel_rfl
theorem fo123_1 : fieldOff pr 123 1 = some 1 := by kernel_rfl
theorem fo123_2 : fieldOff pr 123 2 = some 2 := by kernel_rfl
theorem fo123_3 : fieldOff pr 123 3 = some 3 := by kernel_rfl
theorem fo123_4 : fieldOff pr 123 4 = some 4 := by kernel_rfl
theorem fo129_0 : fieldOff pr 129 0 = some 0 := by kernel_rfl
theorem fo129_1 : fieldOff pr 129 1 = some 8 := by kernel_rfl
theorem fo129_2 : fieldOff pr 129 2 = some 9 := by kernel_rfl
theorem fo129_3 : fieldOff pr 129 3 = some 10 := by kernel_rfl
theorem fo173_0 : fieldOff pr 173 0 = some 0 := by kernel_rfl
theorem fo193_0 : fieldOff pr 193 0 = some 0 := by kernel_rfl
theorem fo200_1 : fieldOff pr 200 1 = some 1 := by kernel_rfl
theorem fo200_2 : fieldOff pr 200 2 = some 2 := by kernel_rfl
theorem fo206_1 : fieldOff pr 206 1 = some 1 := by kernel_rfl
theorem fo211_0 : fieldOff pr 211 0 = some 0 := by kernel_rfl
theorem fo211_1 : fieldOff pr 211 1 = some 1 := by kernel_rfl
theorem fo211_2 : fieldOff pr 211 2 = some 2 := by kernel_rfl
theorem fo213_1 : fieldOff pr 213 1 = some 1 := by kernel_rfl
theorem fo213_2 : fieldOff pr 213 2 = some 4 := by kernel_rfl
theorem fo216_1 : fieldOff pr 216 1 = some 1 := by kernel_rfl
theorem fo216_2 : fieldOff pr 216 2 = some 4 := by kernel_rfl
theorem fo216_3 : fieldOff pr 216 3 = some 5 := by kernel_rfl
theorem fo216_4 : fieldOff pr 216 4 = some 6 := by kernel_rfl
theorem fo219_0 : fieldOff pr 219 0 = some 0 := by kernel_rfl
theorem fo219_1 : fieldOff pr 219 1 = some 1 := by kernel_rfl
theorem fo219_2 : fieldOff pr 219 2 = some 4 := by kernel_rfl
theorem fo274_0 : fieldOff pr 274 0 = some 0 := by kernel_rfl
theorem fo277_0 : fieldOff pr 277 0 = some 0 := by kernel_rfl
theorem fo280_0 : fieldOff pr 280 0 = some 0 := by kernel_rfl
theorem fo283_0 : fieldOff pr 283 0 = some 0 := by kernel_rfl
theorem fo283_1 : fieldOff pr 283 1 = some 1 := by kernel_rfl
theorem fo283_2 : fieldOff pr 283 2 = some 2 := by kernel_rfl
theorem fo283_3 : fieldOff pr 283 3 = some 3 := by kernel_rfl
theorem is9 : isStr pr 9 = true := by kernel_rfl
theorem il23 : isSl pr 23 = true := by kernel_rfl
theorem il119 : isSl pr 119 = true := by kernel_rfl
theorem ik3 : isIntK pr 3 .i64 = true := by kernel_rfl
theorem ik5 : isIntK pr 5 .u8 = true := by kernel_rfl
theorem ik21 : isIntK pr 21 .i32 = true := by kernel_rfl
theorem ik40 : isIntK pr 40 .i16 = true := by kernel_rfl
theorem so33 : solid pr 33 = true := by kernel_rfl
theorem so74 : solid pr 74 = true := by kernel_rfl
theorem so130 : solid pr 130 = true := by kernel_rfl
theorem so196 : solid pr 196 = true := by kernel_rfl
theorem so204 : solid pr 204 = true := by kernel_rfl
theorem so207 : solid pr 207 = true := by kernel_rfl
theorem so214 : solid pr 214 = true := by kernel_rfl
theorem so217 : solid pr 217 = true := by kernel_rfl
theorem so272 : solid pr 272 = true := by kernel_rfl
theorem so275 : solid pr 275 = true := by kernel_rfl
theorem so278 : solid pr 278 = true := by kernel_rfl
theorem so281 : solid pr 281 = true := by kernel_rfl
def RT := (And.intro (And.intro (And.intro (And.intro (And.intro (And.intro (And.intro (rLoad pl3) (And.intro (raLoad pl3) (rkLoad pl3))) (And.intro (And.intro (rStore pl3) (rLoad pl4)) (And.intro (raLoad pl4) (rkLoad pl4)))) (And.intro (And.intro (rStore pl4) (And.intro (rLoad pl5) (raLoad pl5))) (And.intro (And.intro (rkLoad pl5) (rStore pl5)) (And.intro (rLoad pl9) (raLoad pl9))))) (And.intro (And.intro (And.intro (rkLoad pl9) (And.intro (rStore pl9) (rLoad pl22))) (And.intro (And.intro (raLoad pl22) (rkLoad pl22)) (And.intro (rStore pl22) (rLoad pl23)))) (And.intro (And.intro (raLoad pl23) (And.intro (rkLoad pl23) (rStore pl23))) (And.intro (And.intro (rLoad pl26) (raLoad pl26)) (And.intro (rkLoad pl26) (rStore pl26)))))) (And.intro (And.intro (And.intro (And.intro (rLoad pl30) (And.intro (raLoad pl30) (rkLoad pl30))) (And.intro (And.intro (rStore pl30) (rLoad pl40)) (And.intro (raLoad pl40) (rkLoad pl40)))) (And.intro (And.intro (rStore pl40) (And.intro (rLoad pl70) (raLoad pl70))) (And.intro (And.intro (rkLoad pl70) (rStore pl70)) (And.intro (rLoad pl118) (raLoad pl118))))) (And.intro (And.intro (And.intro (rkLoad pl118) (And.intro (rStore pl118) (rLoad pl119))) (And.intro (And.intro (raLoad pl119) (rkLoad pl119)) (And.intro (rStore pl119) (rLoad pl127)))) (And.intro (And.intro (raLoad pl127) (And.intro (rkLoad pl127) (rStore pl127))) (And.intro (And.intro (rLoad pl195) (raLoad pl195)) (And.intro (rkLoad pl195) (rStore pl195))))))) (And.intro (And.intro (And.intro (And.intro (And.intro (rLoad pl198) (And.intro (raLoad pl198) (rkLoad pl198))) (And.intro (And.intro (rStore pl198) (rLoad pl209)) (And.intro (raLoad pl209) (rkLoad pl209)))) (And.intro (And.intro (rStore pl209) (And.intro (rLoadA ag28) (raLoadA ag28))) (And.intro (And.intro (rkLoadA ag28) (rStoreA ag28)) (And.intro (rLoadA ag94) (raLoadA ag94))))) (And.intro (And.intro (And.intro (rkLoadA ag94) (And.intro (rStoreA ag94) (rLoadA ag193))) (And.intro (And.intro (raLoadA ag193) (rkLoadA ag193)) (And.intro (rStoreA ag193) (rLoadA ag211)))) (And.intro (And.intro (raLoadA ag211) (And.intro (rkLoadA ag211) (rStoreA ag211))) (And.intro (And.intro (rLoadA ag343) (raLoadA ag343)) (And.intro (rkLoadA ag343) (rStoreA ag343)))))) (And.intro (And.intro (And.intro (And.intro (rFA fo121_0) (And.intro (rzFA fo121_0) (rFA fo121_1))) (And.intro (And.intro (rzFA fo121_1) (rFA fo121_2)) (And.intro (rzFA fo121_2) (rFA fo121_3)))) (And.intro (And.intro (rzFA fo121_3) (And.intro (rFA fo123_0) (rzFA fo123_0))) (And.intro (And.intro (rFA fo123_1) (rzFA fo123_1)) (And.intro (rFA fo123_2) (rzFA fo123_2))))) (And.intro (And.intro (And.intro (rFA fo123_3) (And.intro (rzFA fo123_3) (rFA fo123_4))) (And.intro (And.intro (rzFA fo123_4) (rFA fo129_0)) (And.intro (rzFA fo129_0) (rFA fo129_1)))) (And.intro (And.intro (And.intro (rzFA fo129_1) (rFA fo129_2)) (And.intro (rzFA fo129_2) (rFA fo129_3))) (And.intro (And.intro (rzFA fo129_3) (rFA fo173_0)) (And.intro (rzFA fo173_0) (rFA fo193_0)))))))) (And.intro (And.intro (And.intro (And.intro (And.intro (And.intro (rzFA fo193_0) (And.intro (rFA fo200_1) (rzFA fo200_1))) (And.intro (And.intro (rFA fo200_2) (rzFA fo200_2)) (And.intro (rFA fo206_1) (rzFA fo206_1)))) (And.intro (And.intro (rFA fo211_0) (And.intro (rzFA fo211_0) (rFA fo211_1))) (And.intro (And.intro (rzFA fo211_1) (rFA fo211_2)) (And.intro (rzFA fo211_2) (rFA fo213_1))))) (And.intro (And.intro (And.intro (rzFA fo213_1) (And.intro (rFA fo213_2) (rzFA fo213_2))) (And.intro (And.intro (rFA fo216_1) (rzFA fo216_1)) (And.intro (rFA fo216_2) (rzFA fo216_2)))) (And.intro (And.intro (rFA fo216_3) (And.intro (rzFA fo216_3) (rFA fo216_4))) (And.intro (And.intro (rzFA fo216_4) (rFA fo219_0)) (And.intro (rzFA fo219_0) (rFA fo219_1)))))) (And.intro (And.intro (And.intro (And.intro (rzFA fo219_1) (And.intro (rFA fo219_2) (rzFA fo219_2))) (And.intro (And.intro (rFA fo274_0) (rzFA fo274_0)) (And.intro (rFA fo277_0) (rzFA fo277_0)))) (And.intro (And.intro (rFA fo280_0) (And.intro (rzFA fo280_0) (rFA fo283_0))) (And.intro (And.intro (rzFA fo283_0) (rFA fo283_1)) (And.intro (rzFA fo283_1) (rFA fo283_2))))) (And.intro (And.intro (And.intro (rzFA fo283_2) (And.intro (rFA fo283_3) (rzFA fo283_3))) (And.intro (And.intro (rIdxS is9) (rzIdxS is9)) (And.intro (rLenS is9) (rzLenS is9)))) (And.intro (And.intro (rCut is9) (And.intro (rzCut is9) (rCutL is9))) (And.intro (And.intro (rzCutL is9) (rLenL il23)) (And.intro (rzLenL il23) (rLenL il119))))))) (And.intro (And.intro (And.intro (And.intro (And.intro (rzLenL il119) (And.intro (rIface so33) (rzIface so33))) (And.intro (And.intro (rIface so74) (rzIface so74)) (And.intro (rIface so130) (rzIface so130)))) (And.intro (And.intro (rIface so196) (And.intro (rzIface so196) (rIface so204))) (And.intro (And.intro (rzIface so204) (rIface so207)) (And.intro (rzIface so207) (rIface so214))))) (And.intro (And.intro (And.intro (rzIface so214) (And.intro (rIface so217) (rzIface so217))) (And.intro (And.intro (rIface so272) (rzIface so272)) (And.intro (rIface so275) (rzIface so275)))) (And.intro (And.intro (rIface so278) (And.intro (rzIface so278) (rIface so281))) (And.intro (And.intro (rzIface so281) (rConv ik3 ik3)) (And.intro (rzConv ik3 ik3) (rConv ik3 ik5)))))) (And.intro (And.intro (And.intro (And.intro (rzConv ik3 ik5) (And.intro (rConv ik3 ik21) (rzConv ik3 ik21))) (And.intro (And.intro (rConv ik3 ik40) (rzConv ik3 ik40)) (And.intro (rConv ik5 ik3) (rzConv ik5 ik3)))) (And.intro (And.intro (rConv ik5 ik5) (And.intro (rzConv ik5 ik5) (rConv ik5 ik21))) (And.intro (And.intro (rzConv ik5 ik21) (rConv ik5 ik40)) (And.intro (rzConv ik5 ik40) (rConv ik21 ik3))))) (And.intro (And.intro (And.intro (rzConv ik21 ik3) (And.intro (rConv ik21 ik5) (rzConv ik21 ik5))) (And.intro (And.intro (rConv ik21 ik21) (rzConv ik21 ik21)) (And.intro (rConv ik21 ik40) (rzConv ik21 ik40)))) (And.intro (And.intro (And.intro (rConv ik40 ik3) (rzConv ik40 ik3)) (And.intro (rConv ik40 ik5) (rzConv ik40 ik5))) (And.intro (And.intro (rConv ik40 ik21) (rzConv ik40 ik21)) (And.intro (rConv ik40 ik40) (rzConv ik40 ik40)))))))))
def RG := (And.intro (And.intro (And.intro (And.intro (rNil (P := pr)) (rzNil (P := pr))) (And.intro (rBox (P := pr)) (And.intro (rPick (P := pr)) (rzPick (P := pr))))) (And.intro (And.intro (rFunc (P := pr)) (rzFunc (P := pr))) (And.intro (rExt (P := pr)) (And.intro (rzExt (P := pr)) (rBin (P := pr)))))) (And.intro (And.intro (And.intro (rBinC (P := pr)) (rBinL (P := pr))) (And.intro (rzBin (P := pr)) (And.intro (rzBinC (P := pr)) (rEqS (P := pr))))) (And.intro (And.intro (rEqSC (P := pr)) (rNeS (P := pr))) (And.intro (rNeSC (P := pr)) (And.intro (rNot (P := pr)) (rNeg (P := pr)))))))
end Go.Inv
