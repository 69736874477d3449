/- A part of the proofs of the cards of this seat: whatever the input, each law returns true and leaves its arguments as they were. No condition. -/
import Derived.Test.YtknfapnlpkmcjabGreatDoorPB
import Derived.Test.YtknfapnlpkmcjabGreatDoorProg
set_option linter.all false
set_option maxRecDepth 100000
set_option maxHeartbeats 32000000
namespace Go.Inv
open Go.Sh
@[reducible] noncomputable def pr : Program := Go.Proofs.Tryz.prog
abbrev G (g : Nat) : Value := .pointer (some ⟨g, 0, none⟩)
abbrev Fu (f : Nat) : Value := .func (.func f) #[] #[]
def known (f : Nat) : Bool := Nat.testBit 93536106182974361632635033803773556736450107539452 f
theorem mixed : pr.follows .mixedOrders = true := by kernel_rfl
theorem okAll : (List.range 167).all (fun f => !Nat.testBit 93536106182974361632635033803773556736450107539452 f || okFn pr f) = true := by kernel_rfl
theorem enters : Enters pr known := enters_of okAll (by kernel_rfl)
abbrev n_law_Constant : Nat := 5
abbrev n_law_knows : Nat := 7
abbrev n_law_word : Nat := 10
abbrev n_inv_Run : Nat := 11
abbrev n_inv_Analyze : Nat := 12
abbrev n_api_Tell : Nat := 13
abbrev n_law_num : Nat := 14
abbrev n_law_visited : Nat := 15
abbrev n_text_Read : Nat := 18
abbrev n_run_Run : Nat := 19
abbrev n_analysis_Analyze : Nat := 20
abbrev n_errors_As : Nat := 21
abbrev n_api_Place_Where : Nat := 22
abbrev n_text_Read_1 : Nat := 23
abbrev n_rd_next : Nat := 24
abbrev n_rd_statements : Nat := 25
abbrev n_rd_leave : Nat := 26
abbrev n_run_Run_1 : Nat := 27
abbrev n_run_machine_list : Nat := 28
abbrev n_run_machine_visit : Nat := 29
abbrev n_analysis_solve_Class : Nat := 30
abbrev n_analysis_solve_Span : Nat := 31
abbrev n_rl_ValueOf : Nat := 32
abbrev n_rl_Value_Type : Nat := 33
abbrev n_rl_Value_IsNil : Nat := 34
abbrev n_errors_as : Nat := 35
abbrev n_rd_next_1 : Nat := 36
abbrev n_text_letter : Nat := 37
abbrev n_text_digit : Nat := 38
abbrev n_text_sign : Nat := 39
abbrev n_rd_kinds : Nat := 40
abbrev n_rd_token : Nat := 41
abbrev n_rd_variable : Nat := 42
abbrev n_rd_name : Nat := 43
abbrev n_rd_take : Nat := 44
abbrev n_rd_sum : Nat := 45
abbrev n_run_machine_sum : Nat := 46
abbrev n_run_machine_cond : Nat := 47
abbrev n_tree_Point_Where : Nat := 48
abbrev n_sc_list : Nat := 49
abbrev n_sc_come : Nat := 50
abbrev n_rl_TypeOf : Nat := 53
abbrev n_rl_Value_Elem : Nat := 54
abbrev n_rl_Value_Set : Nat := 55
abbrev n_rd_kinds_1 : Nat := 56
abbrev n_rd_kinds_2 : Nat := 57
abbrev n_rd_cond : Nat := 58
abbrev n_rd_kinds_3 : Nat := 59
abbrev n_rd_block : Nat := 60
abbrev n_rd_kinds_4 : Nat := 61
abbrev n_rd_chain : Nat := 62
abbrev n_rd_product : Nat := 63
abbrev n_tree_Rel_Holds : Nat := 64
abbrev n_sc_sum : Nat := 65
abbrev n_sc_split : Nat := 66
abbrev n_sc_tell : Nat := 67
abbrev n_sc_both : Nat := 68
abbrev n_sc_loop : Nat := 69
abbrev n_tree_RelOf : Nat := 75
abbrev n_text_within_tree_Statement : Nat := 76
abbrev n_rd_unary : Nat := 77
abbrev n_sc_split_1 : Nat := 78
abbrev n_tree_Rel_Opposite : Nat := 79
abbrev n_sc_round : Nat := 80
abbrev n_text_within_Sum : Nat := 83
abbrev n_rd_unary_1 : Nat := 84
abbrev n_rd_number : Nat := 85
abbrev n_domain_Class_in : Nat := 106
abbrev n_dc_Bounds : Nat := 107
abbrev n_dc_Join : Nat := 108
abbrev n_dc_Meet : Nat := 109
abbrev n_dc_Minus : Nat := 110
abbrev n_dc_Narrow : Nat := 111
abbrev n_dc_Only : Nat := 112
abbrev n_dc_Tell : Nat := 113
abbrev n_dc_Two : Nat := 114
abbrev n_dc_Whole : Nat := 115
abbrev n_dc_Widen : Nat := 116
abbrev n_dc_Zero : Nat := 117
abbrev n_domain_gcd : Nat := 118
abbrev n_domain_left : Nat := 119
abbrev n_domain_even : Nat := 120
abbrev n_domain_exact : Nat := 121
abbrev n_math_bits_TrailingZeros : Nat := 122
abbrev n_math_bits_TrailingZeros32 : Nat := 123
abbrev n_math_bits_TrailingZeros64 : Nat := 124
abbrev n_ds_Only : Nat := 130
abbrev n_ds_Whole : Nat := 133
abbrev tyReader : Nat := 87
abbrev tyReaderP : Nat := 82
abbrev tyProg : Nat := 85
abbrev tyFault : Nat := 79
abbrev tyFaultP : Nat := 73
abbrev tyPlace : Nat := 77
abbrev tyErrno : Nat := 44
abbrev tyErrnoP : Nat := 81
abbrev tyNum : Nat := 200
abbrev tyNumP : Nat := 198
abbrev tyName : Nat := 203
abbrev tyNameP : Nat := 201
abbrev tyMinus : Nat := 206
abbrev tyMinusP : Nat := 204
abbrev tyTwo : Nat := 209
abbrev tyTwoP : Nat := 207
abbrev tySet : Nat := 140
abbrev tySetP : Nat := 136
abbrev tyGet : Nat := 146
abbrev tyGetP : Nat := 144
abbrev tyAssert : Nat := 153
abbrev tyAssertP : Nat := 147
abbrev tyIf : Nat := 156
abbrev tyIfP : Nat := 154
abbrev tyWhile : Nat := 159
abbrev tyWhileP : Nat := 157
abbrev tyPoint : Nat := 133
abbrev tyCond : Nat := 151
abbrev tyStmt : Nat := 135
abbrev tyMach : Nat := 93
abbrev tyMachP : Nat := 91
abbrev tyVisit : Nat := 59
abbrev tyTrace : Nat := 34
abbrev tyStore : Nat := 57
abbrev gRels : Nat := 1
abbrev tyInt : Nat := 3
theorem pl3 : plainT pr 3 = true := by kernel_rfl
theorem pl4 : plainT pr 4 = true := by kernel_rfl
theorem pl5 : plainT pr 5 = true := by kernel_rfl
theorem pl9 : plainT pr 9 = true := by kernel_rfl
theorem pl22 : plainT pr 22 = true := by kernel_rfl
theorem pl32 : plainT pr 32 = true := by kernel_rfl
theorem ag34 : aggT pr 34 = some 2 := by kernel_rfl
theorem pl36 : plainT pr 36 = true := by kernel_rfl
theorem pl55 : plainT pr 55 = true := by kernel_rfl
theorem ag57 : aggT pr 57 = some 8 := by kernel_rfl
theorem pl61 : plainT pr 61 = true := by kernel_rfl
theorem pl66 : plainT pr 66 = true := by kernel_rfl
theorem pl82 : plainT pr 82 = true := by kernel_rfl
theorem pl83 : plainT pr 83 = true := by kernel_rfl
theorem pl91 : plainT pr 91 = true := by kernel_rfl
theorem ag133 : aggT pr 133 = some 1 := by kernel_rfl
theorem pl135 : plainT pr 135 = true := by kernel_rfl
theorem pl138 : plainT pr 138 = true := by kernel_rfl
theorem pl149 : plainT pr 149 = true := by kernel_rfl
theorem ag151 : aggT pr 151 = some 3 := by kernel_rfl
theorem ag253 : aggT pr 253 = some 6 := by kernel_rfl
theorem fo85_0 : fieldOff pr 85 0 = some 0 := by kernel_rfl
theorem fo85_1 : fieldOff pr 85 1 = some 1 := by kernel_rfl
theorem fo85_2 : fieldOff pr 85 2 = some 2 := by kernel_rfl
theorem fo85_3 : fieldOff pr 85 3 = some 3 := by kernel_rfl
theorem fo87_0 : fieldOff pr 87 0 = some 0 := by kernel_rfl
theorem fo87_1 : fieldOff pr 87 1 = some 1 := by kernel_rfl
theorem fo87_2 : fieldOff pr 87 2 = some 2 := by kernel_rfl
theorem fo87_3 : fieldOff pr 87 3 = some 3 := by kernel_rfl
theorem fo87_4 : fieldOff pr 87 4 = some 4 := by kernel_rfl
theorem fo93_0 : fieldOff pr 93 0 = some 0 := by kernel_rfl
theorem fo93_1 : fieldOff pr 93 1 = some 8 := by kernel_rfl
theorem fo93_2 : fieldOff pr 93 2 = some 9 := by kernel_rfl
theorem fo93_3 : fieldOff pr 93 3 = some 10 := by kernel_rfl
theorem fo133_0 : fieldOff pr 133 0 = some 0 := by kernel_rfl
theorem fo140_1 : fieldOff pr 140 1 = some 1 := by kernel_rfl
theorem fo140_2 : fieldOff pr 140 2 = some 2 := by kernel_rfl
theorem fo146_1 : fieldOff pr 146 1 = some 1 := by kernel_rfl
theorem fo151_0 : fieldOff pr 151 0 = some 0 := by kernel_rfl
theorem fo151_1 : fieldOff pr 151 1 = some 1 := by kernel_rfl
theorem fo151_2 : fieldOff pr 151 2 = some 2 := by kernel_rfl
theorem fo153_1 : fieldOff pr 153 1 = some 1 := by kernel_rfl
theorem fo153_2 : fieldOff pr 153 2 = some 4 := by kernel_rfl
theorem fo156_1 : fieldOff pr 156 1 = some 1 := by kernel_rfl
theorem fo156_2 : fieldOff pr 156 2 = some 4 := by kernel_rfl
theorem fo156_3 : fieldOff pr 156 3 = some 5 := by kernel_rfl
theorem fo156_4 : fieldOff pr 156 4 = some 6 := by kernel_rfl
theorem fo159_0 : fieldOff pr 159 0 = some 0 := by kernel_rfl
theorem fo159_1 : fieldOff pr 159 1 = some 1 := by kernel_rfl
theorem fo159_2 : fieldOff pr 159 2 = some 4 := by kernel_rfl
theorem fo200_0 : fieldOff pr 200 0 = some 0 := by kernel_rfl
theorem fo203_0 : fieldOff pr 203 0 = some 0 := by kernel_rfl
theorem fo206_0 : fieldOff pr 206 0 = some 0 := by kernel_rfl
theorem fo209_0 : fieldOff pr 209 0 = some 0 := by kernel_rfl
theorem fo209_1 : fieldOff pr 209 1 = some 1 := by kernel_rfl
theorem fo209_2 : fieldOff pr 209 2 = some 2 := by kernel_rfl
theorem fo209_3 : fieldOff pr 209 3 = some 3 := by kernel_rfl
theorem is9 : isStr pr 9 = true := by kernel_rfl
theorem il61 : isSl pr 61 = true := by kernel_rfl
theorem il83 : isSl pr 83 = true := by kernel_rfl
theorem ik3 : isIntK pr 3 .i64 = true := by kernel_rfl
theorem ik5 : isIntK pr 5 .u8 = true := by kernel_rfl
theorem ik55 : isIntK pr 55 .i16 = true := by kernel_rfl
theorem so44 : solid pr 44 = true := by kernel_rfl
theorem so73 : solid pr 73 = true := by kernel_rfl
theorem so94 : solid pr 94 = true := by kernel_rfl
theorem so136 : solid pr 136 = true := by kernel_rfl
theorem so144 : solid pr 144 = true := by kernel_rfl
theorem so147 : solid pr 147 = true := by kernel_rfl
theorem so154 : solid pr 154 = true := by kernel_rfl
theorem so157 : solid pr 157 = true := by kernel_rfl
theorem so198 : solid pr 198 = true := by kernel_rfl
theorem so201 : solid pr 201 = true := by kernel_rfl
theorem so204 : solid pr 204 = true := by kernel_rfl
theorem so207 : solid pr 207 = true := by kernel_rfl
def RT := (And.intro (And.intro (And.intro (And.intro (And.intro (And.intro (And.intro (rLoad pl3) (And.intro (raLoad pl3) (rkLoad pl3))) (And.intro (rStore pl3) (And.intro (rLoad pl4) (raLoad pl4)))) (And.intro (And.intro (rkLoad pl4) (And.intro (rStore pl4) (rLoad pl5))) (And.intro (And.intro (raLoad pl5) (rkLoad pl5)) (And.intro (rStore pl5) (rLoad pl9))))) (And.intro (And.intro (And.intro (raLoad pl9) (And.intro (rkLoad pl9) (rStore pl9))) (And.intro (rLoad pl22) (And.intro (raLoad pl22) (rkLoad pl22)))) (And.intro (And.intro (rStore pl22) (And.intro (rLoad pl32) (raLoad pl32))) (And.intro (And.intro (rkLoad pl32) (rStore pl32)) (And.intro (rLoad pl36) (raLoad pl36)))))) (And.intro (And.intro (And.intro (And.intro (rkLoad pl36) (And.intro (rStore pl36) (rLoad pl55))) (And.intro (raLoad pl55) (And.intro (rkLoad pl55) (rStore pl55)))) (And.intro (And.intro (rLoad pl61) (And.intro (raLoad pl61) (rkLoad pl61))) (And.intro (And.intro (rStore pl61) (rLoad pl66)) (And.intro (raLoad pl66) (rkLoad pl66))))) (And.intro (And.intro (And.intro (rStore pl66) (And.intro (rLoad pl82) (raLoad pl82))) (And.intro (rkLoad pl82) (And.intro (rStore pl82) (rLoad pl83)))) (And.intro (And.intro (raLoad pl83) (And.intro (rkLoad pl83) (rStore pl83))) (And.intro (And.intro (rLoad pl91) (raLoad pl91)) (And.intro (rkLoad pl91) (rStore pl91))))))) (And.intro (And.intro (And.intro (And.intro (And.intro (rLoad pl135) (And.intro (raLoad pl135) (rkLoad pl135))) (And.intro (rStore pl135) (And.intro (rLoad pl138) (raLoad pl138)))) (And.intro (And.intro (rkLoad pl138) (And.intro (rStore pl138) (rLoad pl149))) (And.intro (And.intro (raLoad pl149) (rkLoad pl149)) (And.intro (rStore pl149) (rLoadA ag34))))) (And.intro (And.intro (And.intro (raLoadA ag34) (And.intro (rkLoadA ag34) (rStoreA ag34))) (And.intro (rLoadA ag57) (And.intro (raLoadA ag57) (rkLoadA ag57)))) (And.intro (And.intro (rStoreA ag57) (And.intro (rLoadA ag133) (raLoadA ag133))) (And.intro (And.intro (rkLoadA ag133) (rStoreA ag133)) (And.intro (rLoadA ag151) (raLoadA ag151)))))) (And.intro (And.intro (And.intro (And.intro (rkLoadA ag151) (And.intro (rStoreA ag151) (rLoadA ag253))) (And.intro (raLoadA ag253) (And.intro (rkLoadA ag253) (rStoreA ag253)))) (And.intro (And.intro (rFA fo85_0) (And.intro (rzFA fo85_0) (rFA fo85_1))) (And.intro (And.intro (rzFA fo85_1) (rFA fo85_2)) (And.intro (rzFA fo85_2) (rFA fo85_3))))) (And.intro (And.intro (And.intro (rzFA fo85_3) (And.intro (rFA fo87_0) (rzFA fo87_0))) (And.intro (And.intro (rFA fo87_1) (rzFA fo87_1)) (And.intro (rFA fo87_2) (rzFA fo87_2)))) (And.intro (And.intro (rFA fo87_3) (And.intro (rzFA fo87_3) (rFA fo87_4))) (And.intro (And.intro (rzFA fo87_4) (rFA fo93_0)) (And.intro (rzFA fo93_0) (rFA fo93_1)))))))) (And.intro (And.intro (And.intro (And.intro (And.intro (And.intro (rzFA fo93_1) (And.intro (rFA fo93_2) (rzFA fo93_2))) (And.intro (rFA fo93_3) (And.intro (rzFA fo93_3) (rFA fo133_0)))) (And.intro (And.intro (rzFA fo133_0) (And.intro (rFA fo140_1) (rzFA fo140_1))) (And.intro (And.intro (rFA fo140_2) (rzFA fo140_2)) (And.intro (rFA fo146_1) (rzFA fo146_1))))) (And.intro (And.intro (And.intro (rFA fo151_0) (And.intro (rzFA fo151_0) (rFA fo151_1))) (And.intro (rzFA fo151_1) (And.intro (rFA fo151_2) (rzFA fo151_2)))) (And.intro (And.intro (rFA fo153_1) (And.intro (rzFA fo153_1) (rFA fo153_2))) (And.intro (And.intro (rzFA fo153_2) (rFA fo156_1)) (And.intro (rzFA fo156_1) (rFA fo156_2)))))) (And.intro (And.intro (And.intro (And.intro (rzFA fo156_2) (And.intro (rFA fo156_3) (rzFA fo156_3))) (And.intro (rFA fo156_4) (And.intro (rzFA fo156_4) (rFA fo159_0)))) (And.intro (And.intro (rzFA fo159_0) (And.intro (rFA fo159_1) (rzFA fo159_1))) (And.intro (And.intro (rFA fo159_2) (rzFA fo159_2)) (And.intro (rFA fo200_0) (rzFA fo200_0))))) (And.intro (And.intro (And.intro (rFA fo203_0) (And.intro (rzFA fo203_0) (rFA fo206_0))) (And.intro (rzFA fo206_0) (And.intro (rFA fo209_0) (rzFA fo209_0)))) (And.intro (And.intro (rFA fo209_1) (And.intro (rzFA fo209_1) (rFA fo209_2))) (And.intro (And.intro (rzFA fo209_2) (rFA fo209_3)) (And.intro (rzFA fo209_3) (rIdxS is9))))))) (And.intro (And.intro (And.intro (And.intro (And.intro (rzIdxS is9) (And.intro (rLenS is9) (rzLenS is9))) (And.intro (rCut is9) (And.intro (rzCut is9) (rCutL is9)))) (And.intro (And.intro (rzCutL is9) (And.intro (rLenL il61) (rzLenL il61))) (And.intro (And.intro (rLenL il83) (rzLenL il83)) (And.intro (rIface so44) (rzIface so44))))) (And.intro (And.intro (And.intro (rIface so73) (And.intro (rzIface so73) (rIface so94))) (And.intro (rzIface so94) (And.intro (rIface so136) (rzIface so136)))) (And.intro (And.intro (rIface so144) (And.intro (rzIface so144) (rIface so147))) (And.intro (And.intro (rzIface so147) (rIface so154)) (And.intro (rzIface so154) (rIface so157)))))) (And.intro (And.intro (And.intro (And.intro (rzIface so157) (And.intro (rIface so198) (rzIface so198))) (And.intro (rIface so201) (And.intro (rzIface so201) (rIface so204)))) (And.intro (And.intro (rzIface so204) (And.intro (rIface so207) (rzIface so207))) (And.intro (And.intro (rConv ik3 ik3) (rzConv ik3 ik3)) (And.intro (rConv ik3 ik5) (rzConv ik3 ik5))))) (And.intro (And.intro (And.intro (rConv ik3 ik55) (And.intro (rzConv ik3 ik55) (rConv ik5 ik3))) (And.intro (And.intro (rzConv ik5 ik3) (rConv ik5 ik5)) (And.intro (rzConv ik5 ik5) (rConv ik5 ik55)))) (And.intro (And.intro (rzConv ik5 ik55) (And.intro (rConv ik55 ik3) (rzConv ik55 ik3))) (And.intro (And.intro (rConv ik55 ik5) (rzConv ik55 ik5)) (And.intro (rConv ik55 ik55) (rzConv ik55 ik55)))))))))
def RG := (And.intro (And.intro (And.intro (And.intro (rNil (P := pr)) (rzNil (P := pr))) (And.intro (rBox (P := pr)) (And.intro (rPick (P := pr)) (rzPick (P := pr))))) (And.intro (And.intro (rFunc (P := pr)) (rzFunc (P := pr))) (And.intro (rExt (P := pr)) (And.intro (rzExt (P := pr)) (rBin (P := pr)))))) (And.intro (And.intro (And.intro (rBinC (P := pr)) (rBinL (P := pr))) (And.intro (rzBin (P := pr)) (And.intro (rzBinC (P := pr)) (rEqS (P := pr))))) (And.intro (And.intro (rEqSC (P := pr)) (rNeS (P := pr))) (And.intro (rNeSC (P := pr)) (And.intro (rNot (P := pr)) (rNeg (P := pr)))))))
end Go.Inv
