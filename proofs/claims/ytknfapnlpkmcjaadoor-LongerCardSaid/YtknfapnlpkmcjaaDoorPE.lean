/- A part of the proof of a card of this seat: whatever the text, the inputs and the two fuels, the law Longer returns true and leaves its arguments as they were. No condition. -/
import Derived.Test.YtknfapnlpkmcjaaDoorPC
import Derived.Test.YtknfapnlpkmcjaaDoorProg
set_option linter.all false
/- The program, its functions by name, the closed facts on its types, and the rewrite rules. (Written by a program of ours.) -/
set_option maxRecDepth 100000
set_option linter.defProp false
namespace Go.Inv
open Go.Sh
@[reducible] noncomputable def pr : Program := Go.Proofs.Tryd.prog
abbrev G (g : Nat) : Value := .pointer (some ⟨g, 0, none⟩)
abbrev Fu (f : Nat) : Value := .func (.func f) #[] #[]
def known (f : Nat) : Bool := Nat.testBit 1267650638007233320123742814204 f
theorem mixed : pr.follows .mixedOrders = true := by kernel_rfl
theorem okAll : (List.range 101).all (fun f => !Nat.testBit 1267650638007233320123742814204 f || okFn pr f) = true := by kernel_rfl
theorem enters : Enters pr known := enters_of okAll (by kernel_rfl)
abbrev n_main_main : Nat := 0
abbrev n_gosem_cut : Nat := 1
abbrev n_gosem_cut_init : Nat := 2
abbrev n_law_Longer : Nat := 3
abbrev n_law_runs : Nat := 4
abbrev n_law_inputs : Nat := 5
abbrev n_inv_Run : Nat := 6
abbrev n_api_Tell : Nat := 7
abbrev n_law_num : Nat := 8
abbrev n_law_sameTraces : Nat := 9
abbrev n_text_Read : Nat := 10
abbrev n_run_Run : Nat := 11
abbrev n_errors_As : Nat := 12
abbrev n_api_Place_Where : Nat := 13
abbrev n_text_Read_1 : Nat := 14
abbrev n_text_reader_next : Nat := 15
abbrev n_text_reader_statements : Nat := 16
abbrev n_text_reader_leave : Nat := 17
abbrev n_run_Run_1 : Nat := 18
abbrev n_run_machine_list : Nat := 19
abbrev n_run_machine_visit : Nat := 20
abbrev n_internal_reflectlite_ValueOf : Nat := 21
abbrev n_internal_reflectlite_Value_Type : Nat := 22
abbrev n_internal_reflectlite_Value_IsNil : Nat := 23
abbrev n_errors_as : Nat := 24
abbrev n_text_reader_next_1 : Nat := 25
abbrev n_text_letter : Nat := 26
abbrev n_text_digit : Nat := 27
abbrev n_text_sign : Nat := 28
abbrev n_text_reader_kinds : Nat := 29
abbrev n_text_reader_token : Nat := 30
abbrev n_text_reader_variable : Nat := 31
abbrev n_text_reader_name : Nat := 32
abbrev n_text_reader_take : Nat := 33
abbrev n_text_reader_sum : Nat := 34
abbrev n_run_machine_sum : Nat := 35
abbrev n_run_machine_cond : Nat := 36
abbrev n_tree_Point_Where : Nat := 37
abbrev n_internal_reflectlite_TypeOf : Nat := 38
abbrev n_internal_reflectlite_Value_Elem : Nat := 39
abbrev n_internal_reflectlite_Value_Set : Nat := 40
abbrev n_text_reader_kinds_1 : Nat := 41
abbrev n_text_reader_kinds_2 : Nat := 42
abbrev n_text_reader_cond : Nat := 43
abbrev n_text_reader_kinds_3 : Nat := 44
abbrev n_text_reader_block : Nat := 45
abbrev n_text_reader_kinds_4 : Nat := 46
abbrev n_text_reader_chain : Nat := 47
abbrev n_text_reader_product : Nat := 48
abbrev n_tree_Rel_Holds : Nat := 49
abbrev n_tree_RelOf : Nat := 50
abbrev n_text_within_tree_Statement : Nat := 51
abbrev n_text_reader_unary : Nat := 52
abbrev n_text_within_Sum : Nat := 53
abbrev n_text_reader_unary_1 : Nat := 54
abbrev n_text_reader_number : Nat := 55
abbrev n_runtime_boundsError_Error : Nat := 56
abbrev n_runtime_boundsError_RuntimeError : Nat := 57
abbrev n_runtime_errorString_Error : Nat := 58
abbrev n_runtime_errorString_RuntimeError : Nat := 59
abbrev n_runtime_plainError_Error : Nat := 60
abbrev n_runtime_plainError_RuntimeError : Nat := 61
abbrev n_runtime_errorAddressString_Error : Nat := 62
abbrev n_runtime_errorAddressString_RuntimeError : Nat := 63
abbrev n_runtime_TypeAssertionError_Error : Nat := 64
abbrev n_runtime_TypeAssertionError_RuntimeError : Nat := 65
abbrev n_runtime_PanicNilError_Error : Nat := 66
abbrev n_runtime_PanicNilError_RuntimeError : Nat := 67
abbrev n_internal_abi_Type_Align : Nat := 68
abbrev n_internal_abi_Type_Elem : Nat := 69
abbrev n_internal_abi_Type_Kind : Nat := 70
abbrev n_internal_runtime_maps_unhashableTypeError_Error : Nat := 71
abbrev n_internal_runtime_maps_unhashableTypeError_RuntimeError : Nat := 72
abbrev n_api_Errno_Error : Nat := 73
abbrev n_api_Fault_Error : Nat := 74
abbrev n_api_Fault_Unwrap : Nat := 75
abbrev n_internal_reflectlite_flag_mustBeAssignable : Nat := 76
abbrev n_internal_reflectlite_Value_Kind : Nat := 77
abbrev n_internal_abi_Kind_String : Nat := 78
abbrev n_tree_Rel_String : Nat := 79
abbrev n_internal_abi_Type_Size : Nat := 80
abbrev n_internal_reflectlite_rtype_AssignableTo : Nat := 81
abbrev n_internal_reflectlite_rtype_Comparable : Nat := 82
abbrev n_internal_reflectlite_rtype_Elem : Nat := 83
abbrev n_internal_reflectlite_rtype_Implements : Nat := 84
abbrev n_internal_reflectlite_rtype_Name : Nat := 85
abbrev n_internal_reflectlite_rtype_PkgPath : Nat := 86
abbrev n_internal_reflectlite_rtype_String : Nat := 87
abbrev n_internal_reflectlite_rtype_common : Nat := 88
abbrev n_internal_reflectlite_rtype_uncommon : Nat := 89
abbrev n_internal_reflectlite_ValueError_Error : Nat := 90
abbrev n_tree_Number_rank : Nat := 91
abbrev n_tree_Name_rank : Nat := 92
abbrev n_tree_Minus_rank : Nat := 93
abbrev n_tree_Two_rank : Nat := 94
abbrev n_internal_abi_UncommonType_ExportedMethods : Nat := 95
abbrev n_var_s_door_errors_errorType_is_laid_by_its_own_call_of_reflectlite_TypeOf_on_a_nil_pointer_and_Elem_of_it_handle_1 : Nat := 96
abbrev n_var_s_door_gosem_cut_vars_holds_initialisers_alone_see_the_manifest_s_row_cutvarsword_look_11_test_files_too : Nat := 97
abbrev n_var_s_door_tree_rels_is_laid_by_its_own_initialiser_plain_data_look_11 : Nat := 98
abbrev n_var_s_door_the_look_of_gosem_cut_vars_went_over_the_folder_that_the_caller_named_as_the_repository_s_root_look_11 : Nat := 99
abbrev n_gosem_cut_vars : Nat := 100
abbrev tyReader : Nat := 64
abbrev tyReaderP : Nat := 59
abbrev tyProg : Nat := 62
abbrev tyProgP : Nat := 46
abbrev tyFault : Nat := 56
abbrev tyFaultP : Nat := 50
abbrev tyPlace : Nat := 54
abbrev tyErrno : Nat := 35
abbrev tyErrnoP : Nat := 58
abbrev tyNum : Nat := 141
abbrev tyNumP : Nat := 139
abbrev tyName : Nat := 144
abbrev tyNameP : Nat := 142
abbrev tyMinus : Nat := 147
abbrev tyMinusP : Nat := 145
abbrev tyTwo : Nat := 150
abbrev tyTwoP : Nat := 148
abbrev tySet : Nat := 103
abbrev tySetP : Nat := 99
abbrev tyGet : Nat := 109
abbrev tyGetP : Nat := 107
abbrev tyAssert : Nat := 116
abbrev tyAssertP : Nat := 110
abbrev tyIf : Nat := 119
abbrev tyIfP : Nat := 117
abbrev tyWhile : Nat := 122
abbrev tyWhileP : Nat := 120
abbrev tyPoint : Nat := 96
abbrev tyCond : Nat := 114
abbrev tyStmt : Nat := 98
abbrev tySum : Nat := 101
abbrev tyMach : Nat := 70
abbrev tyMachP : Nat := 68
abbrev tyVisit : Nat := 45
abbrev tyTrace : Nat := 30
abbrev tyStore : Nat := 43
abbrev gRels : Nat := 1
abbrev tyInt : Nat := 3
theorem pl3 : plainT pr 3 = true := by kernel_rfl
theorem pl4 : plainT pr 4 = true := by kernel_rfl
theorem pl5 : plainT pr 5 = true := by kernel_rfl
theorem pl9 : plainT pr 9 = true := by kernel_rfl
theorem pl22 : plainT pr 22 = true := by kernel_rfl
theorem pl25 : plainT pr 25 = true := by kernel_rfl
theorem pl28 : plainT pr 28 = true := by kernel_rfl
theorem ag30 : aggT pr 30 = some 2 := by kernel_rfl
theorem pl32 : plainT pr 32 = true := by kernel_rfl
theorem pl41 : plainT pr 41 = true := by kernel_rfl
theorem ag43 : aggT pr 43 = some 8 := by kernel_rfl
theorem pl46 : plainT pr 46 = true := by kernel_rfl
theorem pl59 : plainT pr 59 = true := by kernel_rfl
theorem pl60 : plainT pr 60 = true := by kernel_rfl
theorem pl68 : plainT pr 68 = true := by kernel_rfl
theorem ag96 : aggT pr 96 = some 1 := by kernel_rfl
theorem pl98 : plainT pr 98 = true := by kernel_rfl
theorem pl101 : plainT pr 101 = true := by kernel_rfl
theorem pl112 : plainT pr 112 = true := by kernel_rfl
theorem ag114 : aggT pr 114 = some 3 := by kernel_rfl
theorem ag154 : aggT pr 154 = some 6 := by kernel_rfl
theorem fo62_0 : fieldOff pr 62 0 = some 0 := by kernel_rfl
theorem fo62_1 : fieldOff pr 62 1 = some 1 := by kernel_rfl
theorem fo62_2 : fieldOff pr 62 2 = some 2 := by kernel_rfl
theorem fo62_3 : fieldOff pr 62 3 = some 3 := by kernel_rfl
theorem fo64_0 : fieldOff pr 64 0 = some 0 := by kernel_rfl
theorem fo64_1 : fieldOff pr 64 1 = some 1 := by kernel_rfl
theorem fo64_2 : fieldOff pr 64 2 = some 2 := by kernel_rfl
theorem fo64_3 : fieldOff pr 64 3 = some 3 := by kernel_rfl
theorem fo64_4 : fieldOff pr 64 4 = some 4 := by kernel_rfl
theorem fo70_0 : fieldOff pr 70 0 = some 0 := by kernel_rfl
theorem fo70_1 : fieldOff pr 70 1 = some 8 := by kernel_rfl
theorem fo70_2 : fieldOff pr 70 2 = some 9 := by kernel_rfl
theorem fo70_3 : fieldOff pr 70 3 = some 10 := by kernel_rfl
theorem fo96_0 : fieldOff pr 96 0 = some 0 := by kernel_rfl
theorem fo103_1 : fieldOff pr 103 1 = some 1 := by kernel_rfl
theorem fo103_2 : fieldOff pr 103 2 = some 2 := by kernel_rfl
theorem fo109_1 : fieldOff pr 109 1 = some 1 := by kernel_rfl
theorem fo114_0 : fieldOff pr 114 0 = some 0 := by kernel_rfl
theorem fo114_1 : fieldOff pr 114 1 = some 1 := by kernel_rfl
theorem fo114_2 : fieldOff pr 114 2 = some 2 := by kernel_rfl
theorem fo116_1 : fieldOff pr 116 1 = some 1 := by kernel_rfl
theorem fo116_2 : fieldOff pr 116 2 = some 4 := by kernel_rfl
theorem fo119_1 : fieldOff pr 119 1 = some 1 := by kernel_rfl
theorem fo119_2 : fieldOff pr 119 2 = some 4 := by kernel_rfl
theorem fo119_3 : fieldOff pr 119 3 = some 5 := by kernel_rfl
theorem fo119_4 : fieldOff pr 119 4 = some 6 := by kernel_rfl
theorem fo122_0 : fieldOff pr 122 0 = some 0 := by kernel_rfl
theorem fo122_1 : fieldOff pr 122 1 = some 1 := by kernel_rfl
theorem fo122_2 : fieldOff pr 122 2 = some 4 := by kernel_rfl
theorem fo141_0 : fieldOff pr 141 0 = some 0 := by kernel_rfl
theorem fo144_0 : fieldOff pr 144 0 = some 0 := by kernel_rfl
theorem fo147_0 : fieldOff pr 147 0 = some 0 := by kernel_rfl
theorem fo150_0 : fieldOff pr 150 0 = some 0 := by kernel_rfl
theorem fo150_1 : fieldOff pr 150 1 = some 1 := by kernel_rfl
theorem fo150_2 : fieldOff pr 150 2 = some 2 := by kernel_rfl
theorem fo150_3 : fieldOff pr 150 3 = some 3 := by kernel_rfl
theorem is9 : isStr pr 9 = true := by kernel_rfl
theorem il25 : isSl pr 25 = true := by kernel_rfl
theorem il60 : isSl pr 60 = true := by kernel_rfl
theorem ik3 : isIntK pr 3 .i64 = true := by kernel_rfl
theorem ik5 : isIntK pr 5 .u8 = true := by kernel_rfl
theorem ik41 : isIntK pr 41 .i16 = true := by kernel_rfl
theorem so35 : solid pr 35 = true := by kernel_rfl
theorem so50 : solid pr 50 = true := by kernel_rfl
theorem so71 : solid pr 71 = true := by kernel_rfl
theorem so99 : solid pr 99 = true := by kernel_rfl
theorem so107 : solid pr 107 = true := by kernel_rfl
theorem so110 : solid pr 110 = true := by kernel_rfl
theorem so117 : solid pr 117 = true := by kernel_rfl
theorem so120 : solid pr 120 = true := by kernel_rfl
theorem so139 : solid pr 139 = true := by kernel_rfl
theorem so142 : solid pr 142 = true := by kernel_rfl
theorem so145 : solid pr 145 = true := by kernel_rfl
theorem so148 : solid pr 148 = true := by kernel_rfl
def RT := (And.intro (And.intro (And.intro (And.intro (And.intro (And.intro (And.intro (rLoad pl3) (And.intro (raLoad pl3) (rkLoad pl3))) (And.intro (rStore pl3) (And.intro (rLoad pl4) (raLoad pl4)))) (And.intro (And.intro (rkLoad pl4) (And.intro (rStore pl4) (rLoad pl5))) (And.intro (And.intro (raLoad pl5) (rkLoad pl5)) (And.intro (rStore pl5) (rLoad pl9))))) (And.intro (And.intro (And.intro (raLoad pl9) (And.intro (rkLoad pl9) (rStore pl9))) (And.intro (rLoad pl22) (And.intro (raLoad pl22) (rkLoad pl22)))) (And.intro (And.intro (rStore pl22) (And.intro (rLoad pl25) (raLoad pl25))) (And.intro (And.intro (rkLoad pl25) (rStore pl25)) (And.intro (rLoad pl28) (raLoad pl28)))))) (And.intro (And.intro (And.intro (And.intro (rkLoad pl28) (And.intro (rStore pl28) (rLoad pl32))) (And.intro (raLoad pl32) (And.intro (rkLoad pl32) (rStore pl32)))) (And.intro (And.intro (rLoad pl41) (And.intro (raLoad pl41) (rkLoad pl41))) (And.intro (And.intro (rStore pl41) (rLoad pl46)) (And.intro (raLoad pl46) (rkLoad pl46))))) (And.intro (And.intro (And.intro (rStore pl46) (And.intro (rLoad pl59) (raLoad pl59))) (And.intro (rkLoad pl59) (And.intro (rStore pl59) (rLoad pl60)))) (And.intro (And.intro (raLoad pl60) (And.intro (rkLoad pl60) (rStore pl60))) (And.intro (And.intro (rLoad pl68) (raLoad pl68)) (And.intro (rkLoad pl68) (rStore pl68))))))) (And.intro (And.intro (And.intro (And.intro (And.intro (rLoad pl98) (And.intro (raLoad pl98) (rkLoad pl98))) (And.intro (rStore pl98) (And.intro (rLoad pl101) (raLoad pl101)))) (And.intro (And.intro (rkLoad pl101) (And.intro (rStore pl101) (rLoad pl112))) (And.intro (And.intro (raLoad pl112) (rkLoad pl112)) (And.intro (rStore pl112) (rLoadA ag30))))) (And.intro (And.intro (And.intro (raLoadA ag30) (And.intro (rkLoadA ag30) (rStoreA ag30))) (And.intro (rLoadA ag43) (And.intro (raLoadA ag43) (rkLoadA ag43)))) (And.intro (And.intro (rStoreA ag43) (And.intro (rLoadA ag96) (raLoadA ag96))) (And.intro (And.intro (rkLoadA ag96) (rStoreA ag96)) (And.intro (rLoadA ag114) (raLoadA ag114)))))) (And.intro (And.intro (And.intro (And.intro (rkLoadA ag114) (And.intro (rStoreA ag114) (rLoadA ag154))) (And.intro (raLoadA ag154) (And.intro (rkLoadA ag154) (rStoreA ag154)))) (And.intro (And.intro (rFA fo62_0) (And.intro (rzFA fo62_0) (rFA fo62_1))) (And.intro (And.intro (rzFA fo62_1) (rFA fo62_2)) (And.intro (rzFA fo62_2) (rFA fo62_3))))) (And.intro (And.intro (And.intro (rzFA fo62_3) (And.intro (rFA fo64_0) (rzFA fo64_0))) (And.intro (And.intro (rFA fo64_1) (rzFA fo64_1)) (And.intro (rFA fo64_2) (rzFA fo64_2)))) (And.intro (And.intro (rFA fo64_3) (And.intro (rzFA fo64_3) (rFA fo64_4))) (And.intro (And.intro (rzFA fo64_4) (rFA fo70_0)) (And.intro (rzFA fo70_0) (rFA fo70_1)))))))) (And.intro (And.intro (And.intro (And.intro (And.intro (And.intro (rzFA fo70_1) (And.intro (rFA fo70_2) (rzFA fo70_2))) (And.intro (rFA fo70_3) (And.intro (rzFA fo70_3) (rFA fo96_0)))) (And.intro (And.intro (rzFA fo96_0) (And.intro (rFA fo103_1) (rzFA fo103_1))) (And.intro (And.intro (rFA fo103_2) (rzFA fo103_2)) (And.intro (rFA fo109_1) (rzFA fo109_1))))) (And.intro (And.intro (And.intro (rFA fo114_0) (And.intro (rzFA fo114_0) (rFA fo114_1))) (And.intro (rzFA fo114_1) (And.intro (rFA fo114_2) (rzFA fo114_2)))) (And.intro (And.intro (rFA fo116_1) (And.intro (rzFA fo116_1) (rFA fo116_2))) (And.intro (And.intro (rzFA fo116_2) (rFA fo119_1)) (And.intro (rzFA fo119_1) (rFA fo119_2)))))) (And.intro (And.intro (And.intro (And.intro (rzFA fo119_2) (And.intro (rFA fo119_3) (rzFA fo119_3))) (And.intro (rFA fo119_4) (And.intro (rzFA fo119_4) (rFA fo122_0)))) (And.intro (And.intro (rzFA fo122_0) (And.intro (rFA fo122_1) (rzFA fo122_1))) (And.intro (And.intro (rFA fo122_2) (rzFA fo122_2)) (And.intro (rFA fo141_0) (rzFA fo141_0))))) (And.intro (And.intro (And.intro (rFA fo144_0) (And.intro (rzFA fo144_0) (rFA fo147_0))) (And.intro (rzFA fo147_0) (And.intro (rFA fo150_0) (rzFA fo150_0)))) (And.intro (And.intro (rFA fo150_1) (And.intro (rzFA fo150_1) (rFA fo150_2))) (And.intro (And.intro (rzFA fo150_2) (rFA fo150_3)) (And.intro (rzFA fo150_3) (rIdxS is9))))))) (And.intro (And.intro (And.intro (And.intro (And.intro (rzIdxS is9) (And.intro (rLenS is9) (rzLenS is9))) (And.intro (rCut is9) (And.intro (rzCut is9) (rCutL is9)))) (And.intro (And.intro (rzCutL is9) (And.intro (rLenL il25) (rzLenL il25))) (And.intro (And.intro (rLenL il60) (rzLenL il60)) (And.intro (rIface so35) (rzIface so35))))) (And.intro (And.intro (And.intro (rIface so50) (And.intro (rzIface so50) (rIface so71))) (And.intro (rzIface so71) (And.intro (rIface so99) (rzIface so99)))) (And.intro (And.intro (rIface so107) (And.intro (rzIface so107) (rIface so110))) (And.intro (And.intro (rzIface so110) (rIface so117)) (And.intro (rzIface so117) (rIface so120)))))) (And.intro (And.intro (And.intro (And.intro (rzIface so120) (And.intro (rIface so139) (rzIface so139))) (And.intro (rIface so142) (And.intro (rzIface so142) (rIface so145)))) (And.intro (And.intro (rzIface so145) (And.intro (rIface so148) (rzIface so148))) (And.intro (And.intro (rConv ik3 ik3) (rzConv ik3 ik3)) (And.intro (rConv ik3 ik5) (rzConv ik3 ik5))))) (And.intro (And.intro (And.intro (rConv ik3 ik41) (And.intro (rzConv ik3 ik41) (rConv ik5 ik3))) (And.intro (And.intro (rzConv ik5 ik3) (rConv ik5 ik5)) (And.intro (rzConv ik5 ik5) (rConv ik5 ik41)))) (And.intro (And.intro (rzConv ik5 ik41) (And.intro (rConv ik41 ik3) (rzConv ik41 ik3))) (And.intro (And.intro (rConv ik41 ik5) (rzConv ik41 ik5)) (And.intro (rConv ik41 ik41) (rzConv ik41 ik41)))))))))
def RG := (And.intro (And.intro (And.intro (And.intro (rNil (P := pr)) (rzNil (P := pr))) (And.intro (rBox (P := pr)) (And.intro (rPick (P := pr)) (rzPick (P := pr))))) (And.intro (And.intro (rFunc (P := pr)) (rzFunc (P := pr))) (And.intro (rExt (P := pr)) (And.intro (rzExt (P := pr)) (rBin (P := pr)))))) (And.intro (And.intro (And.intro (rBinC (P := pr)) (rBinL (P := pr))) (And.intro (rzBin (P := pr)) (And.intro (rzBinC (P := pr)) (rEqS (P := pr))))) (And.intro (And.intro (rEqSC (P := pr)) (rNeS (P := pr))) (And.intro (rNeSC (P := pr)) (And.intro (rNot (P := pr)) (rNeg (P := pr)))))))
end Go.Inv
