/- What functions of the program compute, as plain functions (printed). -/
import Derived.Test.YtbekhaioddmliaaDoorQCfF10
namespace Go.Proofs.YtbekhaioddmliaaDoor
open Go Go.RowKit
set_option maxRecDepth 100000
set_option linter.unusedVariables false
noncomputable section
def script_CheckValue (N : Nat) (r_script_checkCases : (List (Str × GValue)) → Option (Int)) (x0 : GValue) : Option Int :=
  br (decide (x0.kind < (1 : Int)))
    (some (4 : Int))
    (br (decide (x0.kind > (4 : Int)))
      (some (4 : Int))
      (br (!(x0.text == ([] : Str)))
        (br (x0.kind != (1 : Int))
          (br (x0.kind != (1 : Int))
            (some (3 : Int))
            (br (decide ((x0.text.length : Int) > (1000 : Int)))
              (some (2 : Int))
              (br (decide ((x0.list.length : Int) > (1000 : Int)))
                (some (2 : Int))
                (bnd (slices_ContainsFunc_string_string N x0.list ()) fun t61 =>
                br (t61)
                  (some (2 : Int))
                  (br (decide ((x0.cases.length : Int) > (50 : Int)))
                    (some (2 : Int))
                    (bnd (script_isText N x0.text) fun t72 =>
                    br (!t72)
                      (some (3 : Int))
                      (bnd (slices_ContainsFunc_string_string_2 N x0.list ()) fun t77 =>
                      br (t77)
                        (some (3 : Int))
                        (br (decide (x0.number < (0 : Int)))
                          (some (1 : Int))
                          (br (decide (x0.number > (999999999 : Int)))
                            (some (1 : Int))
                            (br (x0.kind == (4 : Int))
                              (bnd (r_script_checkCases x0.cases) fun t94 =>
                              some t94)
                              (some (0 : Int))))))))))))
          (br (x0.number != (0 : Int))
            (br (x0.kind != (2 : Int))
              (br (x0.kind != (2 : Int))
                (some (3 : Int))
                (br (decide ((x0.text.length : Int) > (1000 : Int)))
                  (some (2 : Int))
                  (br (decide ((x0.list.length : Int) > (1000 : Int)))
                    (some (2 : Int))
                    (bnd (slices_ContainsFunc_string_string N x0.list ()) fun t61_1 =>
                    br (t61_1)
                      (some (2 : Int))
                      (br (decide ((x0.cases.length : Int) > (50 : Int)))
                        (some (2 : Int))
                        (bnd (script_isText N x0.text) fun t72_2 =>
                        br (!t72_2)
                          (some (3 : Int))
                          (bnd (slices_ContainsFunc_string_string_2 N x0.list ()) fun t77_3 =>
                          br (t77_3)
                            (some (3 : Int))
                            (br (decide (x0.number < (0 : Int)))
                              (some (1 : Int))
                              (br (decide (x0.number > (999999999 : Int)))
                                (some (1 : Int))
                                (br (x0.kind == (4 : Int))
                                  (bnd (r_script_checkCases x0.cases) fun t94_4 =>
                                  some t94_4)
                                  (some (0 : Int))))))))))))
              (br (decide ((x0.list.length : Int) > (0 : Int)))
                (br (x0.kind != (3 : Int))
                  (br (x0.kind != (3 : Int))
                    (some (3 : Int))
                    (br (decide ((x0.text.length : Int) > (1000 : Int)))
                      (some (2 : Int))
                      (br (decide ((x0.list.length : Int) > (1000 : Int)))
                        (some (2 : Int))
                        (bnd (slices_ContainsFunc_string_string N x0.list ()) fun t61_5 =>
                        br (t61_5)
                          (some (2 : Int))
                          (br (decide ((x0.cases.length : Int) > (50 : Int)))
                            (some (2 : Int))
                            (bnd (script_isText N x0.text) fun t72_6 =>
                            br (!t72_6)
                              (some (3 : Int))
                              (bnd (slices_ContainsFunc_string_string_2 N x0.list ()) fun t77_7 =>
                              br (t77_7)
                                (some (3 : Int))
                                (br (decide (x0.number < (0 : Int)))
                                  (some (1 : Int))
                                  (br (decide (x0.number > (999999999 : Int)))
                                    (some (1 : Int))
                                    (br (x0.kind == (4 : Int))
                                      (bnd (r_script_checkCases x0.cases) fun t94_8 =>
                                      some t94_8)
                                      (some (0 : Int))))))))))))
                  (br (decide ((x0.cases.length : Int) > (0 : Int)))
                    (br (x0.kind != (4 : Int))
                      (some (3 : Int))
                      (br (decide ((x0.text.length : Int) > (1000 : Int)))
                        (some (2 : Int))
                        (br (decide ((x0.list.length : Int) > (1000 : Int)))
                          (some (2 : Int))
                          (bnd (slices_ContainsFunc_string_string N x0.list ()) fun t61_9 =>
                          br (t61_9)
                            (some (2 : Int))
                            (br (decide ((x0.cases.length : Int) > (50 : Int)))
                              (some (2 : Int))
                              (bnd (script_isText N x0.text) fun t72_10 =>
                              br (!t72_10)
                                (some (3 : Int))
                                (bnd (slices_ContainsFunc_string_string_2 N x0.list ()) fun t77_11 =>
                                br (t77_11)
                                  (some (3 : Int))
                                  (br (decide (x0.number < (0 : Int)))
                                    (some (1 : Int))
                                    (br (decide (x0.number > (999999999 : Int)))
                                      (some (1 : Int))
                                      (br (x0.kind == (4 : Int))
                                        (bnd (r_script_checkCases x0.cases) fun t94_12 =>
                                        some t94_12)
                                        (some (0 : Int))))))))))))
                    (br (decide ((x0.text.length : Int) > (1000 : Int)))
                      (some (2 : Int))
                      (br (decide ((x0.list.length : Int) > (1000 : Int)))
                        (some (2 : Int))
                        (bnd (slices_ContainsFunc_string_string N x0.list ()) fun t61_13 =>
                        br (t61_13)
                          (some (2 : Int))
                          (br (decide ((x0.cases.length : Int) > (50 : Int)))
                            (some (2 : Int))
                            (bnd (script_isText N x0.text) fun t72_14 =>
                            br (!t72_14)
                              (some (3 : Int))
                              (bnd (slices_ContainsFunc_string_string_2 N x0.list ()) fun t77_15 =>
                              br (t77_15)
                                (some (3 : Int))
                                (br (decide (x0.number < (0 : Int)))
                                  (some (1 : Int))
                                  (br (decide (x0.number > (999999999 : Int)))
                                    (some (1 : Int))
                                    (br (x0.kind == (4 : Int))
                                      (bnd (r_script_checkCases x0.cases) fun t94_16 =>
                                      some t94_16)
                                      (some (0 : Int)))))))))))))
                (br (decide ((x0.cases.length : Int) > (0 : Int)))
                  (br (x0.kind != (4 : Int))
                    (some (3 : Int))
                    (br (decide ((x0.text.length : Int) > (1000 : Int)))
                      (some (2 : Int))
                      (br (decide ((x0.list.length : Int) > (1000 : Int)))
                        (some (2 : Int))
                        (bnd (slices_ContainsFunc_string_string N x0.list ()) fun t61_17 =>
                        br (t61_17)
                          (some (2 : Int))
                          (br (decide ((x0.cases.length : Int) > (50 : Int)))
                            (some (2 : Int))
                            (bnd (script_isText N x0.text) fun t72_18 =>
                            br (!t72_18)
                              (some (3 : Int))
                              (bnd (slices_ContainsFunc_string_string_2 N x0.list ()) fun t77_19 =>
                              br (t77_19)
                                (some (3 : Int))
                                (br (decide (x0.number < (0 : Int)))
                                  (some (1 : Int))
                                  (br (decide (x0.number > (999999999 : Int)))
                                    (some (1 : Int))
                                    (br (x0.kind == (4 : Int))
                                      (bnd (r_script_checkCases x0.cases) fun t94_20 =>
                                      some t94_20)
                                      (some (0 : Int))))))))))))
                  (br (decide ((x0.text.length : Int) > (1000 : Int)))
                    (some (2 : Int))
                    (br (decide ((x0.list.length : Int) > (1000 : Int)))
                      (some (2 : Int))
                      (bnd (slices_ContainsFunc_string_string N x0.list ()) fun t61_21 =>
                      br (t61_21)
                        (some (2 : Int))
                        (br (decide ((x0.cases.length : Int) > (50 : Int)))
                          (some (2 : Int))
                          (bnd (script_isText N x0.text) fun t72_22 =>
                          br (!t72_22)
                            (some (3 : Int))
                            (bnd (slices_ContainsFunc_string_string_2 N x0.list ()) fun t77_23 =>
                            br (t77_23)
                              (some (3 : Int))
                              (br (decide (x0.number < (0 : Int)))
                                (some (1 : Int))
                                (br (decide (x0.number > (999999999 : Int)))
                                  (some (1 : Int))
                                  (br (x0.kind == (4 : Int))
                                    (bnd (r_script_checkCases x0.cases) fun t94_24 =>
                                    some t94_24)
                                    (some (0 : Int))))))))))))))
            (br (decide ((x0.list.length : Int) > (0 : Int)))
              (br (x0.kind != (3 : Int))
                (br (x0.kind != (3 : Int))
                  (some (3 : Int))
                  (br (decide ((x0.text.length : Int) > (1000 : Int)))
                    (some (2 : Int))
                    (br (decide ((x0.list.length : Int) > (1000 : Int)))
                      (some (2 : Int))
                      (bnd (slices_ContainsFunc_string_string N x0.list ()) fun t61_25 =>
                      br (t61_25)
                        (some (2 : Int))
                        (br (decide ((x0.cases.length : Int) > (50 : Int)))
                          (some (2 : Int))
                          (bnd (script_isText N x0.text) fun t72_26 =>
                          br (!t72_26)
                            (some (3 : Int))
                            (bnd (slices_ContainsFunc_string_string_2 N x0.list ()) fun t77_27 =>
                            br (t77_27)
                              (some (3 : Int))
                              (br (decide (x0.number < (0 : Int)))
                                (some (1 : Int))
                                (br (decide (x0.number > (999999999 : Int)))
                                  (some (1 : Int))
                                  (br (x0.kind == (4 : Int))
                                    (bnd (r_script_checkCases x0.cases) fun t94_28 =>
                                    some t94_28)
                                    (some (0 : Int))))))))))))
                (br (decide ((x0.cases.length : Int) > (0 : Int)))
                  (br (x0.kind != (4 : Int))
                    (some (3 : Int))
                    (br (decide ((x0.text.length : Int) > (1000 : Int)))
                      (some (2 : Int))
                      (br (decide ((x0.list.length : Int) > (1000 : Int)))
                        (some (2 : Int))
                        (bnd (slices_ContainsFunc_string_string N x0.list ()) fun t61_29 =>
                        br (t61_29)
                          (some (2 : Int))
                          (br (decide ((x0.cases.length : Int) > (50 : Int)))
                            (some (2 : Int))
                            (bnd (script_isText N x0.text) fun t72_30 =>
                            br (!t72_30)
                              (some (3 : Int))
                              (bnd (slices_ContainsFunc_string_string_2 N x0.list ()) fun t77_31 =>
                              br (t77_31)
                                (some (3 : Int))
                                (br (decide (x0.number < (0 : Int)))
                                  (some (1 : Int))
                                  (br (decide (x0.number > (999999999 : Int)))
                                    (some (1 : Int))
                                    (br (x0.kind == (4 : Int))
                                      (bnd (r_script_checkCases x0.cases) fun t94_32 =>
                                      some t94_32)
                                      (some (0 : Int))))))))))))
                  (br (decide ((x0.text.length : Int) > (1000 : Int)))
                    (some (2 : Int))
                    (br (decide ((x0.list.length : Int) > (1000 : Int)))
                      (some (2 : Int))
                      (bnd (slices_ContainsFunc_string_string N x0.list ()) fun t61_33 =>
                      br (t61_33)
                        (some (2 : Int))
                        (br (decide ((x0.cases.length : Int) > (50 : Int)))
                          (some (2 : Int))
                          (bnd (script_isText N x0.text) fun t72_34 =>
                          br (!t72_34)
                            (some (3 : Int))
                            (bnd (slices_ContainsFunc_string_string_2 N x0.list ()) fun t77_35 =>
                            br (t77_35)
                              (some (3 : Int))
                              (br (decide (x0.number < (0 : Int)))
                                (some (1 : Int))
                                (br (decide (x0.number > (999999999 : Int)))
                                  (some (1 : Int))
                                  (br (x0.kind == (4 : Int))
                                    (bnd (r_script_checkCases x0.cases) fun t94_36 =>
                                    some t94_36)
                                    (some (0 : Int)))))))))))))
              (br (decide ((x0.cases.length : Int) > (0 : Int)))
                (br (x0.kind != (4 : Int))
                  (some (3 : Int))
                  (br (decide ((x0.text.length : Int) > (1000 : Int)))
                    (some (2 : Int))
                    (br (decide ((x0.list.length : Int) > (1000 : Int)))
                      (some (2 : Int))
                      (bnd (slices_ContainsFunc_string_string N x0.list ()) fun t61_37 =>
                      br (t61_37)
                        (some (2 : Int))
                        (br (decide ((x0.cases.length : Int) > (50 : Int)))
                          (some (2 : Int))
                          (bnd (script_isText N x0.text) fun t72_38 =>
                          br (!t72_38)
                            (some (3 : Int))
                            (bnd (slices_ContainsFunc_string_string_2 N x0.list ()) fun t77_39 =>
                            br (t77_39)
                              (some (3 : Int))
                              (br (decide (x0.number < (0 : Int)))
                                (some (1 : Int))
                                (br (decide (x0.number > (999999999 : Int)))
                                  (some (1 : Int))
                                  (br (x0.kind == (4 : Int))
                                    (bnd (r_script_checkCases x0.cases) fun t94_40 =>
                                    some t94_40)
                                    (some (0 : Int))))))))))))
                (br (decide ((x0.text.length : Int) > (1000 : Int)))
                  (some (2 : Int))
                  (br (decide ((x0.list.length : Int) > (1000 : Int)))
                    (some (2 : Int))
                    (bnd (slices_ContainsFunc_string_string N x0.list ()) fun t61_41 =>
                    br (t61_41)
                      (some (2 : Int))
                      (br (decide ((x0.cases.length : Int) > (50 : Int)))
                        (some (2 : Int))
                        (bnd (script_isText N x0.text) fun t72_42 =>
                        br (!t72_42)
                          (some (3 : Int))
                          (bnd (slices_ContainsFunc_string_string_2 N x0.list ()) fun t77_43 =>
                          br (t77_43)
                            (some (3 : Int))
                            (br (decide (x0.number < (0 : Int)))
                              (some (1 : Int))
                              (br (decide (x0.number > (999999999 : Int)))
                                (some (1 : Int))
                                (br (x0.kind == (4 : Int))
                                  (bnd (r_script_checkCases x0.cases) fun t94_44 =>
                                  some t94_44)
                                  (some (0 : Int)))))))))))))))
        (br (x0.number != (0 : Int))
          (br (x0.kind != (2 : Int))
            (br (x0.kind != (2 : Int))
              (some (3 : Int))
              (br (decide ((x0.text.length : Int) > (1000 : Int)))
                (some (2 : Int))
                (br (decide ((x0.list.length : Int) > (1000 : Int)))
                  (some (2 : Int))
                  (bnd (slices_ContainsFunc_string_string N x0.list ()) fun t61_45 =>
                  br (t61_45)
                    (some (2 : Int))
                    (br (decide ((x0.cases.length : Int) > (50 : Int)))
                      (some (2 : Int))
                      (bnd (script_isText N x0.text) fun t72_46 =>
                      br (!t72_46)
                        (some (3 : Int))
                        (bnd (slices_ContainsFunc_string_string_2 N x0.list ()) fun t77_47 =>
                        br (t77_47)
                          (some (3 : Int))
                          (br (decide (x0.number < (0 : Int)))
                            (some (1 : Int))
                            (br (decide (x0.number > (999999999 : Int)))
                              (some (1 : Int))
                              (br (x0.kind == (4 : Int))
                                (bnd (r_script_checkCases x0.cases) fun t94_48 =>
                                some t94_48)
                                (some (0 : Int))))))))))))
            (br (decide ((x0.list.length : Int) > (0 : Int)))
              (br (x0.kind != (3 : Int))
                (br (x0.kind != (3 : Int))
                  (some (3 : Int))
                  (br (decide ((x0.text.length : Int) > (1000 : Int)))
                    (some (2 : Int))
                    (br (decide ((x0.list.length : Int) > (1000 : Int)))
                      (some (2 : Int))
                      (bnd (slices_ContainsFunc_string_string N x0.list ()) fun t61_49 =>
                      br (t61_49)
                        (some (2 : Int))
                        (br (decide ((x0.cases.length : Int) > (50 : Int)))
                          (some (2 : Int))
                          (bnd (script_isText N x0.text) fun t72_50 =>
                          br (!t72_50)
                            (some (3 : Int))
                            (bnd (slices_ContainsFunc_string_string_2 N x0.list ()) fun t77_51 =>
                            br (t77_51)
                              (some (3 : Int))
                              (br (decide (x0.number < (0 : Int)))
                                (some (1 : Int))
                                (br (decide (x0.number > (999999999 : Int)))
                                  (some (1 : Int))
                                  (br (x0.kind == (4 : Int))
                                    (bnd (r_script_checkCases x0.cases) fun t94_52 =>
                                    some t94_52)
                                    (some (0 : Int))))))))))))
                (br (decide ((x0.cases.length : Int) > (0 : Int)))
                  (br (x0.kind != (4 : Int))
                    (some (3 : Int))
                    (br (decide ((x0.text.length : Int) > (1000 : Int)))
                      (some (2 : Int))
                      (br (decide ((x0.list.length : Int) > (1000 : Int)))
                        (some (2 : Int))
                        (bnd (slices_ContainsFunc_string_string N x0.list ()) fun t61_53 =>
                        br (t61_53)
                          (some (2 : Int))
                          (br (decide ((x0.cases.length : Int) > (50 : Int)))
                            (some (2 : Int))
                            (bnd (script_isText N x0.text) fun t72_54 =>
                            br (!t72_54)
                              (some (3 : Int))
                              (bnd (slices_ContainsFunc_string_string_2 N x0.list ()) fun t77_55 =>
                              br (t77_55)
                                (some (3 : Int))
                                (br (decide (x0.number < (0 : Int)))
                                  (some (1 : Int))
                                  (br (decide (x0.number > (999999999 : Int)))
                                    (some (1 : Int))
                                    (br (x0.kind == (4 : Int))
                                      (bnd (r_script_checkCases x0.cases) fun t94_56 =>
                                      some t94_56)
                                      (some (0 : Int))))))))))))
                  (br (decide ((x0.text.length : Int) > (1000 : Int)))
                    (some (2 : Int))
                    (br (decide ((x0.list.length : Int) > (1000 : Int)))
                      (some (2 : Int))
                      (bnd (slices_ContainsFunc_string_string N x0.list ()) fun t61_57 =>
                      br (t61_57)
                        (some (2 : Int))
                        (br (decide ((x0.cases.length : Int) > (50 : Int)))
                          (some (2 : Int))
                          (bnd (script_isText N x0.text) fun t72_58 =>
                          br (!t72_58)
                            (some (3 : Int))
                            (bnd (slices_ContainsFunc_string_string_2 N x0.list ()) fun t77_59 =>
                            br (t77_59)
                              (some (3 : Int))
                              (br (decide (x0.number < (0 : Int)))
                                (some (1 : Int))
                                (br (decide (x0.number > (999999999 : Int)))
                                  (some (1 : Int))
                                  (br (x0.kind == (4 : Int))
                                    (bnd (r_script_checkCases x0.cases) fun t94_60 =>
                                    some t94_60)
                                    (some (0 : Int)))))))))))))
              (br (decide ((x0.cases.length : Int) > (0 : Int)))
                (br (x0.kind != (4 : Int))
                  (some (3 : Int))
                  (br (decide ((x0.text.length : Int) > (1000 : Int)))
                    (some (2 : Int))
                    (br (decide ((x0.list.length : Int) > (1000 : Int)))
                      (some (2 : Int))
                      (bnd (slices_ContainsFunc_string_string N x0.list ()) fun t61_61 =>
                      br (t61_61)
                        (some (2 : Int))
                        (br (decide ((x0.cases.length : Int) > (50 : Int)))
                          (some (2 : Int))
                          (bnd (script_isText N x0.text) fun t72_62 =>
                          br (!t72_62)
                            (some (3 : Int))
                            (bnd (slices_ContainsFunc_string_string_2 N x0.list ()) fun t77_63 =>
                            br (t77_63)
                              (some (3 : Int))
                              (br (decide (x0.number < (0 : Int)))
                                (some (1 : Int))
                                (br (decide (x0.number > (999999999 : Int)))
                                  (some (1 : Int))
                                  (br (x0.kind == (4 : Int))
                                    (bnd (r_script_checkCases x0.cases) fun t94_64 =>
                                    some t94_64)
                                    (some (0 : Int))))))))))))
                (br (decide ((x0.text.length : Int) > (1000 : Int)))
                  (some (2 : Int))
                  (br (decide ((x0.list.length : Int) > (1000 : Int)))
                    (some (2 : Int))
                    (bnd (slices_ContainsFunc_string_string N x0.list ()) fun t61_65 =>
                    br (t61_65)
                      (some (2 : Int))
                      (br (decide ((x0.cases.length : Int) > (50 : Int)))
                        (some (2 : Int))
                        (bnd (script_isText N x0.text) fun t72_66 =>
                        br (!t72_66)
                          (some (3 : Int))
                          (bnd (slices_ContainsFunc_string_string_2 N x0.list ()) fun t77_67 =>
                          br (t77_67)
                            (some (3 : Int))
                            (br (decide (x0.number < (0 : Int)))
                              (some (1 : Int))
                              (br (decide (x0.number > (999999999 : Int)))
                                (some (1 : Int))
                                (br (x0.kind == (4 : Int))
                                  (bnd (r_script_checkCases x0.cases) fun t94_68 =>
                                  some t94_68)
                                  (some (0 : Int))))))))))))))
          (br (decide ((x0.list.length : Int) > (0 : Int)))
            (br (x0.kind != (3 : Int))
              (br (x0.kind != (3 : Int))
                (some (3 : Int))
                (br (decide ((x0.text.length : Int) > (1000 : Int)))
                  (some (2 : Int))
                  (br (decide ((x0.list.length : Int) > (1000 : Int)))
                    (some (2 : Int))
                    (bnd (slices_ContainsFunc_string_string N x0.list ()) fun t61_69 =>
                    br (t61_69)
                      (some (2 : Int))
                      (br (decide ((x0.cases.length : Int) > (50 : Int)))
                        (some (2 : Int))
                        (bnd (script_isText N x0.text) fun t72_70 =>
                        br (!t72_70)
                          (some (3 : Int))
                          (bnd (slices_ContainsFunc_string_string_2 N x0.list ()) fun t77_71 =>
                          br (t77_71)
                            (some (3 : Int))
                            (br (decide (x0.number < (0 : Int)))
                              (some (1 : Int))
                              (br (decide (x0.number > (999999999 : Int)))
                                (some (1 : Int))
                                (br (x0.kind == (4 : Int))
                                  (bnd (r_script_checkCases x0.cases) fun t94_72 =>
                                  some t94_72)
                                  (some (0 : Int))))))))))))
              (br (decide ((x0.cases.length : Int) > (0 : Int)))
                (br (x0.kind != (4 : Int))
                  (some (3 : Int))
                  (br (decide ((x0.text.length : Int) > (1000 : Int)))
                    (some (2 : Int))
                    (br (decide ((x0.list.length : Int) > (1000 : Int)))
                      (some (2 : Int))
                      (bnd (slices_ContainsFunc_string_string N x0.list ()) fun t61_73 =>
                      br (t61_73)
                        (some (2 : Int))
                        (br (decide ((x0.cases.length : Int) > (50 : Int)))
                          (some (2 : Int))
                          (bnd (script_isText N x0.text) fun t72_74 =>
                          br (!t72_74)
                            (some (3 : Int))
                            (bnd (slices_ContainsFunc_string_string_2 N x0.list ()) fun t77_75 =>
                            br (t77_75)
                              (some (3 : Int))
                              (br (decide (x0.number < (0 : Int)))
                                (some (1 : Int))
                                (br (decide (x0.number > (999999999 : Int)))
                                  (some (1 : Int))
                                  (br (x0.kind == (4 : Int))
                                    (bnd (r_script_checkCases x0.cases) fun t94_76 =>
                                    some t94_76)
                                    (some (0 : Int))))))))))))
                (br (decide ((x0.text.length : Int) > (1000 : Int)))
                  (some (2 : Int))
                  (br (decide ((x0.list.length : Int) > (1000 : Int)))
                    (some (2 : Int))
                    (bnd (slices_ContainsFunc_string_string N x0.list ()) fun t61_77 =>
                    br (t61_77)
                      (some (2 : Int))
                      (br (decide ((x0.cases.length : Int) > (50 : Int)))
                        (some (2 : Int))
                        (bnd (script_isText N x0.text) fun t72_78 =>
                        br (!t72_78)
                          (some (3 : Int))
                          (bnd (slices_ContainsFunc_string_string_2 N x0.list ()) fun t77_79 =>
                          br (t77_79)
                            (some (3 : Int))
                            (br (decide (x0.number < (0 : Int)))
                              (some (1 : Int))
                              (br (decide (x0.number > (999999999 : Int)))
                                (some (1 : Int))
                                (br (x0.kind == (4 : Int))
                                  (bnd (r_script_checkCases x0.cases) fun t94_80 =>
                                  some t94_80)
                                  (some (0 : Int)))))))))))))
            (br (decide ((x0.cases.length : Int) > (0 : Int)))
              (br (x0.kind != (4 : Int))
                (some (3 : Int))
                (br (decide ((x0.text.length : Int) > (1000 : Int)))
                  (some (2 : Int))
                  (br (decide ((x0.list.length : Int) > (1000 : Int)))
                    (some (2 : Int))
                    (bnd (slices_ContainsFunc_string_string N x0.list ()) fun t61_81 =>
                    br (t61_81)
                      (some (2 : Int))
                      (br (decide ((x0.cases.length : Int) > (50 : Int)))
                        (some (2 : Int))
                        (bnd (script_isText N x0.text) fun t72_82 =>
                        br (!t72_82)
                          (some (3 : Int))
                          (bnd (slices_ContainsFunc_string_string_2 N x0.list ()) fun t77_83 =>
                          br (t77_83)
                            (some (3 : Int))
                            (br (decide (x0.number < (0 : Int)))
                              (some (1 : Int))
                              (br (decide (x0.number > (999999999 : Int)))
                                (some (1 : Int))
                                (br (x0.kind == (4 : Int))
                                  (bnd (r_script_checkCases x0.cases) fun t94_84 =>
                                  some t94_84)
                                  (some (0 : Int))))))))))))
              (br (decide ((x0.text.length : Int) > (1000 : Int)))
                (some (2 : Int))
                (br (decide ((x0.list.length : Int) > (1000 : Int)))
                  (some (2 : Int))
                  (bnd (slices_ContainsFunc_string_string N x0.list ()) fun t61_85 =>
                  br (t61_85)
                    (some (2 : Int))
                    (br (decide ((x0.cases.length : Int) > (50 : Int)))
                      (some (2 : Int))
                      (bnd (script_isText N x0.text) fun t72_86 =>
                      br (!t72_86)
                        (some (3 : Int))
                        (bnd (slices_ContainsFunc_string_string_2 N x0.list ()) fun t77_87 =>
                        br (t77_87)
                          (some (3 : Int))
                          (br (decide (x0.number < (0 : Int)))
                            (some (1 : Int))
                            (br (decide (x0.number > (999999999 : Int)))
                              (some (1 : Int))
                              (br (x0.kind == (4 : Int))
                                (bnd (r_script_checkCases x0.cases) fun t94_88 =>
                                some t94_88)
                                (some (0 : Int))))))))))))))))
abbrev script_CheckValue_sg (f : SV [.v (.rc .value)] → BV [] → Option (Int)) : AF := { ps := [.v (.rc .value)], bs := [], rs := [.v (.int .i64)], cs := [], R := Int, out := fun z => ((z, ()), ()), f := f }
abbrev script_CheckValue_pk : SV [.v (.int .i64)] → BV [] → Int := fun x _ => x.1
def script_CheckValue_fn (N : Nat) (r_script_checkCases : (List (Str × GValue)) → Option (Int)) : FuncId → Option Tmp → Option AF := fun f q =>
  match f with
    | 112 => match q with | some 61 => some (slices_ContainsFunc_string_string_sg fun x _ => slices_ContainsFunc_string_string N x.1 x.2.1) | some 77 => some (slices_ContainsFunc_string_string_2_sg fun x _ => slices_ContainsFunc_string_string_2 N x.1 x.2.1) | _ => none
    | 114 => some (script_isText_sg fun x _ => script_isText N x.1)
    | 116 => some (script_checkCases_sg fun x _ => r_script_checkCases x.1)
    | _ => none
theorem script_CheckValue_fn_ok (N : Nat) (r_script_checkCases : (List (Str × GValue)) → Option (Int)) (h_script_checkCases : Sound Tryd.prog GW B0G 116 (script_checkCases_sg fun x y => r_script_checkCases x.1)) : ∀ f q F, script_CheckValue_fn N r_script_checkCases f q = some F → Sound Tryd.prog GW B0G f F := by
  intro f q F h
  unfold script_CheckValue_fn at h
  split at h
  · split at h
    · cases h; exact slices_ContainsFunc_string_string_sound N
    · cases h; exact slices_ContainsFunc_string_string_2_sound N
    · cases h
  · cases h; exact script_isText_sound N
  · cases h; exact h_script_checkCases
  · cases h
def script_CheckValue_h : Nat → Hint := fun i =>
  match i with
  | _ => ⟨[], [], [], [], [], []⟩
abbrev script_CheckValue_E (N : Nat) (r_script_checkCases : (List (Str × GValue)) → Option (Int)) : Env := mkE script_CheckValue_h (script_CheckValue_fn N r_script_checkCases) (fun _ => false) (fun _ => false)
noncomputable def script_CheckValue_LP (N : Nat) (r_script_checkCases : (List (Str × GValue)) → Option (Int)) : Nat → Code → St → (Ex → St → Option Int) → Option Int := fun i c =>
  match i with
  | i => fun st k => iter (script_CheckValue_h i) (exec (script_CheckValue_E N r_script_checkCases) N c i) N st k
theorem script_CheckValue_core (N : Nat) (r_script_checkCases : (List (Str × GValue)) → Option (Int)) (x : SV [.v (.rc .value)]) (y : BV []) : runL (script_CheckValue_E N r_script_checkCases) Tryd.f85 (script_CheckValue_sg fun x _ => script_CheckValue N r_script_checkCases x.1) script_CheckValue_pk (script_CheckValue_LP N r_script_checkCases) x y = script_CheckValue N r_script_checkCases x.1 := by kernel_rfl
theorem script_CheckValue_sound (N : Nat) (r_script_checkCases : (List (Str × GValue)) → Option (Int)) (h_script_checkCases : Sound Tryd.prog GW B0G 116 (script_checkCases_sg fun x y => r_script_checkCases x.1)) : Sound Tryd.prog GW B0G 85 (script_CheckValue_sg fun x _ => script_CheckValue N r_script_checkCases x.1) :=
  runD_sound (mkE_ok script_CheckValue_h (script_CheckValue_fn N r_script_checkCases) _ _ (script_CheckValue_fn_ok N r_script_checkCases h_script_checkCases)) Tryd.func85 rfl Tryd.call85 (script_CheckValue_sg fun x _ => script_CheckValue N r_script_checkCases x.1) script_CheckValue_pk (fun _ _ => rfl) N (fun x y _ h => ((runL_eq (script_CheckValue_E N r_script_checkCases) N Tryd.f85 (script_CheckValue_sg fun x _ => script_CheckValue N r_script_checkCases x.1) script_CheckValue_pk (script_CheckValue_LP N r_script_checkCases) (show LoopsOk (script_CheckValue_LP N r_script_checkCases) (script_CheckValue_E N r_script_checkCases) N (resD (script_CheckValue_E N r_script_checkCases) Tryd.f85 (script_CheckValue_sg fun x _ => script_CheckValue N r_script_checkCases x.1) script_CheckValue_pk) [] from trivial) x y).trans (script_CheckValue_core N r_script_checkCases x y)).trans h)
def script_checkCases_b_L0T (N : Nat) (r_script_checkCases : (List (Str × GValue)) → Option (Int)) (x0 : List (Str × GValue)) (c10 : List (Str × GValue)) (c11 : Int) (k0 : Option Int) (self : Int → Option Int) (s12 : Int) : Option Int :=
  br (decide (s12 < c11))
    (bnd (geti c10 s12) fun t15 =>
    bnd (script_checkText N t15.1) fun t19 =>
    br (t19 != (0 : Int))
      (some t19)
      (bnd (slc x0 (0 : Int) s12) fun t25 =>
      bnd (slices_ContainsFunc_api_Case N t25 ((t15.1, GValue.mk t15.2.kind t15.2.text t15.2.number t15.2.list t15.2.cases), ())) fun t27 =>
      br (t27)
        (some (7 : Int))
        (br (t15.2.kind == (4 : Int))
          (some (4 : Int))
          (bnd (script_CheckValue N r_script_checkCases (GValue.mk t15.2.kind t15.2.text t15.2.number t15.2.list t15.2.cases)) fun t34 =>
          br (t34 != (0 : Int))
            (some t34)
            (bnd (geti x0 (0 : Int)) fun t42 =>
            br (t15.2.kind != t42.2.kind)
              (some (6 : Int))
              (self (IntKind.i64.wrap (s12 + (1 : Int)))))))))
    (k0)
def script_checkCases_b_L0 (N : Nat) (r_script_checkCases : (List (Str × GValue)) → Option (Int)) (x0 : List (Str × GValue)) (c10 : List (Str × GValue)) (c11 : Int) (k0 : Option Int) : Nat → Int → Option Int
  | 0, _ => none
  | n + 1, s12 => script_checkCases_b_L0T N r_script_checkCases x0 c10 c11 k0 (script_checkCases_b_L0 N r_script_checkCases x0 c10 c11 k0 n) s12
def script_checkCases_b (N : Nat) (r_script_checkCases : (List (Str × GValue)) → Option (Int)) (x0 : List (Str × GValue)) : Option Int :=
  br ((x0.length : Int) == (0 : Int))
    (some (9 : Int))
    (script_checkCases_b_L0 N r_script_checkCases x0 x0 (x0.length : Int) (some (0 : Int)) N (0 : Int))
abbrev script_checkCases_b_sg (f : SV [.v (.sl (.pr .str (.rc .value)))] → BV [] → Option (Int)) : AF := { ps := [.v (.sl (.pr .str (.rc .value)))], bs := [], rs := [.v (.int .i64)], cs := [], R := Int, out := fun z => ((z, ()), ()), f := f }
abbrev script_checkCases_b_pk : SV [.v (.int .i64)] → BV [] → Int := fun x _ => x.1
def script_checkCases_b_fn (N : Nat) (r_script_checkCases : (List (Str × GValue)) → Option (Int)) : FuncId → Option Tmp → Option AF := fun f _ =>
  match f with
    | 85 => some (script_CheckValue_sg fun x _ => script_CheckValue N r_script_checkCases x.1)
    | 145 => some (script_checkText_sg fun x _ => script_checkText N x.1)
    | 146 => some (slices_ContainsFunc_api_Case_sg fun x _ => slices_ContainsFunc_api_Case N x.1 x.2.1)
    | 147 => some (noneAF [.v (.ptr (.pr .str (.rc .value)))])
    | _ => none
theorem script_checkCases_b_fn_ok (N : Nat) (r_script_checkCases : (List (Str × GValue)) → Option (Int)) (h_script_checkCases : Sound Tryd.prog GW B0G 116 (script_checkCases_sg fun x y => r_script_checkCases x.1)) : ∀ f q F, script_checkCases_b_fn N r_script_checkCases f q = some F → Sound Tryd.prog GW B0G f F := by
  intro f q F h
  unfold script_checkCases_b_fn at h
  split at h
  · cases h; exact script_CheckValue_sound N r_script_checkCases h_script_checkCases
  · cases h; exact script_checkText_sound N
  · cases h; exact slices_ContainsFunc_api_Case_sound N
  · cases h; exact noneAF_sound Tryd.call147 _
  · cases h
def script_checkCases_b_h : Nat → Hint := fun i =>
  match i with
  | 0 => ⟨[], [0, 10, 11, 12], [], [], [], []⟩
  | _ => ⟨[], [], [], [], [], []⟩
abbrev script_checkCases_b_E (N : Nat) (r_script_checkCases : (List (Str × GValue)) → Option (Int)) : Env := mkE script_checkCases_b_h (script_checkCases_b_fn N r_script_checkCases) (fun _ => false) (fun _ => false)
abbrev script_checkCases_b_L0_fs : List (Nat × Sl) := [(0, .v (.sl (.pr .str (.rc .value)))), (10, .v (.sl (.pr .str (.rc .value)))), (11, .v (.int .i64)), (12, .v (.int .i64))]
abbrev script_checkCases_b_L0_bs : List (Nat × Sb) := []
def script_checkCases_b_L0_hd (x0 : List (Str × GValue)) (c10 : List (Str × GValue)) (c11 : Int) (s12 : Int) : St := ⟨48, [(0, .v (.sl (.pr .str (.rc .value))) x0), (10, .v (.sl (.pr .str (.rc .value))) c10), (11, .v (.int .i64) c11), (12, .v (.int .i64) s12)], []⟩
def script_checkCases_b_L0_tl0 (_x0 : List (Str × GValue)) (_c10 : List (Str × GValue)) (_c11 : Int) : St := ⟨48, [], []⟩
def script_checkCases_b_L0_G (N : Nat) (r_script_checkCases : (List (Str × GValue)) → Option (Int)) (x0 : List (Str × GValue)) (c10 : List (Str × GValue)) (c11 : Int) (s12 : Int) (k : Ex → St → Option Int) : Option Int :=
  script_checkCases_b_L0 N r_script_checkCases x0 c10 c11 (k (.exit 0) (script_checkCases_b_L0_tl0 x0 c10 c11)) N s12
abbrev script_checkCases_b_L0_F (N : Nat) (r_script_checkCases : (List (Str × GValue)) → Option (Int)) : FV script_checkCases_b_L0_fs → HV script_checkCases_b_L0_bs → (Ex → St → Option Int) → Option Int := fun x _ k => script_checkCases_b_L0_G N r_script_checkCases x.1 x.2.1 x.2.2.1 x.2.2.2.1 k
noncomputable def script_checkCases_b_LP (N : Nat) (r_script_checkCases : (List (Str × GValue)) → Option (Int)) : Nat → Code → St → (Ex → St → Option Int) → Option Int := fun i c =>
  match i with
  | 0 => (LPc 48 script_checkCases_b_L0_fs script_checkCases_b_L0_bs (script_checkCases_b_L0_F N r_script_checkCases) (fun st k => iter (script_checkCases_b_h 0) (exec (script_checkCases_b_E N r_script_checkCases) N c 0) N st k))
  | i => fun st k => iter (script_checkCases_b_h i) (exec (script_checkCases_b_E N r_script_checkCases) N c i) N st k
theorem script_checkCases_b_L0_step (N : Nat) (r_script_checkCases : (List (Str × GValue)) → Option (Int)) (x0 : List (Str × GValue)) (c10 : List (Str × GValue)) (c11 : Int) (KX : Nat → St → Option Int) (I : St → Option Int) (s12 : Int) :
    execL (script_checkCases_b_LP N r_script_checkCases) (script_checkCases_b_E N r_script_checkCases) (cAt (bodyOf Tryd.f116) [true, true, false, true, false, false]) 0 (script_checkCases_b_L0_hd x0 c10 c11 s12) (roundK (script_checkCases_b_h 0) I KX (resD (script_checkCases_b_E N r_script_checkCases) Tryd.f116 (script_checkCases_b_sg fun x _ => script_checkCases_b N r_script_checkCases x.1) script_checkCases_b_pk)) = script_checkCases_b_L0T N r_script_checkCases x0 c10 c11 (KX 0 (script_checkCases_b_L0_tl0 x0 c10 c11)) (fun s12 => I (script_checkCases_b_L0_hd x0 c10 c11 s12)) s12 := by kernel_rfl
theorem script_checkCases_b_L0_ok (N : Nat) (r_script_checkCases : (List (Str × GValue)) → Option (Int)) : ∀ x y k, (∀ st, k .ret st = (resD (script_checkCases_b_E N r_script_checkCases) Tryd.f116 (script_checkCases_b_sg fun x _ => script_checkCases_b N r_script_checkCases x.1) script_checkCases_b_pk) st) → iter (script_checkCases_b_h 0) (exec (script_checkCases_b_E N r_script_checkCases) N (cAt (bodyOf Tryd.f116) [true, true, false, true, false, false]) 0) N ⟨48, unF script_checkCases_b_L0_fs x, unH script_checkCases_b_L0_bs y⟩ k = script_checkCases_b_L0_F N r_script_checkCases x y k := fun x _ k hk =>
  iter_link (S := (Int) × Unit) (script_checkCases_b_h 0) _ (execL (script_checkCases_b_LP N r_script_checkCases) (script_checkCases_b_E N r_script_checkCases) (cAt (bodyOf Tryd.f116) [true, true, false, true, false, false]) 0) (resD (script_checkCases_b_E N r_script_checkCases) Tryd.f116 (script_checkCases_b_sg fun x _ => script_checkCases_b N r_script_checkCases x.1) script_checkCases_b_pk) (fun st k hk => execL_eq _ _ N _ (cAt (bodyOf Tryd.f116) [true, true, false, true, false, false]) 0 (show LoopsOk (script_checkCases_b_LP N r_script_checkCases) (script_checkCases_b_E N r_script_checkCases) N (resD (script_checkCases_b_E N r_script_checkCases) Tryd.f116 (script_checkCases_b_sg fun x _ => script_checkCases_b N r_script_checkCases x.1) script_checkCases_b_pk) [] from trivial) st k hk) (fun s => script_checkCases_b_L0_hd x.1 x.2.1 x.2.2.1 s.1) k hk
    (fun self s => script_checkCases_b_L0T N r_script_checkCases x.1 x.2.1 x.2.2.1 (k (.exit 0) (script_checkCases_b_L0_tl0 x.1 x.2.1 x.2.2.1)) (fun s12 => self (s12, ())) s.1) (fun n s => script_checkCases_b_L0 N r_script_checkCases x.1 x.2.1 x.2.2.1 (k (.exit 0) (script_checkCases_b_L0_tl0 x.1 x.2.1 x.2.2.1)) n s.1) (fun _ => rfl) (fun _ _ => rfl)
    (fun I s => script_checkCases_b_L0_step N r_script_checkCases x.1 x.2.1 x.2.2.1 (fun j => k (.exit j)) I s.1) N (x.2.2.2.1, ())
theorem script_checkCases_b_lp0 (N : Nat) (r_script_checkCases : (List (Str × GValue)) → Option (Int)) : ∀ st k, (∀ st, k .ret st = (resD (script_checkCases_b_E N r_script_checkCases) Tryd.f116 (script_checkCases_b_sg fun x _ => script_checkCases_b N r_script_checkCases x.1) script_checkCases_b_pk) st) → script_checkCases_b_LP N r_script_checkCases 0 (cAt (bodyOf Tryd.f116) [true, true, false, true, false, false]) st k = iter (Env.hint (script_checkCases_b_E N r_script_checkCases) 0) (exec (script_checkCases_b_E N r_script_checkCases) N (cAt (bodyOf Tryd.f116) [true, true, false, true, false, false]) 0) N st k := fun st k hk => LPc_eq 48 script_checkCases_b_L0_fs script_checkCases_b_L0_bs _ _ (resD (script_checkCases_b_E N r_script_checkCases) Tryd.f116 (script_checkCases_b_sg fun x _ => script_checkCases_b N r_script_checkCases x.1) script_checkCases_b_pk) (script_checkCases_b_L0_ok N r_script_checkCases) _ st k hk (rfl)
theorem script_checkCases_b_core (N : Nat) (r_script_checkCases : (List (Str × GValue)) → Option (Int)) (x : SV [.v (.sl (.pr .str (.rc .value)))]) (y : BV []) : runL (script_checkCases_b_E N r_script_checkCases) Tryd.f116 (script_checkCases_b_sg fun x _ => script_checkCases_b N r_script_checkCases x.1) script_checkCases_b_pk (script_checkCases_b_LP N r_script_checkCases) x y = script_checkCases_b N r_script_checkCases x.1 := by kernel_rfl
theorem script_checkCases_b_sound (N : Nat) (r_script_checkCases : (List (Str × GValue)) → Option (Int)) (h_script_checkCases : Sound Tryd.prog GW B0G 116 (script_checkCases_sg fun x y => r_script_checkCases x.1)) : Sound Tryd.prog GW B0G 116 (script_checkCases_b_sg fun x _ => script_checkCases_b N r_script_checkCases x.1) :=
  runD_sound (mkE_ok script_checkCases_b_h (script_checkCases_b_fn N r_script_checkCases) _ _ (script_checkCases_b_fn_ok N r_script_checkCases h_script_checkCases)) Tryd.func116 rfl Tryd.call116 (script_checkCases_b_sg fun x _ => script_checkCases_b N r_script_checkCases x.1) script_checkCases_b_pk (fun _ _ => rfl) N (fun x y _ h => ((runL_eq (script_checkCases_b_E N r_script_checkCases) N Tryd.f116 (script_checkCases_b_sg fun x _ => script_checkCases_b N r_script_checkCases x.1) script_checkCases_b_pk (script_checkCases_b_LP N r_script_checkCases) (show LoopsOk (script_checkCases_b_LP N r_script_checkCases) (script_checkCases_b_E N r_script_checkCases) N (resD (script_checkCases_b_E N r_script_checkCases) Tryd.f116 (script_checkCases_b_sg fun x _ => script_checkCases_b N r_script_checkCases x.1) script_checkCases_b_pk) [(0, (cAt (bodyOf Tryd.f116) [true, true, false, true, false, false]))] from ⟨script_checkCases_b_lp0 N r_script_checkCases, trivial⟩) x y).trans (script_checkCases_b_core N r_script_checkCases x y)).trans h)
def script_checkCases (N : Nat) : Nat → (List (Str × GValue)) → Option (Int)
  | 0 => fun _ => none
  | d + 1 => script_checkCases_b N (script_checkCases N d)
theorem script_checkCases_sound (N : Nat) : ∀ d, Sound Tryd.prog GW B0G 116 (script_checkCases_sg fun x y => script_checkCases N d x.1)
  | 0 => Sound.never Tryd.call116 (fun _ _ => rfl)
  | d + 1 => script_checkCases_b_sound N (script_checkCases N d) (script_checkCases_sound N d)
def slices_Clone_api_Case (_N : Nat) (x0 : List (Str × GValue)) : Option (List (Str × GValue)) :=
  br ((x0).isEmpty)
    (both
      (some ([] : List (Str × GValue)))
      (br (decide ((([] : List (Str × GValue)).length + x0.length) * (24 * Ty.sz (.pr .str (.rc .value))) ≤ 140737488355328))
        (some (([] : List (Str × GValue)) ++ x0))
        none))
    (br (decide ((([] : List (Str × GValue)).length + x0.length) * (24 * Ty.sz (.pr .str (.rc .value))) ≤ 140737488355328))
      (some (([] : List (Str × GValue)) ++ x0))
      none)
abbrev slices_Clone_api_Case_sg (f : SV [.v (.sl (.pr .str (.rc .value)))] → BV [] → Option (List (Str × GValue))) : AF := { ps := [.v (.sl (.pr .str (.rc .value)))], bs := [], rs := [.row 0], cs := [.row 81 (.pr .str (.rc .value)) true], R := List (Str × GValue), out := fun z => (((), ()), (z, ())), f := f }
abbrev slices_Clone_api_Case_pk : SV [.row 0] → BV [.row 81 (.pr .str (.rc .value)) true] → (List (Str × GValue)) := fun _ y => y.1
def slices_Clone_api_Case_fn (_N : Nat) : FuncId → Option Tmp → Option AF := fun f _ =>
  match f with
    | _ => none
theorem slices_Clone_api_Case_fn_ok (N : Nat) : ∀ f q F, slices_Clone_api_Case_fn N f q = some F → Sound Tryd.prog GW B0G f F := by
  intro f q F h
  unfold slices_Clone_api_Case_fn at h
  split at h
  · cases h
def slices_Clone_api_Case_h : Nat → Hint := fun i =>
  match i with
  | _ => ⟨[], [], [], [], [], []⟩
abbrev slices_Clone_api_Case_E (N : Nat) : Env := mkE slices_Clone_api_Case_h (slices_Clone_api_Case_fn N) (fun i => match i with | 2 => true | 5 => true | _ => false) (fun _ => false)
noncomputable def slices_Clone_api_Case_LP (N : Nat) : Nat → Code → St → (Ex → St → Option (List (Str × GValue))) → Option (List (Str × GValue)) := fun i c =>
  match i with
  | i => fun st k => iter (slices_Clone_api_Case_h i) (exec (slices_Clone_api_Case_E N) N c i) N st k
theorem slices_Clone_api_Case_core (N : Nat) (x : SV [.v (.sl (.pr .str (.rc .value)))]) (y : BV []) : runL (slices_Clone_api_Case_E N) Tryd.f148 (slices_Clone_api_Case_sg fun x _ => slices_Clone_api_Case N x.1) slices_Clone_api_Case_pk (slices_Clone_api_Case_LP N) x y = slices_Clone_api_Case N x.1 := by kernel_rfl
theorem slices_Clone_api_Case_sound (N : Nat) : Sound Tryd.prog GW B0G 148 (slices_Clone_api_Case_sg fun x _ => slices_Clone_api_Case N x.1) :=
  runD_sound (mkE_ok slices_Clone_api_Case_h (slices_Clone_api_Case_fn N) _ _ (slices_Clone_api_Case_fn_ok N)) Tryd.func148 rfl Tryd.call148 (slices_Clone_api_Case_sg fun x _ => slices_Clone_api_Case N x.1) slices_Clone_api_Case_pk (fun _ _ => rfl) N (fun x y _ h => ((runL_eq (slices_Clone_api_Case_E N) N Tryd.f148 (slices_Clone_api_Case_sg fun x _ => slices_Clone_api_Case N x.1) slices_Clone_api_Case_pk (slices_Clone_api_Case_LP N) (show LoopsOk (slices_Clone_api_Case_LP N) (slices_Clone_api_Case_E N) N (resD (slices_Clone_api_Case_E N) Tryd.f148 (slices_Clone_api_Case_sg fun x _ => slices_Clone_api_Case N x.1) slices_Clone_api_Case_pk) [] from trivial) x y).trans (slices_Clone_api_Case_core N x y)).trans h)
abbrev script_Own_sg (f : SV [.v (.rc .value)] → BV [] → Option (GValue)) : AF := { ps := [.v (.rc .value)], bs := [], rs := [.v (.rc .value)], cs := [], R := GValue, out := fun z => ((z, ()), ()), f := f }
def script_Own_b_L0T (_N : Nat) (r_script_Own : GValue → Option (GValue)) (c14 : Int) (k0 : (List (Str × GValue)) → Option GValue) (self : Int → (List (Str × GValue)) → Option GValue) (s15 : Int) (w100900 : List (Str × GValue)) : Option GValue :=
  br (decide (s15 < c14))
    (br (decide (0 ≤ s15 ∧ s15 < (w100900.length : Int)))
      (bnd (geti w100900 s15) fun t26 =>
      bnd (r_script_Own t26.2) fun t27 =>
      br (decide (0 ≤ s15 ∧ s15 < (w100900.length : Int)))
        (bnd (geti w100900 s15) fun u =>
        self (IntKind.i64.wrap (s15 + (1 : Int))) (seti w100900 s15 (u.1, t27)))
        none)
      none)
    (k0 w100900)
def script_Own_b_L0 (N : Nat) (r_script_Own : GValue → Option (GValue)) (c14 : Int) (k0 : (List (Str × GValue)) → Option GValue) : Nat → Int → (List (Str × GValue)) → Option GValue
  | 0, _, _ => none
  | n + 1, s15, w100900 => script_Own_b_L0T N r_script_Own c14 k0 (script_Own_b_L0 N r_script_Own c14 k0 n) s15 w100900
def script_Own_b (N : Nat) (r_script_Own : GValue → Option (GValue)) (x0 : GValue) : Option GValue :=
  bnd (slices_Clone_string_string N x0.list) fun t6 =>
  bnd (slices_Clone_api_Case N x0.cases) fun t9 =>
  script_Own_b_L0 N r_script_Own (t9.length : Int) (fun o0_w100900 =>
      some (GValue.mk x0.kind x0.text x0.number t6 o0_w100900)) N (0 : Int) t9
abbrev script_Own_b_sg (f : SV [.v (.rc .value)] → BV [] → Option (GValue)) : AF := { ps := [.v (.rc .value)], bs := [], rs := [.v (.rc .value)], cs := [], R := GValue, out := fun z => ((z, ()), ()), f := f }
abbrev script_Own_b_pk : SV [.v (.rc .value)] → BV [] → GValue := fun x _ => x.1
def script_Own_b_fn (N : Nat) (r_script_Own : GValue → Option (GValue)) : FuncId → Option Tmp → Option AF := fun f _ =>
  match f with
    | 33 => some (slices_Clone_string_string_sg fun x _ => slices_Clone_string_string N x.1)
    | 117 => some (script_Own_sg fun x _ => r_script_Own x.1)
    | 148 => some (slices_Clone_api_Case_sg fun x _ => slices_Clone_api_Case N x.1)
    | _ => none
theorem script_Own_b_fn_ok (N : Nat) (r_script_Own : GValue → Option (GValue)) (h_script_Own : Sound Tryd.prog GW B0G 117 (script_Own_sg fun x y => r_script_Own x.1)) : ∀ f q F, script_Own_b_fn N r_script_Own f q = some F → Sound Tryd.prog GW B0G f F := by
  intro f q F h
  unfold script_Own_b_fn at h
  split at h
  · cases h; exact slices_Clone_string_string_sound N
  · cases h; exact h_script_Own
  · cases h; exact slices_Clone_api_Case_sound N
  · cases h
def script_Own_b_h : Nat → Hint := fun i =>
  match i with
  | 0 => ⟨[], [1, 2, 14, 15], [1001, 1002, 100600, 100900], [1, 2], [1001, 1002, 100600, 100900], []⟩
  | 100001 => ⟨[1001], [], [], [], [], []⟩
  | 100005 => ⟨[1001, 100600, 100900], [], [], [], [], []⟩
  | _ => ⟨[], [], [], [], [], []⟩
abbrev script_Own_b_E (N : Nat) (r_script_Own : GValue → Option (GValue)) : Env := mkE script_Own_b_h (script_Own_b_fn N r_script_Own) (fun _ => false) (fun _ => false)
abbrev script_Own_b_L0_fs : List (Nat × Sl) := [(1, .box 1001 0), (2, .box 1002 0), (14, .v (.int .i64)), (15, .v (.int .i64))]
abbrev script_Own_b_L0_bs : List (Nat × Sb) := [(1001, .cells [.v (.int .i64), .v .str, .v (.int .i64), .row 100600, .row 100900]), (1002, .cells [.v (.int .i64), .v .str, .v (.int .i64), .nilS, .nilS]), (100600, .row 9 .str true), (100900, .row 81 (.pr .str (.rc .value)) true)]
def script_Own_b_L0_hd (c14 : Int) (c1001_0 : Int) (c1001_1 : Str) (c1001_2 : Int) (c1002_0 : Int) (c1002_1 : Str) (c1002_2 : Int) (t6 : List Str) (s15 : Int) (w100900 : List (Str × GValue)) : St := ⟨32, [(1, .box 1001 0), (2, .box 1002 0), (14, .v (.int .i64) c14), (15, .v (.int .i64) s15)], [(1001, .cells [.v (.int .i64) c1001_0, .v .str c1001_1, .v (.int .i64) c1001_2, .row 100600, .row 100900]), (1002, .cells [.v (.int .i64) c1002_0, .v .str c1002_1, .v (.int .i64) c1002_2, .nilS, .nilS]), (100600, .row 9 .str true t6), (100900, .row 81 (.pr .str (.rc .value)) true w100900)]⟩
def script_Own_b_L0_tl0 (_c14 : Int) (c1001_0 : Int) (c1001_1 : Str) (c1001_2 : Int) (c1002_0 : Int) (c1002_1 : Str) (c1002_2 : Int) (t6 : List Str) (o0_w100900 : List (Str × GValue)) : St := ⟨32, [(1, .box 1001 0), (2, .box 1002 0)], [(1001, .cells [.v (.int .i64) c1001_0, .v .str c1001_1, .v (.int .i64) c1001_2, .row 100600, .row 100900]), (1002, .cells [.v (.int .i64) c1002_0, .v .str c1002_1, .v (.int .i64) c1002_2, .nilS, .nilS]), (100600, .row 9 .str true t6), (100900, .row 81 (.pr .str (.rc .value)) true o0_w100900)]⟩
def script_Own_b_L0_G (N : Nat) (r_script_Own : GValue → Option (GValue)) (c14 : Int) (c1001_0 : Int) (c1001_1 : Str) (c1001_2 : Int) (c1002_0 : Int) (c1002_1 : Str) (c1002_2 : Int) (t6 : List Str) (s15 : Int) (w100900 : List (Str × GValue)) (k : Ex → St → Option GValue) : Option GValue :=
  script_Own_b_L0 N r_script_Own c14 (fun o0_w100900 => k (.exit 0) (script_Own_b_L0_tl0 c14 c1001_0 c1001_1 c1001_2 c1002_0 c1002_1 c1002_2 t6 o0_w100900)) N s15 w100900
abbrev script_Own_b_L0_F (N : Nat) (r_script_Own : GValue → Option (GValue)) : FV script_Own_b_L0_fs → HV script_Own_b_L0_bs → (Ex → St → Option GValue) → Option GValue := fun x y k => script_Own_b_L0_G N r_script_Own x.2.2.1 y.1.1 y.1.2.1 y.1.2.2.1 y.2.1.1 y.2.1.2.1 y.2.1.2.2.1 y.2.2.1 x.2.2.2.1 y.2.2.2.1 k
noncomputable def script_Own_b_LP (N : Nat) (r_script_Own : GValue → Option (GValue)) : Nat → Code → St → (Ex → St → Option GValue) → Option GValue := fun i c =>
  match i with
  | 0 => (LPc 32 script_Own_b_L0_fs script_Own_b_L0_bs (script_Own_b_L0_F N r_script_Own) (fun st k => iter (script_Own_b_h 0) (exec (script_Own_b_E N r_script_Own) N c 0) N st k))
  | i => fun st k => iter (script_Own_b_h i) (exec (script_Own_b_E N r_script_Own) N c i) N st k
theorem script_Own_b_L0_step (N : Nat) (r_script_Own : GValue → Option (GValue)) (c14 : Int) (c1001_0 : Int) (c1001_1 : Str) (c1001_2 : Int) (c1002_0 : Int) (c1002_1 : Str) (c1002_2 : Int) (t6 : List Str) (KX : Nat → St → Option GValue) (I : St → Option GValue) (s15 : Int) (w100900 : List (Str × GValue)) :
    execL (script_Own_b_LP N r_script_Own) (script_Own_b_E N r_script_Own) (cAt (bodyOf Tryd.f117) [true, true, false, true, false, false]) 0 (script_Own_b_L0_hd c14 c1001_0 c1001_1 c1001_2 c1002_0 c1002_1 c1002_2 t6 s15 w100900) (roundK (script_Own_b_h 0) I KX (resD (script_Own_b_E N r_script_Own) Tryd.f117 (script_Own_b_sg fun x _ => script_Own_b N r_script_Own x.1) script_Own_b_pk)) = script_Own_b_L0T N r_script_Own c14 (fun o0_w100900 => KX 0 (script_Own_b_L0_tl0 c14 c1001_0 c1001_1 c1001_2 c1002_0 c1002_1 c1002_2 t6 o0_w100900)) (fun s15 w100900 => I (script_Own_b_L0_hd c14 c1001_0 c1001_1 c1001_2 c1002_0 c1002_1 c1002_2 t6 s15 w100900)) s15 w100900 := by kernel_rfl
theorem script_Own_b_L0_ok (N : Nat) (r_script_Own : GValue → Option (GValue)) : ∀ x y k, (∀ st, k .ret st = (resD (script_Own_b_E N r_script_Own) Tryd.f117 (script_Own_b_sg fun x _ => script_Own_b N r_script_Own x.1) script_Own_b_pk) st) → iter (script_Own_b_h 0) (exec (script_Own_b_E N r_script_Own) N (cAt (bodyOf Tryd.f117) [true, true, false, true, false, false]) 0) N ⟨32, unF script_Own_b_L0_fs x, unH script_Own_b_L0_bs y⟩ k = script_Own_b_L0_F N r_script_Own x y k := fun x y k hk =>
  iter_link (S := (Int) × (List (Str × GValue)) × Unit) (script_Own_b_h 0) _ (execL (script_Own_b_LP N r_script_Own) (script_Own_b_E N r_script_Own) (cAt (bodyOf Tryd.f117) [true, true, false, true, false, false]) 0) (resD (script_Own_b_E N r_script_Own) Tryd.f117 (script_Own_b_sg fun x _ => script_Own_b N r_script_Own x.1) script_Own_b_pk) (fun st k hk => execL_eq _ _ N _ (cAt (bodyOf Tryd.f117) [true, true, false, true, false, false]) 0 (show LoopsOk (script_Own_b_LP N r_script_Own) (script_Own_b_E N r_script_Own) N (resD (script_Own_b_E N r_script_Own) Tryd.f117 (script_Own_b_sg fun x _ => script_Own_b N r_script_Own x.1) script_Own_b_pk) [] from trivial) st k hk) (fun s => script_Own_b_L0_hd x.2.2.1 y.1.1 y.1.2.1 y.1.2.2.1 y.2.1.1 y.2.1.2.1 y.2.1.2.2.1 y.2.2.1 s.1 s.2.1) k hk
    (fun self s => script_Own_b_L0T N r_script_Own x.2.2.1 (fun o0_w100900 => k (.exit 0) (script_Own_b_L0_tl0 x.2.2.1 y.1.1 y.1.2.1 y.1.2.2.1 y.2.1.1 y.2.1.2.1 y.2.1.2.2.1 y.2.2.1 o0_w100900)) (fun s15 w100900 => self (s15, w100900, ())) s.1 s.2.1) (fun n s => script_Own_b_L0 N r_script_Own x.2.2.1 (fun o0_w100900 => k (.exit 0) (script_Own_b_L0_tl0 x.2.2.1 y.1.1 y.1.2.1 y.1.2.2.1 y.2.1.1 y.2.1.2.1 y.2.1.2.2.1 y.2.2.1 o0_w100900)) n s.1 s.2.1) (fun _ => rfl) (fun _ _ => rfl)
    (fun I s => script_Own_b_L0_step N r_script_Own x.2.2.1 y.1.1 y.1.2.1 y.1.2.2.1 y.2.1.1 y.2.1.2.1 y.2.1.2.2.1 y.2.2.1 (fun j => k (.exit j)) I s.1 s.2.1) N (x.2.2.2.1, y.2.2.2.1, ())
theorem script_Own_b_lp0 (N : Nat) (r_script_Own : GValue → Option (GValue)) : ∀ st k, (∀ st, k .ret st = (resD (script_Own_b_E N r_script_Own) Tryd.f117 (script_Own_b_sg fun x _ => script_Own_b N r_script_Own x.1) script_Own_b_pk) st) → script_Own_b_LP N r_script_Own 0 (cAt (bodyOf Tryd.f117) [true, true, false, true, false, false]) st k = iter (Env.hint (script_Own_b_E N r_script_Own) 0) (exec (script_Own_b_E N r_script_Own) N (cAt (bodyOf Tryd.f117) [true, true, false, true, false, false]) 0) N st k := fun st k hk => LPc_eq 32 script_Own_b_L0_fs script_Own_b_L0_bs _ _ (resD (script_Own_b_E N r_script_Own) Tryd.f117 (script_Own_b_sg fun x _ => script_Own_b N r_script_Own x.1) script_Own_b_pk) (script_Own_b_L0_ok N r_script_Own) _ st k hk (rfl)
theorem script_Own_b_core (N : Nat) (r_script_Own : GValue → Option (GValue)) (x : SV [.v (.rc .value)]) (y : BV []) : runL (script_Own_b_E N r_script_Own) Tryd.f117 (script_Own_b_sg fun x _ => script_Own_b N r_script_Own x.1) script_Own_b_pk (script_Own_b_LP N r_script_Own) x y = script_Own_b N r_script_Own x.1 := by kernel_rfl
theorem script_Own_b_sound (N : Nat) (r_script_Own : GValue → Option (GValue)) (h_script_Own : Sound Tryd.prog GW B0G 117 (script_Own_sg fun x y => r_script_Own x.1)) : Sound Tryd.prog GW B0G 117 (script_Own_b_sg fun x _ => script_Own_b N r_script_Own x.1) :=
  runD_sound (mkE_ok script_Own_b_h (script_Own_b_fn N r_script_Own) _ _ (script_Own_b_fn_ok N r_script_Own h_script_Own)) Tryd.func117 rfl Tryd.call117 (script_Own_b_sg fun x _ => script_Own_b N r_script_Own x.1) script_Own_b_pk (fun _ _ => rfl) N (fun x y _ h => ((runL_eq (script_Own_b_E N r_script_Own) N Tryd.f117 (script_Own_b_sg fun x _ => script_Own_b N r_script_Own x.1) script_Own_b_pk (script_Own_b_LP N r_script_Own) (show LoopsOk (script_Own_b_LP N r_script_Own) (script_Own_b_E N r_script_Own) N (resD (script_Own_b_E N r_script_Own) Tryd.f117 (script_Own_b_sg fun x _ => script_Own_b N r_script_Own x.1) script_Own_b_pk) [(0, (cAt (bodyOf Tryd.f117) [true, true, false, true, false, false]))] from ⟨script_Own_b_lp0 N r_script_Own, trivial⟩) x y).trans (script_Own_b_core N r_script_Own x y)).trans h)
def script_Own (N : Nat) : Nat → GValue → Option (GValue)
  | 0 => fun _ => none
  | d + 1 => script_Own_b N (script_Own N d)
theorem script_Own_sound (N : Nat) : ∀ d, Sound Tryd.prog GW B0G 117 (script_Own_sg fun x y => script_Own N d x.1)
  | 0 => Sound.never Tryd.call117 (fun _ _ => rfl)
  | d + 1 => script_Own_b_sound N (script_Own N d) (script_Own_sound N d)
def config_conditionOf_1 (_N : Nat) (x0 : Str × List (Str × Str) × List (Str × Str)) (x1 : Str) : Option Bool :=
  some (x0.1 == x1)
abbrev config_conditionOf_1_sg (f : SV [.v (.pr .str (.pr (.sl (.pr .str .str)) (.sl (.pr .str .str)))), .v (.ptr .str)] → BV [] → Option (Bool)) : AF := { ps := [.v (.pr .str (.pr (.sl (.pr .str .str)) (.sl (.pr .str .str)))), .v (.ptr .str)], bs := [], rs := [.v .bool], cs := [], R := Bool, out := fun z => ((z, ()), ()), f := f }
abbrev config_conditionOf_1_pk : SV [.v .bool] → BV [] → Bool := fun x _ => x.1
def config_conditionOf_1_fn (_N : Nat) : FuncId → Option Tmp → Option AF := fun f _ =>
  match f with
    | _ => none
theorem config_conditionOf_1_fn_ok (N : Nat) : ∀ f q F, config_conditionOf_1_fn N f q = some F → Sound Tryd.prog GW B0G f F := by
  intro f q F h
  unfold config_conditionOf_1_fn at h
  split at h
  · cases h
def config_conditionOf_1_h : Nat → Hint := fun i =>
  match i with
  | _ => ⟨[], [], [], [], [], []⟩
abbrev config_conditionOf_1_E (N : Nat) : Env := mkE config_conditionOf_1_h (config_conditionOf_1_fn N) (fun _ => false) (fun _ => false)
noncomputable def config_conditionOf_1_LP (N : Nat) : Nat → Code → St → (Ex → St → Option Bool) → Option Bool := fun i c =>
  match i with
  | i => fun st k => iter (config_conditionOf_1_h i) (exec (config_conditionOf_1_E N) N c i) N st k
theorem config_conditionOf_1_core (N : Nat) (x : SV [.v (.pr .str (.pr (.sl (.pr .str .str)) (.sl (.pr .str .str)))), .v (.ptr .str)]) (y : BV []) : runL (config_conditionOf_1_E N) Tryd.f150 (config_conditionOf_1_sg fun x _ => config_conditionOf_1 N x.1 x.2.1) config_conditionOf_1_pk (config_conditionOf_1_LP N) x y = config_conditionOf_1 N x.1 x.2.1 := by kernel_rfl
theorem config_conditionOf_1_sound (N : Nat) : Sound Tryd.prog GW B0G 150 (config_conditionOf_1_sg fun x _ => config_conditionOf_1 N x.1 x.2.1) :=
  runD_sound (mkE_ok config_conditionOf_1_h (config_conditionOf_1_fn N) _ _ (config_conditionOf_1_fn_ok N)) Tryd.func150 rfl Tryd.call150 (config_conditionOf_1_sg fun x _ => config_conditionOf_1 N x.1 x.2.1) config_conditionOf_1_pk (fun _ _ => rfl) N (fun x y _ h => ((runL_eq (config_conditionOf_1_E N) N Tryd.f150 (config_conditionOf_1_sg fun x _ => config_conditionOf_1 N x.1 x.2.1) config_conditionOf_1_pk (config_conditionOf_1_LP N) (show LoopsOk (config_conditionOf_1_LP N) (config_conditionOf_1_E N) N (resD (config_conditionOf_1_E N) Tryd.f150 (config_conditionOf_1_sg fun x _ => config_conditionOf_1 N x.1 x.2.1) config_conditionOf_1_pk) [] from trivial) x y).trans (config_conditionOf_1_core N x y)).trans h)
def slices_IndexFunc_api_Condition_L0T (N : Nat) (x0 : List (Str × List (Str × Str) × List (Str × Str))) (x1 : Str × Unit) (c7 : Int) (k0 : Option Int) (self : Int → Option Int) (s8 : Int) : Option Int :=
  br (decide (s8 < c7))
    (bnd (geti x0 s8) fun t14 =>
    bnd (config_conditionOf_1 N t14 x1.1) fun t16 =>
    br (t16)
      (some s8)
      (self (IntKind.i64.wrap (s8 + (1 : Int)))))
    (k0)
def slices_IndexFunc_api_Condition_L0 (N : Nat) (x0 : List (Str × List (Str × Str) × List (Str × Str))) (x1 : Str × Unit) (c7 : Int) (k0 : Option Int) : Nat → Int → Option Int
  | 0, _ => none
  | n + 1, s8 => slices_IndexFunc_api_Condition_L0T N x0 x1 c7 k0 (slices_IndexFunc_api_Condition_L0 N x0 x1 c7 k0 n) s8
def slices_IndexFunc_api_Condition (N : Nat) (x0 : List (Str × List (Str × Str) × List (Str × Str))) (x1 : Str × Unit) : Option Int :=
  slices_IndexFunc_api_Condition_L0 N x0 x1 (x0.length : Int) (some (-1 : Int)) N (0 : Int)
abbrev slices_IndexFunc_api_Condition_sg (f : SV [.v (.sl (.pr .str (.pr (.sl (.pr .str .str)) (.sl (.pr .str .str))))), .v (.clo 150 (.pr (.ptr .str) .un))] → BV [] → Option (Int)) : AF := { ps := [.v (.sl (.pr .str (.pr (.sl (.pr .str .str)) (.sl (.pr .str .str))))), .v (.clo 150 (.pr (.ptr .str) .un))], bs := [], rs := [.v (.int .i64)], cs := [], R := Int, out := fun z => ((z, ()), ()), f := f }
abbrev slices_IndexFunc_api_Condition_pk : SV [.v (.int .i64)] → BV [] → Int := fun x _ => x.1
def slices_IndexFunc_api_Condition_fn (N : Nat) : FuncId → Option Tmp → Option AF := fun f _ =>
  match f with
    | 150 => some (config_conditionOf_1_sg fun x _ => config_conditionOf_1 N x.1 x.2.1)
    | _ => none
theorem slices_IndexFunc_api_Condition_fn_ok (N : Nat) : ∀ f q F, slices_IndexFunc_api_Condition_fn N f q = some F → Sound Tryd.prog GW B0G f F := by
  intro f q F h
  unfold slices_IndexFunc_api_Condition_fn at h
  split at h
  · cases h; exact config_conditionOf_1_sound N
  · cases h
def slices_IndexFunc_api_Condition_h : Nat → Hint := fun i =>
  match i with
  | 0 => ⟨[], [0, 1, 7, 8], [], [], [], []⟩
  | _ => ⟨[], [], [], [], [], []⟩
abbrev slices_IndexFunc_api_Condition_E (N : Nat) : Env := mkE slices_IndexFunc_api_Condition_h (slices_IndexFunc_api_Condition_fn N) (fun _ => false) (fun _ => false)
abbrev slices_IndexFunc_api_Condition_L0_fs : List (Nat × Sl) := [(0, .v (.sl (.pr .str (.pr (.sl (.pr .str .str)) (.sl (.pr .str .str)))))), (1, .v (.clo 150 (.pr (.ptr .str) .un))), (7, .v (.int .i64)), (8, .v (.int .i64))]
abbrev slices_IndexFunc_api_Condition_L0_bs : List (Nat × Sb) := []
def slices_IndexFunc_api_Condition_L0_hd (x0 : List (Str × List (Str × Str) × List (Str × Str))) (x1 : Str × Unit) (c7 : Int) (s8 : Int) : St := ⟨19, [(0, .v (.sl (.pr .str (.pr (.sl (.pr .str .str)) (.sl (.pr .str .str))))) x0), (1, .v (.clo 150 (.pr (.ptr .str) .un)) x1), (7, .v (.int .i64) c7), (8, .v (.int .i64) s8)], []⟩
def slices_IndexFunc_api_Condition_L0_tl0 (_x0 : List (Str × List (Str × Str) × List (Str × Str))) (_x1 : Str × Unit) (_c7 : Int) : St := ⟨19, [], []⟩
def slices_IndexFunc_api_Condition_L0_G (N : Nat) (x0 : List (Str × List (Str × Str) × List (Str × Str))) (x1 : Str × Unit) (c7 : Int) (s8 : Int) (k : Ex → St → Option Int) : Option Int :=
  slices_IndexFunc_api_Condition_L0 N x0 x1 c7 (k (.exit 0) (slices_IndexFunc_api_Condition_L0_tl0 x0 x1 c7)) N s8
abbrev slices_IndexFunc_api_Condition_L0_F (N : Nat) : FV slices_IndexFunc_api_Condition_L0_fs → HV slices_IndexFunc_api_Condition_L0_bs → (Ex → St → Option Int) → Option Int := fun x _ k => slices_IndexFunc_api_Condition_L0_G N x.1 x.2.1 x.2.2.1 x.2.2.2.1 k
noncomputable def slices_IndexFunc_api_Condition_LP (N : Nat) : Nat → Code → St → (Ex → St → Option Int) → Option Int := fun i c =>
  match i with
  | 0 => (LPc 19 slices_IndexFunc_api_Condition_L0_fs slices_IndexFunc_api_Condition_L0_bs (slices_IndexFunc_api_Condition_L0_F N) (fun st k => iter (slices_IndexFunc_api_Condition_h 0) (exec (slices_IndexFunc_api_Condition_E N) N c 0) N st k))
  | i => fun st k => iter (slices_IndexFunc_api_Condition_h i) (exec (slices_IndexFunc_api_Condition_E N) N c i) N st k
theorem slices_IndexFunc_api_Condition_L0_step (N : Nat) (x0 : List (Str × List (Str × Str) × List (Str × Str))) (x1 : Str × Unit) (c7 : Int) (KX : Nat → St → Option Int) (I : St → Option Int) (s8 : Int) :
    execL (slices_IndexFunc_api_Condition_LP N) (slices_IndexFunc_api_Condition_E N) (cAt (bodyOf Tryd.f149) [true, false, true, false, false]) 0 (slices_IndexFunc_api_Condition_L0_hd x0 x1 c7 s8) (roundK (slices_IndexFunc_api_Condition_h 0) I KX (resD (slices_IndexFunc_api_Condition_E N) Tryd.f149 (slices_IndexFunc_api_Condition_sg fun x _ => slices_IndexFunc_api_Condition N x.1 x.2.1) slices_IndexFunc_api_Condition_pk)) = slices_IndexFunc_api_Condition_L0T N x0 x1 c7 (KX 0 (slices_IndexFunc_api_Condition_L0_tl0 x0 x1 c7)) (fun s8 => I (slices_IndexFunc_api_Condition_L0_hd x0 x1 c7 s8)) s8 := by kernel_rfl
theorem slices_IndexFunc_api_Condition_L0_ok (N : Nat) : ∀ x y k, (∀ st, k .ret st = (resD (slices_IndexFunc_api_Condition_E N) Tryd.f149 (slices_IndexFunc_api_Condition_sg fun x _ => slices_IndexFunc_api_Condition N x.1 x.2.1) slices_IndexFunc_api_Condition_pk) st) → iter (slices_IndexFunc_api_Condition_h 0) (exec (slices_IndexFunc_api_Condition_E N) N (cAt (bodyOf Tryd.f149) [true, false, true, false, false]) 0) N ⟨19, unF slices_IndexFunc_api_Condition_L0_fs x, unH slices_IndexFunc_api_Condition_L0_bs y⟩ k = slices_IndexFunc_api_Condition_L0_F N x y k := fun x _ k hk =>
  iter_link (S := (Int) × Unit) (slices_IndexFunc_api_Condition_h 0) _ (execL (slices_IndexFunc_api_Condition_LP N) (slices_IndexFunc_api_Condition_E N) (cAt (bodyOf Tryd.f149) [true, false, true, false, false]) 0) (resD (slices_IndexFunc_api_Condition_E N) Tryd.f149 (slices_IndexFunc_api_Condition_sg fun x _ => slices_IndexFunc_api_Condition N x.1 x.2.1) slices_IndexFunc_api_Condition_pk) (fun st k hk => execL_eq _ _ N _ (cAt (bodyOf Tryd.f149) [true, false, true, false, false]) 0 (show LoopsOk (slices_IndexFunc_api_Condition_LP N) (slices_IndexFunc_api_Condition_E N) N (resD (slices_IndexFunc_api_Condition_E N) Tryd.f149 (slices_IndexFunc_api_Condition_sg fun x _ => slices_IndexFunc_api_Condition N x.1 x.2.1) slices_IndexFunc_api_Condition_pk) [] from trivial) st k hk) (fun s => slices_IndexFunc_api_Condition_L0_hd x.1 x.2.1 x.2.2.1 s.1) k hk
    (fun self s => slices_IndexFunc_api_Condition_L0T N x.1 x.2.1 x.2.2.1 (k (.exit 0) (slices_IndexFunc_api_Condition_L0_tl0 x.1 x.2.1 x.2.2.1)) (fun s8 => self (s8, ())) s.1) (fun n s => slices_IndexFunc_api_Condition_L0 N x.1 x.2.1 x.2.2.1 (k (.exit 0) (slices_IndexFunc_api_Condition_L0_tl0 x.1 x.2.1 x.2.2.1)) n s.1) (fun _ => rfl) (fun _ _ => rfl)
    (fun I s => slices_IndexFunc_api_Condition_L0_step N x.1 x.2.1 x.2.2.1 (fun j => k (.exit j)) I s.1) N (x.2.2.2.1, ())
theorem slices_IndexFunc_api_Condition_lp0 (N : Nat) : ∀ st k, (∀ st, k .ret st = (resD (slices_IndexFunc_api_Condition_E N) Tryd.f149 (slices_IndexFunc_api_Condition_sg fun x _ => slices_IndexFunc_api_Condition N x.1 x.2.1) slices_IndexFunc_api_Condition_pk) st) → slices_IndexFunc_api_Condition_LP N 0 (cAt (bodyOf Tryd.f149) [true, false, true, false, false]) st k = iter (Env.hint (slices_IndexFunc_api_Condition_E N) 0) (exec (slices_IndexFunc_api_Condition_E N) N (cAt (bodyOf Tryd.f149) [true, false, true, false, false]) 0) N st k := fun st k hk => LPc_eq 19 slices_IndexFunc_api_Condition_L0_fs slices_IndexFunc_api_Condition_L0_bs _ _ (resD (slices_IndexFunc_api_Condition_E N) Tryd.f149 (slices_IndexFunc_api_Condition_sg fun x _ => slices_IndexFunc_api_Condition N x.1 x.2.1) slices_IndexFunc_api_Condition_pk) (slices_IndexFunc_api_Condition_L0_ok N) _ st k hk (rfl)
theorem slices_IndexFunc_api_Condition_core (N : Nat) (x : SV [.v (.sl (.pr .str (.pr (.sl (.pr .str .str)) (.sl (.pr .str .str))))), .v (.clo 150 (.pr (.ptr .str) .un))]) (y : BV []) : runL (slices_IndexFunc_api_Condition_E N) Tryd.f149 (slices_IndexFunc_api_Condition_sg fun x _ => slices_IndexFunc_api_Condition N x.1 x.2.1) slices_IndexFunc_api_Condition_pk (slices_IndexFunc_api_Condition_LP N) x y = slices_IndexFunc_api_Condition N x.1 x.2.1 := by kernel_rfl
theorem slices_IndexFunc_api_Condition_sound (N : Nat) : Sound Tryd.prog GW B0G 149 (slices_IndexFunc_api_Condition_sg fun x _ => slices_IndexFunc_api_Condition N x.1 x.2.1) :=
  runD_sound (mkE_ok slices_IndexFunc_api_Condition_h (slices_IndexFunc_api_Condition_fn N) _ _ (slices_IndexFunc_api_Condition_fn_ok N)) Tryd.func149 rfl Tryd.call149 (slices_IndexFunc_api_Condition_sg fun x _ => slices_IndexFunc_api_Condition N x.1 x.2.1) slices_IndexFunc_api_Condition_pk (fun _ _ => rfl) N (fun x y _ h => ((runL_eq (slices_IndexFunc_api_Condition_E N) N Tryd.f149 (slices_IndexFunc_api_Condition_sg fun x _ => slices_IndexFunc_api_Condition N x.1 x.2.1) slices_IndexFunc_api_Condition_pk (slices_IndexFunc_api_Condition_LP N) (show LoopsOk (slices_IndexFunc_api_Condition_LP N) (slices_IndexFunc_api_Condition_E N) N (resD (slices_IndexFunc_api_Condition_E N) Tryd.f149 (slices_IndexFunc_api_Condition_sg fun x _ => slices_IndexFunc_api_Condition N x.1 x.2.1) slices_IndexFunc_api_Condition_pk) [(0, (cAt (bodyOf Tryd.f149) [true, false, true, false, false]))] from ⟨slices_IndexFunc_api_Condition_lp0 N, trivial⟩) x y).trans (slices_IndexFunc_api_Condition_core N x y)).trans h)
def config_conditionOf (N : Nat) (x0 : List (Str × List (Str × Str) × List (Str × Str))) (x1 : Str) : Option ((Str × List (Str × Str) × List (Str × Str)) × Bool) :=
  bnd (slices_IndexFunc_api_Condition N x0 (x1, ())) fun t9 =>
  br (decide (t9 < (0 : Int)))
    (some ((([] : Str), (([] : List (Str × Str)), ([] : List (Str × Str)))), false))
    (bnd (geti x0 t9) fun t15 =>
    some (t15, true))
abbrev config_conditionOf_sg (f : SV [.v (.sl (.pr .str (.pr (.sl (.pr .str .str)) (.sl (.pr .str .str))))), .v .str] → BV [] → Option ((Str × List (Str × Str) × List (Str × Str)) × Bool)) : AF := { ps := [.v (.sl (.pr .str (.pr (.sl (.pr .str .str)) (.sl (.pr .str .str))))), .v .str], bs := [], rs := [.v (.pr .str (.pr (.sl (.pr .str .str)) (.sl (.pr .str .str)))), .v .bool], cs := [], R := (Str × List (Str × Str) × List (Str × Str)) × Bool, out := fun z => ((z.1, z.2, ()), ()), f := f }
abbrev config_conditionOf_pk : SV [.v (.pr .str (.pr (.sl (.pr .str .str)) (.sl (.pr .str .str)))), .v .bool] → BV [] → ((Str × List (Str × Str) × List (Str × Str)) × Bool) := fun x _ => (x.1, x.2.1)
def config_conditionOf_fn (N : Nat) : FuncId → Option Tmp → Option AF := fun f _ =>
  match f with
    | 149 => some (slices_IndexFunc_api_Condition_sg fun x _ => slices_IndexFunc_api_Condition N x.1 x.2.1)
    | 150 => some (noneAF [.v (.ptr .str)])
    | _ => none
theorem config_conditionOf_fn_ok (N : Nat) : ∀ f q F, config_conditionOf_fn N f q = some F → Sound Tryd.prog GW B0G f F := by
  intro f q F h
  unfold config_conditionOf_fn at h
  split at h
  · cases h; exact slices_IndexFunc_api_Condition_sound N
  · cases h; exact noneAF_sound Tryd.call150 _
  · cases h
def config_conditionOf_h : Nat → Hint := fun i =>
  match i with
  | _ => ⟨[], [], [], [], [], []⟩
abbrev config_conditionOf_E (N : Nat) : Env := mkE config_conditionOf_h (config_conditionOf_fn N) (fun _ => false) (fun _ => false)
noncomputable def config_conditionOf_LP (N : Nat) : Nat → Code → St → (Ex → St → Option ((Str × List (Str × Str) × List (Str × Str)) × Bool)) → Option ((Str × List (Str × Str) × List (Str × Str)) × Bool) := fun i c =>
  match i with
  | i => fun st k => iter (config_conditionOf_h i) (exec (config_conditionOf_E N) N c i) N st k
theorem config_conditionOf_core (N : Nat) (x : SV [.v (.sl (.pr .str (.pr (.sl (.pr .str .str)) (.sl (.pr .str .str))))), .v .str]) (y : BV []) : runL (config_conditionOf_E N) Tryd.f119 (config_conditionOf_sg fun x _ => config_conditionOf N x.1 x.2.1) config_conditionOf_pk (config_conditionOf_LP N) x y = config_conditionOf N x.1 x.2.1 := by kernel_rfl
theorem config_conditionOf_sound (N : Nat) : Sound Tryd.prog GW B0G 119 (config_conditionOf_sg fun x _ => config_conditionOf N x.1 x.2.1) :=
  runD_sound (mkE_ok config_conditionOf_h (config_conditionOf_fn N) _ _ (config_conditionOf_fn_ok N)) Tryd.func119 rfl Tryd.call119 (config_conditionOf_sg fun x _ => config_conditionOf N x.1 x.2.1) config_conditionOf_pk (fun _ _ => rfl) N (fun x y _ h => ((runL_eq (config_conditionOf_E N) N Tryd.f119 (config_conditionOf_sg fun x _ => config_conditionOf N x.1 x.2.1) config_conditionOf_pk (config_conditionOf_LP N) (show LoopsOk (config_conditionOf_LP N) (config_conditionOf_E N) N (resD (config_conditionOf_E N) Tryd.f119 (config_conditionOf_sg fun x _ => config_conditionOf N x.1 x.2.1) config_conditionOf_pk) [] from trivial) x y).trans (config_conditionOf_core N x y)).trans h)
end
end Go.Proofs.YtbekhaioddmliaaDoor

