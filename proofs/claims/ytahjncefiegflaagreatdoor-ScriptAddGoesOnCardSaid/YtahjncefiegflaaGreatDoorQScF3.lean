/- What functions of the program compute, as plain functions (printed). -/
import Derived.Test.YtahjncefiegflaaGreatDoorQScF2
namespace Go.Proofs.YtahjncefiegflaaGreatDoor
open Go Go.RowKit
set_option maxRecDepth 100000
set_option linter.unusedVariables false
noncomputable section
def script_CheckValue (N : Nat) (r_script_checkCases : (List (Str × GValue)) → Option (Int)) (x0 : GValue) : Option Int :=
  br (decide (x0.kind < (1 : Int)))
    (some (4 : Int))
    (br (decide (x0.kind > (4 : Int)))
      (some (4 : Int))
      (br (!(x0.text == ([] : Str)))
        (br (x0.kind != (1 : Int))
          (br (x0.kind != (1 : Int))
            (some (3 : Int))
            (br (decide ((x0.text.length : Int) > (1000 : Int)))
              (some (2 : Int))
              (br (decide ((x0.list.length : Int) > (1000 : Int)))
                (some (2 : Int))
                (bnd (slices_ContainsFunc_string_string N x0.list ()) fun t61 =>
                br (t61)
                  (some (2 : Int))
                  (br (decide ((x0.cases.length : Int) > (50 : Int)))
                    (some (2 : Int))
                    (bnd (script_isText N x0.text) fun t72 =>
                    br (!t72)
                      (some (3 : Int))
                      (bnd (slices_ContainsFunc_string_string_2 N x0.list ()) fun t77 =>
                      br (t77)
                        (some (3 : Int))
                        (br (decide (x0.number < (0 : Int)))
                          (some (1 : Int))
                          (br (decide (x0.number > (999999999 : Int)))
                            (some (1 : Int))
                            (br (x0.kind == (4 : Int))
                              (bnd (r_script_checkCases x0.cases) fun t94 =>
                              some t94)
                              (some (0 : Int))))))))))))
          (br (x0.number != (0 : Int))
            (br (x0.kind != (2 : Int))
              (br (x0.kind != (2 : Int))
                (some (3 : Int))
                (br (decide ((x0.text.length : Int) > (1000 : Int)))
                  (some (2 : Int))
                  (br (decide ((x0.list.length : Int) > (1000 : Int)))
                    (some (2 : Int))
                    (bnd (slices_ContainsFunc_string_string N x0.list ()) fun t61_1 =>
                    br (t61_1)
                      (some (2 : Int))
                      (br (decide ((x0.cases.length : Int) > (50 : Int)))
                        (some (2 : Int))
                        (bnd (script_isText N x0.text) fun t72_2 =>
                        br (!t72_2)
                          (some (3 : Int))
                          (bnd (slices_ContainsFunc_string_string_2 N x0.list ()) fun t77_3 =>
                          br (t77_3)
                            (some (3 : Int))
                            (br (decide (x0.number < (0 : Int)))
                              (some (1 : Int))
                              (br (decide (x0.number > (999999999 : Int)))
                                (some (1 : Int))
                                (br (x0.kind == (4 : Int))
                                  (bnd (r_script_checkCases x0.cases) fun t94_4 =>
                                  some t94_4)
                                  (some (0 : Int))))))))))))
              (br (decide ((x0.list.length : Int) > (0 : Int)))
                (br (x0.kind != (3 : Int))
                  (br (x0.kind != (3 : Int))
                    (some (3 : Int))
                    (br (decide ((x0.text.length : Int) > (1000 : Int)))
                      (some (2 : Int))
                      (br (decide ((x0.list.length : Int) > (1000 : Int)))
                        (some (2 : Int))
                        (bnd (slices_ContainsFunc_string_string N x0.list ()) fun t61_5 =>
                        br (t61_5)
                          (some (2 : Int))
                          (br (decide ((x0.cases.length : Int) > (50 : Int)))
                            (some (2 : Int))
                            (bnd (script_isText N x0.text) fun t72_6 =>
                            br (!t72_6)
                              (some (3 : Int))
                              (bnd (slices_ContainsFunc_string_string_2 N x0.list ()) fun t77_7 =>
                              br (t77_7)
                                (some (3 : Int))
                                (br (decide (x0.number < (0 : Int)))
                                  (some (1 : Int))
                                  (br (decide (x0.number > (999999999 : Int)))
                                    (some (1 : Int))
                                    (br (x0.kind == (4 : Int))
                                      (bnd (r_script_checkCases x0.cases) fun t94_8 =>
                                      some t94_8)
                                      (some (0 : Int))))))))))))
                  (br (decide ((x0.cases.length : Int) > (0 : Int)))
                    (br (x0.kind != (4 : Int))
                      (some (3 : Int))
                      (br (decide ((x0.text.length : Int) > (1000 : Int)))
                        (some (2 : Int))
                        (br (decide ((x0.list.length : Int) > (1000 : Int)))
                          (some (2 : Int))
                          (bnd (slices_ContainsFunc_string_string N x0.list ()) fun t61_9 =>
                          br (t61_9)
                            (some (2 : Int))
                            (br (decide ((x0.cases.length : Int) > (50 : Int)))
                              (some (2 : Int))
                              (bnd (script_isText N x0.text) fun t72_10 =>
                              br (!t72_10)
                                (some (3 : Int))
                                (bnd (slices_ContainsFunc_string_string_2 N x0.list ()) fun t77_11 =>
                                br (t77_11)
                                  (some (3 : Int))
                                  (br (decide (x0.number < (0 : Int)))
                                    (some (1 : Int))
                                    (br (decide (x0.number > (999999999 : Int)))
                                      (some (1 : Int))
                                      (br (x0.kind == (4 : Int))
                                        (bnd (r_script_checkCases x0.cases) fun t94_12 =>
                                        some t94_12)
                                        (some (0 : Int))))))))))))
                    (br (decide ((x0.text.length : Int) > (1000 : Int)))
                      (some (2 : Int))
                      (br (decide ((x0.list.length : Int) > (1000 : Int)))
                        (some (2 : Int))
                        (bnd (slices_ContainsFunc_string_string N x0.list ()) fun t61_13 =>
                        br (t61_13)
                          (some (2 : Int))
                          (br (decide ((x0.cases.length : Int) > (50 : Int)))
                            (some (2 : Int))
                            (bnd (script_isText N x0.text) fun t72_14 =>
                            br (!t72_14)
                              (some (3 : Int))
                              (bnd (slices_ContainsFunc_string_string_2 N x0.list ()) fun t77_15 =>
                              br (t77_15)
                                (some (3 : Int))
                                (br (decide (x0.number < (0 : Int)))
                                  (some (1 : Int))
                                  (br (decide (x0.number > (999999999 : Int)))
                                    (some (1 : Int))
                                    (br (x0.kind == (4 : Int))
                                      (bnd (r_script_checkCases x0.cases) fun t94_16 =>
                                      some t94_16)
                                      (some (0 : Int)))))))))))))
                (br (decide ((x0.cases.length : Int) > (0 : Int)))
                  (br (x0.kind != (4 : Int))
                    (some (3 : Int))
                    (br (decide ((x0.text.length : Int) > (1000 : Int)))
                      (some (2 : Int))
                      (br (decide ((x0.list.length : Int) > (1000 : Int)))
                        (some (2 : Int))
                        (bnd (slices_ContainsFunc_string_string N x0.list ()) fun t61_17 =>
                        br (t61_17)
                          (some (2 : Int))
                          (br (decide ((x0.cases.length : Int) > (50 : Int)))
                            (some (2 : Int))
                            (bnd (script_isText N x0.text) fun t72_18 =>
                            br (!t72_18)
                              (some (3 : Int))
                              (bnd (slices_ContainsFunc_string_string_2 N x0.list ()) fun t77_19 =>
                              br (t77_19)
                                (some (3 : Int))
                                (br (decide (x0.number < (0 : Int)))
                                  (some (1 : Int))
                                  (br (decide (x0.number > (999999999 : Int)))
                                    (some (1 : Int))
                                    (br (x0.kind == (4 : Int))
                                      (bnd (r_script_checkCases x0.cases) fun t94_20 =>
                                      some t94_20)
                                      (some (0 : Int))))))))))))
                  (br (decide ((x0.text.length : Int) > (1000 : Int)))
                    (some (2 : Int))
                    (br (decide ((x0.list.length : Int) > (1000 : Int)))
                      (some (2 : Int))
                      (bnd (slices_ContainsFunc_string_string N x0.list ()) fun t61_21 =>
                      br (t61_21)
                        (some (2 : Int))
                        (br (decide ((x0.cases.length : Int) > (50 : Int)))
                          (some (2 : Int))
                          (bnd (script_isText N x0.text) fun t72_22 =>
                          br (!t72_22)
                            (some (3 : Int))
                            (bnd (slices_ContainsFunc_string_string_2 N x0.list ()) fun t77_23 =>
                            br (t77_23)
                              (some (3 : Int))
                              (br (decide (x0.number < (0 : Int)))
                                (some (1 : Int))
                                (br (decide (x0.number > (999999999 : Int)))
                                  (some (1 : Int))
                                  (br (x0.kind == (4 : Int))
                                    (bnd (r_script_checkCases x0.cases) fun t94_24 =>
                                    some t94_24)
                                    (some (0 : Int))))))))))))))
            (br (decide ((x0.list.length : Int) > (0 : Int)))
              (br (x0.kind != (3 : Int))
                (br (x0.kind != (3 : Int))
                  (some (3 : Int))
                  (br (decide ((x0.text.length : Int) > (1000 : Int)))
                    (some (2 : Int))
                    (br (decide ((x0.list.length : Int) > (1000 : Int)))
                      (some (2 : Int))
                      (bnd (slices_ContainsFunc_string_string N x0.list ()) fun t61_25 =>
                      br (t61_25)
                        (some (2 : Int))
                        (br (decide ((x0.cases.length : Int) > (50 : Int)))
                          (some (2 : Int))
                          (bnd (script_isText N x0.text) fun t72_26 =>
                          br (!t72_26)
                            (some (3 : Int))
                            (bnd (slices_ContainsFunc_string_string_2 N x0.list ()) fun t77_27 =>
                            br (t77_27)
                              (some (3 : Int))
                              (br (decide (x0.number < (0 : Int)))
                                (some (1 : Int))
                                (br (decide (x0.number > (999999999 : Int)))
                                  (some (1 : Int))
                                  (br (x0.kind == (4 : Int))
                                    (bnd (r_script_checkCases x0.cases) fun t94_28 =>
                                    some t94_28)
                                    (some (0 : Int))))))))))))
                (br (decide ((x0.cases.length : Int) > (0 : Int)))
                  (br (x0.kind != (4 : Int))
                    (some (3 : Int))
                    (br (decide ((x0.text.length : Int) > (1000 : Int)))
                      (some (2 : Int))
                      (br (decide ((x0.list.length : Int) > (1000 : Int)))
                        (some (2 : Int))
                        (bnd (slices_ContainsFunc_string_string N x0.list ()) fun t61_29 =>
                        br (t61_29)
                          (some (2 : Int))
                          (br (decide ((x0.cases.length : Int) > (50 : Int)))
                            (some (2 : Int))
                            (bnd (script_isText N x0.text) fun t72_30 =>
                            br (!t72_30)
                              (some (3 : Int))
                              (bnd (slices_ContainsFunc_string_string_2 N x0.list ()) fun t77_31 =>
                              br (t77_31)
                                (some (3 : Int))
                                (br (decide (x0.number < (0 : Int)))
                                  (some (1 : Int))
                                  (br (decide (x0.number > (999999999 : Int)))
                                    (some (1 : Int))
                                    (br (x0.kind == (4 : Int))
                                      (bnd (r_script_checkCases x0.cases) fun t94_32 =>
                                      some t94_32)
                                      (some (0 : Int))))))))))))
                  (br (decide ((x0.text.length : Int) > (1000 : Int)))
                    (some (2 : Int))
                    (br (decide ((x0.list.length : Int) > (1000 : Int)))
                      (some (2 : Int))
                      (bnd (slices_ContainsFunc_string_string N x0.list ()) fun t61_33 =>
                      br (t61_33)
                        (some (2 : Int))
                        (br (decide ((x0.cases.length : Int) > (50 : Int)))
                          (some (2 : Int))
                          (bnd (script_isText N x0.text) fun t72_34 =>
                          br (!t72_34)
                            (some (3 : Int))
                            (bnd (slices_ContainsFunc_string_string_2 N x0.list ()) fun t77_35 =>
                            br (t77_35)
                              (some (3 : Int))
                              (br (decide (x0.number < (0 : Int)))
                                (some (1 : Int))
                                (br (decide (x0.number > (999999999 : Int)))
                                  (some (1 : Int))
                                  (br (x0.kind == (4 : Int))
                                    (bnd (r_script_checkCases x0.cases) fun t94_36 =>
                                    some t94_36)
                                    (some (0 : Int)))))))))))))
              (br (decide ((x0.cases.length : Int) > (0 : Int)))
                (br (x0.kind != (4 : Int))
                  (some (3 : Int))
                  (br (decide ((x0.text.length : Int) > (1000 : Int)))
                    (some (2 : Int))
                    (br (decide ((x0.list.length : Int) > (1000 : Int)))
                      (some (2 : Int))
                      (bnd (slices_ContainsFunc_string_string N x0.list ()) fun t61_37 =>
                      br (t61_37)
                        (some (2 : Int))
                        (br (decide ((x0.cases.length : Int) > (50 : Int)))
                          (some (2 : Int))
                          (bnd (script_isText N x0.text) fun t72_38 =>
                          br (!t72_38)
                            (some (3 : Int))
                            (bnd (slices_ContainsFunc_string_string_2 N x0.list ()) fun t77_39 =>
                            br (t77_39)
                              (some (3 : Int))
                              (br (decide (x0.number < (0 : Int)))
                                (some (1 : Int))
                                (br (decide (x0.number > (999999999 : Int)))
                                  (some (1 : Int))
                                  (br (x0.kind == (4 : Int))
                                    (bnd (r_script_checkCases x0.cases) fun t94_40 =>
                                    some t94_40)
                                    (some (0 : Int))))))))))))
                (br (decide ((x0.text.length : Int) > (1000 : Int)))
                  (some (2 : Int))
                  (br (decide ((x0.list.length : Int) > (1000 : Int)))
                    (some (2 : Int))
                    (bnd (slices_ContainsFunc_string_string N x0.list ()) fun t61_41 =>
                    br (t61_41)
                      (some (2 : Int))
                      (br (decide ((x0.cases.length : Int) > (50 : Int)))
                        (some (2 : Int))
                        (bnd (script_isText N x0.text) fun t72_42 =>
                        br (!t72_42)
                          (some (3 : Int))
                          (bnd (slices_ContainsFunc_string_string_2 N x0.list ()) fun t77_43 =>
                          br (t77_43)
                            (some (3 : Int))
                            (br (decide (x0.number < (0 : Int)))
                              (some (1 : Int))
                              (br (decide (x0.number > (999999999 : Int)))
                                (some (1 : Int))
                                (br (x0.kind == (4 : Int))
                                  (bnd (r_script_checkCases x0.cases) fun t94_44 =>
                                  some t94_44)
                                  (some (0 : Int)))))))))))))))
        (br (x0.number != (0 : Int))
          (br (x0.kind != (2 : Int))
            (br (x0.kind != (2 : Int))
              (some (3 : Int))
              (br (decide ((x0.text.length : Int) > (1000 : Int)))
                (some (2 : Int))
                (br (decide ((x0.list.length : Int) > (1000 : Int)))
                  (some (2 : Int))
                  (bnd (slices_ContainsFunc_string_string N x0.list ()) fun t61_45 =>
                  br (t61_45)
                    (some (2 : Int))
                    (br (decide ((x0.cases.length : Int) > (50 : Int)))
                      (some (2 : Int))
                      (bnd (script_isText N x0.text) fun t72_46 =>
                      br (!t72_46)
                        (some (3 : Int))
                        (bnd (slices_ContainsFunc_string_string_2 N x0.list ()) fun t77_47 =>
                        br (t77_47)
                          (some (3 : Int))
                          (br (decide (x0.number < (0 : Int)))
                            (some (1 : Int))
                            (br (decide (x0.number > (999999999 : Int)))
                              (some (1 : Int))
                              (br (x0.kind == (4 : Int))
                                (bnd (r_script_checkCases x0.cases) fun t94_48 =>
                                some t94_48)
                                (some (0 : Int))))))))))))
            (br (decide ((x0.list.length : Int) > (0 : Int)))
              (br (x0.kind != (3 : Int))
                (br (x0.kind != (3 : Int))
                  (some (3 : Int))
                  (br (decide ((x0.text.length : Int) > (1000 : Int)))
                    (some (2 : Int))
                    (br (decide ((x0.list.length : Int) > (1000 : Int)))
                      (some (2 : Int))
                      (bnd (slices_ContainsFunc_string_string N x0.list ()) fun t61_49 =>
                      br (t61_49)
                        (some (2 : Int))
                        (br (decide ((x0.cases.length : Int) > (50 : Int)))
                          (some (2 : Int))
                          (bnd (script_isText N x0.text) fun t72_50 =>
                          br (!t72_50)
                            (some (3 : Int))
                            (bnd (slices_ContainsFunc_string_string_2 N x0.list ()) fun t77_51 =>
                            br (t77_51)
                              (some (3 : Int))
                              (br (decide (x0.number < (0 : Int)))
                                (some (1 : Int))
                                (br (decide (x0.number > (999999999 : Int)))
                                  (some (1 : Int))
                                  (br (x0.kind == (4 : Int))
                                    (bnd (r_script_checkCases x0.cases) fun t94_52 =>
                                    some t94_52)
                                    (some (0 : Int))))))))))))
                (br (decide ((x0.cases.length : Int) > (0 : Int)))
                  (br (x0.kind != (4 : Int))
                    (some (3 : Int))
                    (br (decide ((x0.text.length : Int) > (1000 : Int)))
                      (some (2 : Int))
                      (br (decide ((x0.list.length : Int) > (1000 : Int)))
                        (some (2 : Int))
                        (bnd (slices_ContainsFunc_string_string N x0.list ()) fun t61_53 =>
                        br (t61_53)
                          (some (2 : Int))
                          (br (decide ((x0.cases.length : Int) > (50 : Int)))
                            (some (2 : Int))
                            (bnd (script_isText N x0.text) fun t72_54 =>
                            br (!t72_54)
                              (some (3 : Int))
                              (bnd (slices_ContainsFunc_string_string_2 N x0.list ()) fun t77_55 =>
                              br (t77_55)
                                (some (3 : Int))
                                (br (decide (x0.number < (0 : Int)))
                                  (some (1 : Int))
                                  (br (decide (x0.number > (999999999 : Int)))
                                    (some (1 : Int))
                                    (br (x0.kind == (4 : Int))
                                      (bnd (r_script_checkCases x0.cases) fun t94_56 =>
                                      some t94_56)
                                      (some (0 : Int))))))))))))
                  (br (decide ((x0.text.length : Int) > (1000 : Int)))
                    (some (2 : Int))
                    (br (decide ((x0.list.length : Int) > (1000 : Int)))
                      (some (2 : Int))
                      (bnd (slices_ContainsFunc_string_string N x0.list ()) fun t61_57 =>
                      br (t61_57)
                        (some (2 : Int))
                        (br (decide ((x0.cases.length : Int) > (50 : Int)))
                          (some (2 : Int))
                          (bnd (script_isText N x0.text) fun t72_58 =>
                          br (!t72_58)
                            (some (3 : Int))
                            (bnd (slices_ContainsFunc_string_string_2 N x0.list ()) fun t77_59 =>
                            br (t77_59)
                              (some (3 : Int))
                              (br (decide (x0.number < (0 : Int)))
                                (some (1 : Int))
                                (br (decide (x0.number > (999999999 : Int)))
                                  (some (1 : Int))
                                  (br (x0.kind == (4 : Int))
                                    (bnd (r_script_checkCases x0.cases) fun t94_60 =>
                                    some t94_60)
                                    (some (0 : Int)))))))))))))
              (br (decide ((x0.cases.length : Int) > (0 : Int)))
                (br (x0.kind != (4 : Int))
                  (some (3 : Int))
                  (br (decide ((x0.text.length : Int) > (1000 : Int)))
                    (some (2 : Int))
                    (br (decide ((x0.list.length : Int) > (1000 : Int)))
                      (some (2 : Int))
                      (bnd (slices_ContainsFunc_string_string N x0.list ()) fun t61_61 =>
                      br (t61_61)
                        (some (2 : Int))
                        (br (decide ((x0.cases.length : Int) > (50 : Int)))
                          (some (2 : Int))
                          (bnd (script_isText N x0.text) fun t72_62 =>
                          br (!t72_62)
                            (some (3 : Int))
                            (bnd (slices_ContainsFunc_string_string_2 N x0.list ()) fun t77_63 =>
                            br (t77_63)
                              (some (3 : Int))
                              (br (decide (x0.number < (0 : Int)))
                                (some (1 : Int))
                                (br (decide (x0.number > (999999999 : Int)))
                                  (some (1 : Int))
                                  (br (x0.kind == (4 : Int))
                                    (bnd (r_script_checkCases x0.cases) fun t94_64 =>
                                    some t94_64)
                                    (some (0 : Int))))))))))))
                (br (decide ((x0.text.length : Int) > (1000 : Int)))
                  (some (2 : Int))
                  (br (decide ((x0.list.length : Int) > (1000 : Int)))
                    (some (2 : Int))
                    (bnd (slices_ContainsFunc_string_string N x0.list ()) fun t61_65 =>
                    br (t61_65)
                      (some (2 : Int))
                      (br (decide ((x0.cases.length : Int) > (50 : Int)))
                        (some (2 : Int))
                        (bnd (script_isText N x0.text) fun t72_66 =>
                        br (!t72_66)
                          (some (3 : Int))
                          (bnd (slices_ContainsFunc_string_string_2 N x0.list ()) fun t77_67 =>
                          br (t77_67)
                            (some (3 : Int))
                            (br (decide (x0.number < (0 : Int)))
                              (some (1 : Int))
                              (br (decide (x0.number > (999999999 : Int)))
                                (some (1 : Int))
                                (br (x0.kind == (4 : Int))
                                  (bnd (r_script_checkCases x0.cases) fun t94_68 =>
                                  some t94_68)
                                  (some (0 : Int))))))))))))))
          (br (decide ((x0.list.length : Int) > (0 : Int)))
            (br (x0.kind != (3 : Int))
              (br (x0.kind != (3 : Int))
                (some (3 : Int))
                (br (decide ((x0.text.length : Int) > (1000 : Int)))
                  (some (2 : Int))
                  (br (decide ((x0.list.length : Int) > (1000 : Int)))
                    (some (2 : Int))
                    (bnd (slices_ContainsFunc_string_string N x0.list ()) fun t61_69 =>
                    br (t61_69)
                      (some (2 : Int))
                      (br (decide ((x0.cases.length : Int) > (50 : Int)))
                        (some (2 : Int))
                        (bnd (script_isText N x0.text) fun t72_70 =>
                        br (!t72_70)
                          (some (3 : Int))
                          (bnd (slices_ContainsFunc_string_string_2 N x0.list ()) fun t77_71 =>
                          br (t77_71)
                            (some (3 : Int))
                            (br (decide (x0.number < (0 : Int)))
                              (some (1 : Int))
                              (br (decide (x0.number > (999999999 : Int)))
                                (some (1 : Int))
                                (br (x0.kind == (4 : Int))
                                  (bnd (r_script_checkCases x0.cases) fun t94_72 =>
                                  some t94_72)
                                  (some (0 : Int))))))))))))
              (br (decide ((x0.cases.length : Int) > (0 : Int)))
                (br (x0.kind != (4 : Int))
                  (some (3 : Int))
                  (br (decide ((x0.text.length : Int) > (1000 : Int)))
                    (some (2 : Int))
                    (br (decide ((x0.list.length : Int) > (1000 : Int)))
                      (some (2 : Int))
                      (bnd (slices_ContainsFunc_string_string N x0.list ()) fun t61_73 =>
                      br (t61_73)
                        (some (2 : Int))
                        (br (decide ((x0.cases.length : Int) > (50 : Int)))
                          (some (2 : Int))
                          (bnd (script_isText N x0.text) fun t72_74 =>
                          br (!t72_74)
                            (some (3 : Int))
                            (bnd (slices_ContainsFunc_string_string_2 N x0.list ()) fun t77_75 =>
                            br (t77_75)
                              (some (3 : Int))
                              (br (decide (x0.number < (0 : Int)))
                                (some (1 : Int))
                                (br (decide (x0.number > (999999999 : Int)))
                                  (some (1 : Int))
                                  (br (x0.kind == (4 : Int))
                                    (bnd (r_script_checkCases x0.cases) fun t94_76 =>
                                    some t94_76)
                                    (some (0 : Int))))))))))))
                (br (decide ((x0.text.length : Int) > (1000 : Int)))
                  (some (2 : Int))
                  (br (decide ((x0.list.length : Int) > (1000 : Int)))
                    (some (2 : Int))
                    (bnd (slices_ContainsFunc_string_string N x0.list ()) fun t61_77 =>
                    br (t61_77)
                      (some (2 : Int))
                      (br (decide ((x0.cases.length : Int) > (50 : Int)))
                        (some (2 : Int))
                        (bnd (script_isText N x0.text) fun t72_78 =>
                        br (!t72_78)
                          (some (3 : Int))
                          (bnd (slices_ContainsFunc_string_string_2 N x0.list ()) fun t77_79 =>
                          br (t77_79)
                            (some (3 : Int))
                            (br (decide (x0.number < (0 : Int)))
                              (some (1 : Int))
                              (br (decide (x0.number > (999999999 : Int)))
                                (some (1 : Int))
                                (br (x0.kind == (4 : Int))
                                  (bnd (r_script_checkCases x0.cases) fun t94_80 =>
                                  some t94_80)
                                  (some (0 : Int)))))))))))))
            (br (decide ((x0.cases.length : Int) > (0 : Int)))
              (br (x0.kind != (4 : Int))
                (some (3 : Int))
                (br (decide ((x0.text.length : Int) > (1000 : Int)))
                  (some (2 : Int))
                  (br (decide ((x0.list.length : Int) > (1000 : Int)))
                    (some (2 : Int))
                    (bnd (slices_ContainsFunc_string_string N x0.list ()) fun t61_81 =>
                    br (t61_81)
                      (some (2 : Int))
                      (br (decide ((x0.cases.length : Int) > (50 : Int)))
                        (some (2 : Int))
                        (bnd (script_isText N x0.text) fun t72_82 =>
                        br (!t72_82)
                          (some (3 : Int))
                          (bnd (slices_ContainsFunc_string_string_2 N x0.list ()) fun t77_83 =>
                          br (t77_83)
                            (some (3 : Int))
                            (br (decide (x0.number < (0 : Int)))
                              (some (1 : Int))
                              (br (decide (x0.number > (999999999 : Int)))
                                (some (1 : Int))
                                (br (x0.kind == (4 : Int))
                                  (bnd (r_script_checkCases x0.cases) fun t94_84 =>
                                  some t94_84)
                                  (some (0 : Int))))))))))))
              (br (decide ((x0.text.length : Int) > (1000 : Int)))
                (some (2 : Int))
                (br (decide ((x0.list.length : Int) > (1000 : Int)))
                  (some (2 : Int))
                  (bnd (slices_ContainsFunc_string_string N x0.list ()) fun t61_85 =>
                  br (t61_85)
                    (some (2 : Int))
                    (br (decide ((x0.cases.length : Int) > (50 : Int)))
                      (some (2 : Int))
                      (bnd (script_isText N x0.text) fun t72_86 =>
                      br (!t72_86)
                        (some (3 : Int))
                        (bnd (slices_ContainsFunc_string_string_2 N x0.list ()) fun t77_87 =>
                        br (t77_87)
                          (some (3 : Int))
                          (br (decide (x0.number < (0 : Int)))
                            (some (1 : Int))
                            (br (decide (x0.number > (999999999 : Int)))
                              (some (1 : Int))
                              (br (x0.kind == (4 : Int))
                                (bnd (r_script_checkCases x0.cases) fun t94_88 =>
                                some t94_88)
                                (some (0 : Int))))))))))))))))
abbrev script_CheckValue_sg (f : SV [.v (.rc .value)] → BV [] → Option (Int)) : AF := { ps := [.v (.rc .value)], bs := [], rs := [.v (.int .i64)], cs := [], R := Int, out := fun z => ((z, ()), ()), f := f }
abbrev script_CheckValue_pk : SV [.v (.int .i64)] → BV [] → Int := fun x _ => x.1
def script_CheckValue_fn (N : Nat) (r_script_checkCases : (List (Str × GValue)) → Option (Int)) : FuncId → Option Tmp → Option AF := fun f q =>
  match f with
    | 40 => match q with | some 61 => some (slices_ContainsFunc_string_string_sg fun x _ => slices_ContainsFunc_string_string N x.1 x.2.1) | some 77 => some (slices_ContainsFunc_string_string_2_sg fun x _ => slices_ContainsFunc_string_string_2 N x.1 x.2.1) | _ => none
    | 42 => some (script_isText_sg fun x _ => script_isText N x.1)
    | 44 => some (script_checkCases_sg fun x _ => r_script_checkCases x.1)
    | _ => none
theorem script_CheckValue_fn_ok (N : Nat) (r_script_checkCases : (List (Str × GValue)) → Option (Int)) (h_script_checkCases : Sound Tryz.prog GW B0G 44 (script_checkCases_sg fun x y => r_script_checkCases x.1)) : ∀ f q F, script_CheckValue_fn N r_script_checkCases f q = some F → Sound Tryz.prog GW B0G f F := by
  intro f q F h
  unfold script_CheckValue_fn at h
  split at h
  · split at h
    · cases h; exact slices_ContainsFunc_string_string_sound N
    · cases h; exact slices_ContainsFunc_string_string_2_sound N
    · cases h
  · cases h; exact script_isText_sound N
  · cases h; exact h_script_checkCases
  · cases h
def script_CheckValue_h : Nat → Hint := fun i =>
  match i with
  | _ => ⟨[], [], [], [], [], []⟩
abbrev script_CheckValue_E (N : Nat) (r_script_checkCases : (List (Str × GValue)) → Option (Int)) : Env := mkE script_CheckValue_h (script_CheckValue_fn N r_script_checkCases) (fun _ => false) (fun _ => false)
noncomputable def script_CheckValue_LP (N : Nat) (r_script_checkCases : (List (Str × GValue)) → Option (Int)) : Nat → Code → St → (Ex → St → Option Int) → Option Int := fun i c =>
  match i with
  | i => fun st k => iter (script_CheckValue_h i) (exec (script_CheckValue_E N r_script_checkCases) N c i) N st k
theorem script_CheckValue_core (N : Nat) (r_script_checkCases : (List (Str × GValue)) → Option (Int)) (x : SV [.v (.rc .value)]) (y : BV []) : runL (script_CheckValue_E N r_script_checkCases) Tryz.f14 (script_CheckValue_sg fun x _ => script_CheckValue N r_script_checkCases x.1) script_CheckValue_pk (script_CheckValue_LP N r_script_checkCases) x y = script_CheckValue N r_script_checkCases x.1 := by kernel_rfl
theorem script_CheckValue_sound (N : Nat) (r_script_checkCases : (List (Str × GValue)) → Option (Int)) (h_script_checkCases : Sound Tryz.prog GW B0G 44 (script_checkCases_sg fun x y => r_script_checkCases x.1)) : Sound Tryz.prog GW B0G 14 (script_CheckValue_sg fun x _ => script_CheckValue N r_script_checkCases x.1) :=
  runD_sound (mkE_ok script_CheckValue_h (script_CheckValue_fn N r_script_checkCases) _ _ (script_CheckValue_fn_ok N r_script_checkCases h_script_checkCases)) Tryz.func14 rfl Tryz.call14 (script_CheckValue_sg fun x _ => script_CheckValue N r_script_checkCases x.1) script_CheckValue_pk (fun _ _ => rfl) N (fun x y _ h => ((runL_eq (script_CheckValue_E N r_script_checkCases) N Tryz.f14 (script_CheckValue_sg fun x _ => script_CheckValue N r_script_checkCases x.1) script_CheckValue_pk (script_CheckValue_LP N r_script_checkCases) (show LoopsOk (script_CheckValue_LP N r_script_checkCases) (script_CheckValue_E N r_script_checkCases) N (resD (script_CheckValue_E N r_script_checkCases) Tryz.f14 (script_CheckValue_sg fun x _ => script_CheckValue N r_script_checkCases x.1) script_CheckValue_pk) [] from trivial) x y).trans (script_CheckValue_core N r_script_checkCases x y)).trans h)
def script_checkCases_b_L0T (N : Nat) (r_script_checkCases : (List (Str × GValue)) → Option (Int)) (x0 : List (Str × GValue)) (c10 : List (Str × GValue)) (c11 : Int) (k0 : Option Int) (self : Int → Option Int) (s12 : Int) : Option Int :=
  br (decide (s12 < c11))
    (bnd (geti c10 s12) fun t15 =>
    bnd (script_checkText N t15.1) fun t19 =>
    br (t19 != (0 : Int))
      (some t19)
      (bnd (slc x0 (0 : Int) s12) fun t25 =>
      bnd (slices_ContainsFunc_api_Case N t25 ((t15.1, GValue.mk t15.2.kind t15.2.text t15.2.number t15.2.list t15.2.cases), ())) fun t27 =>
      br (t27)
        (some (7 : Int))
        (br (t15.2.kind == (4 : Int))
          (some (4 : Int))
          (bnd (script_CheckValue N r_script_checkCases (GValue.mk t15.2.kind t15.2.text t15.2.number t15.2.list t15.2.cases)) fun t34 =>
          br (t34 != (0 : Int))
            (some t34)
            (bnd (geti x0 (0 : Int)) fun t42 =>
            br (t15.2.kind != t42.2.kind)
              (some (6 : Int))
              (self (IntKind.i64.wrap (s12 + (1 : Int)))))))))
    (k0)
def script_checkCases_b_L0 (N : Nat) (r_script_checkCases : (List (Str × GValue)) → Option (Int)) (x0 : List (Str × GValue)) (c10 : List (Str × GValue)) (c11 : Int) (k0 : Option Int) : Nat → Int → Option Int
  | 0, _ => none
  | n + 1, s12 => script_checkCases_b_L0T N r_script_checkCases x0 c10 c11 k0 (script_checkCases_b_L0 N r_script_checkCases x0 c10 c11 k0 n) s12
def script_checkCases_b (N : Nat) (r_script_checkCases : (List (Str × GValue)) → Option (Int)) (x0 : List (Str × GValue)) : Option Int :=
  br ((x0.length : Int) == (0 : Int))
    (some (9 : Int))
    (script_checkCases_b_L0 N r_script_checkCases x0 x0 (x0.length : Int) (some (0 : Int)) N (0 : Int))
abbrev script_checkCases_b_sg (f : SV [.v (.sl (.pr .str (.rc .value)))] → BV [] → Option (Int)) : AF := { ps := [.v (.sl (.pr .str (.rc .value)))], bs := [], rs := [.v (.int .i64)], cs := [], R := Int, out := fun z => ((z, ()), ()), f := f }
abbrev script_checkCases_b_pk : SV [.v (.int .i64)] → BV [] → Int := fun x _ => x.1
def script_checkCases_b_fn (N : Nat) (r_script_checkCases : (List (Str × GValue)) → Option (Int)) : FuncId → Option Tmp → Option AF := fun f _ =>
  match f with
    | 14 => some (script_CheckValue_sg fun x _ => script_CheckValue N r_script_checkCases x.1)
    | 88 => some (script_checkText_sg fun x _ => script_checkText N x.1)
    | 89 => some (slices_ContainsFunc_api_Case_sg fun x _ => slices_ContainsFunc_api_Case N x.1 x.2.1)
    | 90 => some (noneAF [.v (.ptr (.pr .str (.rc .value)))])
    | _ => none
theorem script_checkCases_b_fn_ok (N : Nat) (r_script_checkCases : (List (Str × GValue)) → Option (Int)) (h_script_checkCases : Sound Tryz.prog GW B0G 44 (script_checkCases_sg fun x y => r_script_checkCases x.1)) : ∀ f q F, script_checkCases_b_fn N r_script_checkCases f q = some F → Sound Tryz.prog GW B0G f F := by
  intro f q F h
  unfold script_checkCases_b_fn at h
  split at h
  · cases h; exact script_CheckValue_sound N r_script_checkCases h_script_checkCases
  · cases h; exact script_checkText_sound N
  · cases h; exact slices_ContainsFunc_api_Case_sound N
  · cases h; exact noneAF_sound Tryz.call90 _
  · cases h
def script_checkCases_b_h : Nat → Hint := fun i =>
  match i with
  | 0 => ⟨[], [0, 10, 11, 12], [], [], [], []⟩
  | _ => ⟨[], [], [], [], [], []⟩
abbrev script_checkCases_b_E (N : Nat) (r_script_checkCases : (List (Str × GValue)) → Option (Int)) : Env := mkE script_checkCases_b_h (script_checkCases_b_fn N r_script_checkCases) (fun _ => false) (fun _ => false)
abbrev script_checkCases_b_L0_fs : List (Nat × Sl) := [(0, .v (.sl (.pr .str (.rc .value)))), (10, .v (.sl (.pr .str (.rc .value)))), (11, .v (.int .i64)), (12, .v (.int .i64))]
abbrev script_checkCases_b_L0_bs : List (Nat × Sb) := []
def script_checkCases_b_L0_hd (x0 : List (Str × GValue)) (c10 : List (Str × GValue)) (c11 : Int) (s12 : Int) : St := ⟨48, [(0, .v (.sl (.pr .str (.rc .value))) x0), (10, .v (.sl (.pr .str (.rc .value))) c10), (11, .v (.int .i64) c11), (12, .v (.int .i64) s12)], []⟩
def script_checkCases_b_L0_tl0 (_x0 : List (Str × GValue)) (_c10 : List (Str × GValue)) (_c11 : Int) : St := ⟨48, [], []⟩
def script_checkCases_b_L0_G (N : Nat) (r_script_checkCases : (List (Str × GValue)) → Option (Int)) (x0 : List (Str × GValue)) (c10 : List (Str × GValue)) (c11 : Int) (s12 : Int) (k : Ex → St → Option Int) : Option Int :=
  script_checkCases_b_L0 N r_script_checkCases x0 c10 c11 (k (.exit 0) (script_checkCases_b_L0_tl0 x0 c10 c11)) N s12
abbrev script_checkCases_b_L0_F (N : Nat) (r_script_checkCases : (List (Str × GValue)) → Option (Int)) : FV script_checkCases_b_L0_fs → HV script_checkCases_b_L0_bs → (Ex → St → Option Int) → Option Int := fun x _ k => script_checkCases_b_L0_G N r_script_checkCases x.1 x.2.1 x.2.2.1 x.2.2.2.1 k
noncomputable def script_checkCases_b_LP (N : Nat) (r_script_checkCases : (List (Str × GValue)) → Option (Int)) : Nat → Code → St → (Ex → St → Option Int) → Option Int := fun i c =>
  match i with
  | 0 => (LPc 48 script_checkCases_b_L0_fs script_checkCases_b_L0_bs (script_checkCases_b_L0_F N r_script_checkCases) (fun st k => iter (script_checkCases_b_h 0) (exec (script_checkCases_b_E N r_script_checkCases) N c 0) N st k))
  | i => fun st k => iter (script_checkCases_b_h i) (exec (script_checkCases_b_E N r_script_checkCases) N c i) N st k
theorem script_checkCases_b_L0_step (N : Nat) (r_script_checkCases : (List (Str × GValue)) → Option (Int)) (x0 : List (Str × GValue)) (c10 : List (Str × GValue)) (c11 : Int) (KX : Nat → St → Option Int) (I : St → Option Int) (s12 : Int) :
    execL (script_checkCases_b_LP N r_script_checkCases) (script_checkCases_b_E N r_script_checkCases) (cAt (bodyOf Tryz.f44) [true, true, false, true, false, false]) 0 (script_checkCases_b_L0_hd x0 c10 c11 s12) (roundK (script_checkCases_b_h 0) I KX (resD (script_checkCases_b_E N r_script_checkCases) Tryz.f44 (script_checkCases_b_sg fun x _ => script_checkCases_b N r_script_checkCases x.1) script_checkCases_b_pk)) = script_checkCases_b_L0T N r_script_checkCases x0 c10 c11 (KX 0 (script_checkCases_b_L0_tl0 x0 c10 c11)) (fun s12 => I (script_checkCases_b_L0_hd x0 c10 c11 s12)) s12 := by kernel_rfl
theorem script_checkCases_b_L0_ok (N : Nat) (r_script_checkCases : (List (Str × GValue)) → Option (Int)) : ∀ x y k, (∀ st, k .ret st = (resD (script_checkCases_b_E N r_script_checkCases) Tryz.f44 (script_checkCases_b_sg fun x _ => script_checkCases_b N r_script_checkCases x.1) script_checkCases_b_pk) st) → iter (script_checkCases_b_h 0) (exec (script_checkCases_b_E N r_script_checkCases) N (cAt (bodyOf Tryz.f44) [true, true, false, true, false, false]) 0) N ⟨48, unF script_checkCases_b_L0_fs x, unH script_checkCases_b_L0_bs y⟩ k = script_checkCases_b_L0_F N r_script_checkCases x y k := fun x _ k hk =>
  iter_link (S := (Int) × Unit) (script_checkCases_b_h 0) _ (execL (script_checkCases_b_LP N r_script_checkCases) (script_checkCases_b_E N r_script_checkCases) (cAt (bodyOf Tryz.f44) [true, true, false, true, false, false]) 0) (resD (script_checkCases_b_E N r_script_checkCases) Tryz.f44 (script_checkCases_b_sg fun x _ => script_checkCases_b N r_script_checkCases x.1) script_checkCases_b_pk) (fun st k hk => execL_eq _ _ N _ (cAt (bodyOf Tryz.f44) [true, true, false, true, false, false]) 0 (show LoopsOk (script_checkCases_b_LP N r_script_checkCases) (script_checkCases_b_E N r_script_checkCases) N (resD (script_checkCases_b_E N r_script_checkCases) Tryz.f44 (script_checkCases_b_sg fun x _ => script_checkCases_b N r_script_checkCases x.1) script_checkCases_b_pk) [] from trivial) st k hk) (fun s => script_checkCases_b_L0_hd x.1 x.2.1 x.2.2.1 s.1) k hk
    (fun self s => script_checkCases_b_L0T N r_script_checkCases x.1 x.2.1 x.2.2.1 (k (.exit 0) (script_checkCases_b_L0_tl0 x.1 x.2.1 x.2.2.1)) (fun s12 => self (s12, ())) s.1) (fun n s => script_checkCases_b_L0 N r_script_checkCases x.1 x.2.1 x.2.2.1 (k (.exit 0) (script_checkCases_b_L0_tl0 x.1 x.2.1 x.2.2.1)) n s.1) (fun _ => rfl) (fun _ _ => rfl)
    (fun I s => script_checkCases_b_L0_step N r_script_checkCases x.1 x.2.1 x.2.2.1 (fun j => k (.exit j)) I s.1) N (x.2.2.2.1, ())
theorem script_checkCases_b_lp0 (N : Nat) (r_script_checkCases : (List (Str × GValue)) → Option (Int)) : ∀ st k, (∀ st, k .ret st = (resD (script_checkCases_b_E N r_script_checkCases) Tryz.f44 (script_checkCases_b_sg fun x _ => script_checkCases_b N r_script_checkCases x.1) script_checkCases_b_pk) st) → script_checkCases_b_LP N r_script_checkCases 0 (cAt (bodyOf Tryz.f44) [true, true, false, true, false, false]) st k = iter (Env.hint (script_checkCases_b_E N r_script_checkCases) 0) (exec (script_checkCases_b_E N r_script_checkCases) N (cAt (bodyOf Tryz.f44) [true, true, false, true, false, false]) 0) N st k := fun st k hk => LPc_eq 48 script_checkCases_b_L0_fs script_checkCases_b_L0_bs _ _ (resD (script_checkCases_b_E N r_script_checkCases) Tryz.f44 (script_checkCases_b_sg fun x _ => script_checkCases_b N r_script_checkCases x.1) script_checkCases_b_pk) (script_checkCases_b_L0_ok N r_script_checkCases) _ st k hk (rfl)
theorem script_checkCases_b_core (N : Nat) (r_script_checkCases : (List (Str × GValue)) → Option (Int)) (x : SV [.v (.sl (.pr .str (.rc .value)))]) (y : BV []) : runL (script_checkCases_b_E N r_script_checkCases) Tryz.f44 (script_checkCases_b_sg fun x _ => script_checkCases_b N r_script_checkCases x.1) script_checkCases_b_pk (script_checkCases_b_LP N r_script_checkCases) x y = script_checkCases_b N r_script_checkCases x.1 := by kernel_rfl
theorem script_checkCases_b_sound (N : Nat) (r_script_checkCases : (List (Str × GValue)) → Option (Int)) (h_script_checkCases : Sound Tryz.prog GW B0G 44 (script_checkCases_sg fun x y => r_script_checkCases x.1)) : Sound Tryz.prog GW B0G 44 (script_checkCases_b_sg fun x _ => script_checkCases_b N r_script_checkCases x.1) :=
  runD_sound (mkE_ok script_checkCases_b_h (script_checkCases_b_fn N r_script_checkCases) _ _ (script_checkCases_b_fn_ok N r_script_checkCases h_script_checkCases)) Tryz.func44 rfl Tryz.call44 (script_checkCases_b_sg fun x _ => script_checkCases_b N r_script_checkCases x.1) script_checkCases_b_pk (fun _ _ => rfl) N (fun x y _ h => ((runL_eq (script_checkCases_b_E N r_script_checkCases) N Tryz.f44 (script_checkCases_b_sg fun x _ => script_checkCases_b N r_script_checkCases x.1) script_checkCases_b_pk (script_checkCases_b_LP N r_script_checkCases) (show LoopsOk (script_checkCases_b_LP N r_script_checkCases) (script_checkCases_b_E N r_script_checkCases) N (resD (script_checkCases_b_E N r_script_checkCases) Tryz.f44 (script_checkCases_b_sg fun x _ => script_checkCases_b N r_script_checkCases x.1) script_checkCases_b_pk) [(0, (cAt (bodyOf Tryz.f44) [true, true, false, true, false, false]))] from ⟨script_checkCases_b_lp0 N r_script_checkCases, trivial⟩) x y).trans (script_checkCases_b_core N r_script_checkCases x y)).trans h)
def script_checkCases (N : Nat) : Nat → (List (Str × GValue)) → Option (Int)
  | 0 => fun _ => none
  | d + 1 => script_checkCases_b N (script_checkCases N d)
theorem script_checkCases_sound (N : Nat) : ∀ d, Sound Tryz.prog GW B0G 44 (script_checkCases_sg fun x y => script_checkCases N d x.1)
  | 0 => Sound.never Tryz.call44 (fun _ _ => rfl)
  | d + 1 => script_checkCases_b_sound N (script_checkCases N d) (script_checkCases_sound N d)
def script_checkTwo (N : Nat) (x0 : GValue) (x1 : GValue) : Option Int :=
  bnd (script_CheckValue N (script_checkCases N N) (GValue.mk x0.kind x0.text x0.number x0.list x0.cases)) fun t7 =>
  br (t7 != (0 : Int))
    (some t7)
    (bnd (script_CheckValue N (script_checkCases N N) (GValue.mk x1.kind x1.text x1.number x1.list x1.cases)) fun t12 =>
    some t12)
abbrev script_checkTwo_sg (f : SV [.v (.rc .value), .v (.rc .value)] → BV [] → Option (Int)) : AF := { ps := [.v (.rc .value), .v (.rc .value)], bs := [], rs := [.v (.int .i64)], cs := [], R := Int, out := fun z => ((z, ()), ()), f := f }
abbrev script_checkTwo_pk : SV [.v (.int .i64)] → BV [] → Int := fun x _ => x.1
def script_checkTwo_fn (N : Nat) : FuncId → Option Tmp → Option AF := fun f _ =>
  match f with
    | 14 => some (script_CheckValue_sg fun x _ => script_CheckValue N (script_checkCases N N) x.1)
    | _ => none
theorem script_checkTwo_fn_ok (N : Nat) : ∀ f q F, script_checkTwo_fn N f q = some F → Sound Tryz.prog GW B0G f F := by
  intro f q F h
  unfold script_checkTwo_fn at h
  split at h
  · cases h; exact script_CheckValue_sound N (script_checkCases N N) (script_checkCases_sound N N)
  · cases h
def script_checkTwo_h : Nat → Hint := fun i =>
  match i with
  | _ => ⟨[], [], [], [], [], []⟩
abbrev script_checkTwo_E (N : Nat) : Env := mkE script_checkTwo_h (script_checkTwo_fn N) (fun _ => false) (fun _ => false)
noncomputable def script_checkTwo_LP (N : Nat) : Nat → Code → St → (Ex → St → Option Int) → Option Int := fun i c =>
  match i with
  | i => fun st k => iter (script_checkTwo_h i) (exec (script_checkTwo_E N) N c i) N st k
theorem script_checkTwo_core (N : Nat) (x : SV [.v (.rc .value), .v (.rc .value)]) (y : BV []) : runL (script_checkTwo_E N) Tryz.f34 (script_checkTwo_sg fun x _ => script_checkTwo N x.1 x.2.1) script_checkTwo_pk (script_checkTwo_LP N) x y = script_checkTwo N x.1 x.2.1 := by kernel_rfl
theorem script_checkTwo_sound (N : Nat) : Sound Tryz.prog GW B0G 34 (script_checkTwo_sg fun x _ => script_checkTwo N x.1 x.2.1) :=
  runD_sound (mkE_ok script_checkTwo_h (script_checkTwo_fn N) _ _ (script_checkTwo_fn_ok N)) Tryz.func34 rfl Tryz.call34 (script_checkTwo_sg fun x _ => script_checkTwo N x.1 x.2.1) script_checkTwo_pk (fun _ _ => rfl) N (fun x y _ h => ((runL_eq (script_checkTwo_E N) N Tryz.f34 (script_checkTwo_sg fun x _ => script_checkTwo N x.1 x.2.1) script_checkTwo_pk (script_checkTwo_LP N) (show LoopsOk (script_checkTwo_LP N) (script_checkTwo_E N) N (resD (script_checkTwo_E N) Tryz.f34 (script_checkTwo_sg fun x _ => script_checkTwo N x.1 x.2.1) script_checkTwo_pk) [] from trivial) x y).trans (script_checkTwo_core N x y)).trans h)
def script_kindOf (_N : Nat) (x0 : GValue) : Option Int :=
  br (x0.kind == (4 : Int))
    (bnd (geti x0.cases (0 : Int)) fun t8 =>
    some t8.2.kind)
    (some x0.kind)
abbrev script_kindOf_sg (f : SV [.v (.rc .value)] → BV [] → Option (Int)) : AF := { ps := [.v (.rc .value)], bs := [], rs := [.v (.int .i64)], cs := [], R := Int, out := fun z => ((z, ()), ()), f := f }
abbrev script_kindOf_pk : SV [.v (.int .i64)] → BV [] → Int := fun x _ => x.1
def script_kindOf_fn (_N : Nat) : FuncId → Option Tmp → Option AF := fun f _ =>
  match f with
    | _ => none
theorem script_kindOf_fn_ok (N : Nat) : ∀ f q F, script_kindOf_fn N f q = some F → Sound Tryz.prog GW B0G f F := by
  intro f q F h
  unfold script_kindOf_fn at h
  split at h
  · cases h
def script_kindOf_h : Nat → Hint := fun i =>
  match i with
  | _ => ⟨[], [], [], [], [], []⟩
abbrev script_kindOf_E (N : Nat) : Env := mkE script_kindOf_h (script_kindOf_fn N) (fun _ => false) (fun _ => false)
noncomputable def script_kindOf_LP (N : Nat) : Nat → Code → St → (Ex → St → Option Int) → Option Int := fun i c =>
  match i with
  | i => fun st k => iter (script_kindOf_h i) (exec (script_kindOf_E N) N c i) N st k
theorem script_kindOf_core (N : Nat) (x : SV [.v (.rc .value)]) (y : BV []) : runL (script_kindOf_E N) Tryz.f78 (script_kindOf_sg fun x _ => script_kindOf N x.1) script_kindOf_pk (script_kindOf_LP N) x y = script_kindOf N x.1 := by kernel_rfl
theorem script_kindOf_sound (N : Nat) : Sound Tryz.prog GW B0G 78 (script_kindOf_sg fun x _ => script_kindOf N x.1) :=
  runD_sound (mkE_ok script_kindOf_h (script_kindOf_fn N) _ _ (script_kindOf_fn_ok N)) Tryz.func78 rfl Tryz.call78 (script_kindOf_sg fun x _ => script_kindOf N x.1) script_kindOf_pk (fun _ _ => rfl) N (fun x y _ h => ((runL_eq (script_kindOf_E N) N Tryz.f78 (script_kindOf_sg fun x _ => script_kindOf N x.1) script_kindOf_pk (script_kindOf_LP N) (show LoopsOk (script_kindOf_LP N) (script_kindOf_E N) N (resD (script_kindOf_E N) Tryz.f78 (script_kindOf_sg fun x _ => script_kindOf N x.1) script_kindOf_pk) [] from trivial) x y).trans (script_kindOf_core N x y)).trans h)
def slices_Concat_string_string_L0T (_N : Nat) (c9 : List (List Str)) (c10 : Int) (k0 : Int → Option (List Str)) (self : Int → Int → Option (List Str)) (s3 : Int) (s11 : Int) : Option (List Str) :=
  br (decide (s11 < c10))
    (bnd (geti c9 s11) fun t13 =>
    br (decide ((IntKind.i64.wrap (s3 + (t13.length : Int))) < (0 : Int)))
      none
      (self (IntKind.i64.wrap (s3 + (t13.length : Int))) (IntKind.i64.wrap (s11 + (1 : Int)))))
    (k0 s3)
def slices_Concat_string_string_L0 (N : Nat) (c9 : List (List Str)) (c10 : Int) (k0 : Int → Option (List Str)) : Nat → Int → Int → Option (List Str)
  | 0, _, _ => none
  | n + 1, s3, s11 => slices_Concat_string_string_L0T N c9 c10 k0 (slices_Concat_string_string_L0 N c9 c10 k0 n) s3 s11
def slices_Concat_string_string_L1T (_N : Nat) (x0 : List (List Str)) (c26 : Int) (k2 : (List Str) → Option (List Str)) (self : Int → (List Str) → Option (List Str)) (s27 : Int) (w102400 : List Str) : Option (List Str) :=
  br (decide (s27 < c26))
    (bnd (geti x0 s27) fun t29 =>
    br (decide ((w102400.length + t29.length) * (24 * Ty.sz .str) ≤ 140737488355328))
      (self (IntKind.i64.wrap (s27 + (1 : Int))) (w102400 ++ t29))
      none)
    (k2 w102400)
def slices_Concat_string_string_L1 (N : Nat) (x0 : List (List Str)) (c26 : Int) (k2 : (List Str) → Option (List Str)) : Nat → Int → (List Str) → Option (List Str)
  | 0, _, _ => none
  | n + 1, s27, w102400 => slices_Concat_string_string_L1T N x0 c26 k2 (slices_Concat_string_string_L1 N x0 c26 k2 n) s27 w102400
def slices_Concat_string_string (N : Nat) (x0 : List (List Str)) : Option (List Str) :=
  slices_Concat_string_string_L0 N x0 (x0.length : Int) (fun o0_3 =>
      bnd (slices_Grow_string o0_3) fun t24 =>
      slices_Concat_string_string_L1 N x0 (x0.length : Int) (fun o1_w102400 =>
          some o1_w102400) N (0 : Int) t24) N (0 : Int) (0 : Int)
abbrev slices_Concat_string_string_sg (f : SV [.v (.sl (.sl .str))] → BV [] → Option (List Str)) : AF := { ps := [.v (.sl (.sl .str))], bs := [], rs := [.row 0], cs := [.row 9 .str false], R := List Str, out := fun z => (((), ()), (z, ())), f := f }
abbrev slices_Concat_string_string_pk : SV [.row 0] → BV [.row 9 .str false] → (List Str) := fun _ y => y.1
def slices_Concat_string_string_fn (_N : Nat) : FuncId → Option Tmp → Option AF := fun f _ =>
  match f with
    | 132 => some (slices_Grow_string_sg fun x _ => slices_Grow_string x.2.1)
    | _ => none
theorem slices_Concat_string_string_fn_ok (N : Nat) : ∀ f q F, slices_Concat_string_string_fn N f q = some F → Sound Tryz.prog GW B0G f F := by
  intro f q F h
  unfold slices_Concat_string_string_fn at h
  split at h
  · cases h; exact slices_Grow_string_sound
  · cases h
def slices_Concat_string_string_h : Nat → Hint := fun i =>
  match i with
  | 0 => ⟨[], [0, 3, 9, 10, 11], [], [0, 3], [], []⟩
  | 2 => ⟨[], [6, 25, 26, 27], [102400], [6], [102400], []⟩
  | _ => ⟨[], [], [], [], [], []⟩
abbrev slices_Concat_string_string_E (N : Nat) : Env := mkE slices_Concat_string_string_h (slices_Concat_string_string_fn N) (fun _ => false) (fun _ => false)
abbrev slices_Concat_string_string_L0_fs : List (Nat × Sl) := [(0, .v (.sl (.sl .str))), (3, .v (.int .i64)), (9, .v (.sl (.sl .str))), (10, .v (.int .i64)), (11, .v (.int .i64))]
abbrev slices_Concat_string_string_L0_bs : List (Nat × Sb) := []
def slices_Concat_string_string_L0_hd (x0 : List (List Str)) (c9 : List (List Str)) (c10 : Int) (s3 : Int) (s11 : Int) : St := ⟨36, [(0, .v (.sl (.sl .str)) x0), (3, .v (.int .i64) s3), (9, .v (.sl (.sl .str)) c9), (10, .v (.int .i64) c10), (11, .v (.int .i64) s11)], []⟩
def slices_Concat_string_string_L0_tl0 (x0 : List (List Str)) (_c9 : List (List Str)) (_c10 : Int) (o0_3 : Int) : St := ⟨36, [(0, .v (.sl (.sl .str)) x0), (3, .v (.int .i64) o0_3)], []⟩
def slices_Concat_string_string_L0_G (N : Nat) (x0 : List (List Str)) (c9 : List (List Str)) (c10 : Int) (s3 : Int) (s11 : Int) (k : Ex → St → Option (List Str)) : Option (List Str) :=
  slices_Concat_string_string_L0 N c9 c10 (fun o0_3 => k (.exit 0) (slices_Concat_string_string_L0_tl0 x0 c9 c10 o0_3)) N s3 s11
abbrev slices_Concat_string_string_L0_F (N : Nat) : FV slices_Concat_string_string_L0_fs → HV slices_Concat_string_string_L0_bs → (Ex → St → Option (List Str)) → Option (List Str) := fun x _ k => slices_Concat_string_string_L0_G N x.1 x.2.2.1 x.2.2.2.1 x.2.1 x.2.2.2.2.1 k
abbrev slices_Concat_string_string_L1_fs : List (Nat × Sl) := [(6, .row 102400), (25, .v (.sl (.sl .str))), (26, .v (.int .i64)), (27, .v (.int .i64))]
abbrev slices_Concat_string_string_L1_bs : List (Nat × Sb) := [(102400, .row 9 .str false)]
def slices_Concat_string_string_L1_hd (x0 : List (List Str)) (c26 : Int) (s27 : Int) (w102400 : List Str) : St := ⟨36, [(6, .row 102400), (25, .v (.sl (.sl .str)) x0), (26, .v (.int .i64) c26), (27, .v (.int .i64) s27)], [(102400, .row 9 .str false w102400)]⟩
def slices_Concat_string_string_L1_tl2 (_x0 : List (List Str)) (_c26 : Int) (o1_w102400 : List Str) : St := ⟨36, [(6, .row 102400)], [(102400, .row 9 .str false o1_w102400)]⟩
def slices_Concat_string_string_L1_G (N : Nat) (x0 : List (List Str)) (c26 : Int) (s27 : Int) (w102400 : List Str) (k : Ex → St → Option (List Str)) : Option (List Str) :=
  slices_Concat_string_string_L1 N x0 c26 (fun o1_w102400 => k (.exit 2) (slices_Concat_string_string_L1_tl2 x0 c26 o1_w102400)) N s27 w102400
abbrev slices_Concat_string_string_L1_F (N : Nat) : FV slices_Concat_string_string_L1_fs → HV slices_Concat_string_string_L1_bs → (Ex → St → Option (List Str)) → Option (List Str) := fun x y k => slices_Concat_string_string_L1_G N x.2.1 x.2.2.1 x.2.2.2.1 y.1 k
noncomputable def slices_Concat_string_string_LP (N : Nat) : Nat → Code → St → (Ex → St → Option (List Str)) → Option (List Str) := fun i c =>
  match i with
  | 0 => (LPc 36 slices_Concat_string_string_L0_fs slices_Concat_string_string_L0_bs (slices_Concat_string_string_L0_F N) (fun st k => iter (slices_Concat_string_string_h 0) (exec (slices_Concat_string_string_E N) N c 0) N st k))
  | 2 => (LPc 36 slices_Concat_string_string_L1_fs slices_Concat_string_string_L1_bs (slices_Concat_string_string_L1_F N) (fun st k => iter (slices_Concat_string_string_h 2) (exec (slices_Concat_string_string_E N) N c 2) N st k))
  | i => fun st k => iter (slices_Concat_string_string_h i) (exec (slices_Concat_string_string_E N) N c i) N st k
theorem slices_Concat_string_string_L1_step (N : Nat) (x0 : List (List Str)) (c26 : Int) (KX : Nat → St → Option (List Str)) (I : St → Option (List Str)) (s27 : Int) (w102400 : List Str) :
    execL (slices_Concat_string_string_LP N) (slices_Concat_string_string_E N) (cAt (bodyOf Tryz.f86) [true, true, true, true, false, true, false, false]) 2 (slices_Concat_string_string_L1_hd x0 c26 s27 w102400) (roundK (slices_Concat_string_string_h 2) I KX (resD (slices_Concat_string_string_E N) Tryz.f86 (slices_Concat_string_string_sg fun x _ => slices_Concat_string_string N x.1) slices_Concat_string_string_pk)) = slices_Concat_string_string_L1T N x0 c26 (fun o1_w102400 => KX 2 (slices_Concat_string_string_L1_tl2 x0 c26 o1_w102400)) (fun s27 w102400 => I (slices_Concat_string_string_L1_hd x0 c26 s27 w102400)) s27 w102400 := by kernel_rfl
theorem slices_Concat_string_string_L1_ok (N : Nat) : ∀ x y k, (∀ st, k .ret st = (resD (slices_Concat_string_string_E N) Tryz.f86 (slices_Concat_string_string_sg fun x _ => slices_Concat_string_string N x.1) slices_Concat_string_string_pk) st) → iter (slices_Concat_string_string_h 2) (exec (slices_Concat_string_string_E N) N (cAt (bodyOf Tryz.f86) [true, true, true, true, false, true, false, false]) 2) N ⟨36, unF slices_Concat_string_string_L1_fs x, unH slices_Concat_string_string_L1_bs y⟩ k = slices_Concat_string_string_L1_F N x y k := fun x y k hk =>
  iter_link (S := (Int) × (List Str) × Unit) (slices_Concat_string_string_h 2) _ (execL (slices_Concat_string_string_LP N) (slices_Concat_string_string_E N) (cAt (bodyOf Tryz.f86) [true, true, true, true, false, true, false, false]) 2) (resD (slices_Concat_string_string_E N) Tryz.f86 (slices_Concat_string_string_sg fun x _ => slices_Concat_string_string N x.1) slices_Concat_string_string_pk) (fun st k hk => execL_eq _ _ N _ (cAt (bodyOf Tryz.f86) [true, true, true, true, false, true, false, false]) 2 (show LoopsOk (slices_Concat_string_string_LP N) (slices_Concat_string_string_E N) N (resD (slices_Concat_string_string_E N) Tryz.f86 (slices_Concat_string_string_sg fun x _ => slices_Concat_string_string N x.1) slices_Concat_string_string_pk) [] from trivial) st k hk) (fun s => slices_Concat_string_string_L1_hd x.2.1 x.2.2.1 s.1 s.2.1) k hk
    (fun self s => slices_Concat_string_string_L1T N x.2.1 x.2.2.1 (fun o1_w102400 => k (.exit 2) (slices_Concat_string_string_L1_tl2 x.2.1 x.2.2.1 o1_w102400)) (fun s27 w102400 => self (s27, w102400, ())) s.1 s.2.1) (fun n s => slices_Concat_string_string_L1 N x.2.1 x.2.2.1 (fun o1_w102400 => k (.exit 2) (slices_Concat_string_string_L1_tl2 x.2.1 x.2.2.1 o1_w102400)) n s.1 s.2.1) (fun _ => rfl) (fun _ _ => rfl)
    (fun I s => slices_Concat_string_string_L1_step N x.2.1 x.2.2.1 (fun j => k (.exit j)) I s.1 s.2.1) N (x.2.2.2.1, y.1, ())
theorem slices_Concat_string_string_lp2 (N : Nat) : ∀ st k, (∀ st, k .ret st = (resD (slices_Concat_string_string_E N) Tryz.f86 (slices_Concat_string_string_sg fun x _ => slices_Concat_string_string N x.1) slices_Concat_string_string_pk) st) → slices_Concat_string_string_LP N 2 (cAt (bodyOf Tryz.f86) [true, true, true, true, false, true, false, false]) st k = iter (Env.hint (slices_Concat_string_string_E N) 2) (exec (slices_Concat_string_string_E N) N (cAt (bodyOf Tryz.f86) [true, true, true, true, false, true, false, false]) 2) N st k := fun st k hk => LPc_eq 36 slices_Concat_string_string_L1_fs slices_Concat_string_string_L1_bs _ _ (resD (slices_Concat_string_string_E N) Tryz.f86 (slices_Concat_string_string_sg fun x _ => slices_Concat_string_string N x.1) slices_Concat_string_string_pk) (slices_Concat_string_string_L1_ok N) _ st k hk (rfl)
theorem slices_Concat_string_string_L0_step (N : Nat) (x0 : List (List Str)) (c9 : List (List Str)) (c10 : Int) (KX : Nat → St → Option (List Str)) (I : St → Option (List Str)) (s3 : Int) (s11 : Int) :
    execL (slices_Concat_string_string_LP N) (slices_Concat_string_string_E N) (cAt (bodyOf Tryz.f86) [true, true, false, true, false, false]) 0 (slices_Concat_string_string_L0_hd x0 c9 c10 s3 s11) (roundK (slices_Concat_string_string_h 0) I KX (resD (slices_Concat_string_string_E N) Tryz.f86 (slices_Concat_string_string_sg fun x _ => slices_Concat_string_string N x.1) slices_Concat_string_string_pk)) = slices_Concat_string_string_L0T N c9 c10 (fun o0_3 => KX 0 (slices_Concat_string_string_L0_tl0 x0 c9 c10 o0_3)) (fun s3 s11 => I (slices_Concat_string_string_L0_hd x0 c9 c10 s3 s11)) s3 s11 := by kernel_rfl
theorem slices_Concat_string_string_L0_ok (N : Nat) : ∀ x y k, (∀ st, k .ret st = (resD (slices_Concat_string_string_E N) Tryz.f86 (slices_Concat_string_string_sg fun x _ => slices_Concat_string_string N x.1) slices_Concat_string_string_pk) st) → iter (slices_Concat_string_string_h 0) (exec (slices_Concat_string_string_E N) N (cAt (bodyOf Tryz.f86) [true, true, false, true, false, false]) 0) N ⟨36, unF slices_Concat_string_string_L0_fs x, unH slices_Concat_string_string_L0_bs y⟩ k = slices_Concat_string_string_L0_F N x y k := fun x _ k hk =>
  iter_link (S := (Int) × (Int) × Unit) (slices_Concat_string_string_h 0) _ (execL (slices_Concat_string_string_LP N) (slices_Concat_string_string_E N) (cAt (bodyOf Tryz.f86) [true, true, false, true, false, false]) 0) (resD (slices_Concat_string_string_E N) Tryz.f86 (slices_Concat_string_string_sg fun x _ => slices_Concat_string_string N x.1) slices_Concat_string_string_pk) (fun st k hk => execL_eq _ _ N _ (cAt (bodyOf Tryz.f86) [true, true, false, true, false, false]) 0 (show LoopsOk (slices_Concat_string_string_LP N) (slices_Concat_string_string_E N) N (resD (slices_Concat_string_string_E N) Tryz.f86 (slices_Concat_string_string_sg fun x _ => slices_Concat_string_string N x.1) slices_Concat_string_string_pk) [] from trivial) st k hk) (fun s => slices_Concat_string_string_L0_hd x.1 x.2.2.1 x.2.2.2.1 s.1 s.2.1) k hk
    (fun self s => slices_Concat_string_string_L0T N x.2.2.1 x.2.2.2.1 (fun o0_3 => k (.exit 0) (slices_Concat_string_string_L0_tl0 x.1 x.2.2.1 x.2.2.2.1 o0_3)) (fun s3 s11 => self (s3, s11, ())) s.1 s.2.1) (fun n s => slices_Concat_string_string_L0 N x.2.2.1 x.2.2.2.1 (fun o0_3 => k (.exit 0) (slices_Concat_string_string_L0_tl0 x.1 x.2.2.1 x.2.2.2.1 o0_3)) n s.1 s.2.1) (fun _ => rfl) (fun _ _ => rfl)
    (fun I s => slices_Concat_string_string_L0_step N x.1 x.2.2.1 x.2.2.2.1 (fun j => k (.exit j)) I s.1 s.2.1) N (x.2.1, x.2.2.2.2.1, ())
theorem slices_Concat_string_string_lp0 (N : Nat) : ∀ st k, (∀ st, k .ret st = (resD (slices_Concat_string_string_E N) Tryz.f86 (slices_Concat_string_string_sg fun x _ => slices_Concat_string_string N x.1) slices_Concat_string_string_pk) st) → slices_Concat_string_string_LP N 0 (cAt (bodyOf Tryz.f86) [true, true, false, true, false, false]) st k = iter (Env.hint (slices_Concat_string_string_E N) 0) (exec (slices_Concat_string_string_E N) N (cAt (bodyOf Tryz.f86) [true, true, false, true, false, false]) 0) N st k := fun st k hk => LPc_eq 36 slices_Concat_string_string_L0_fs slices_Concat_string_string_L0_bs _ _ (resD (slices_Concat_string_string_E N) Tryz.f86 (slices_Concat_string_string_sg fun x _ => slices_Concat_string_string N x.1) slices_Concat_string_string_pk) (slices_Concat_string_string_L0_ok N) _ st k hk (rfl)
theorem slices_Concat_string_string_core (N : Nat) (x : SV [.v (.sl (.sl .str))]) (y : BV []) : runL (slices_Concat_string_string_E N) Tryz.f86 (slices_Concat_string_string_sg fun x _ => slices_Concat_string_string N x.1) slices_Concat_string_string_pk (slices_Concat_string_string_LP N) x y = slices_Concat_string_string N x.1 := by kernel_rfl
theorem slices_Concat_string_string_sound (N : Nat) : Sound Tryz.prog GW B0G 86 (slices_Concat_string_string_sg fun x _ => slices_Concat_string_string N x.1) :=
  runD_sound (mkE_ok slices_Concat_string_string_h (slices_Concat_string_string_fn N) _ _ (slices_Concat_string_string_fn_ok N)) Tryz.func86 rfl Tryz.call86 (slices_Concat_string_string_sg fun x _ => slices_Concat_string_string N x.1) slices_Concat_string_string_pk (fun _ _ => rfl) N (fun x y _ h => ((runL_eq (slices_Concat_string_string_E N) N Tryz.f86 (slices_Concat_string_string_sg fun x _ => slices_Concat_string_string N x.1) slices_Concat_string_string_pk (slices_Concat_string_string_LP N) (show LoopsOk (slices_Concat_string_string_LP N) (slices_Concat_string_string_E N) N (resD (slices_Concat_string_string_E N) Tryz.f86 (slices_Concat_string_string_sg fun x _ => slices_Concat_string_string N x.1) slices_Concat_string_string_pk) [(0, (cAt (bodyOf Tryz.f86) [true, true, false, true, false, false])), (2, (cAt (bodyOf Tryz.f86) [true, true, true, true, false, true, false, false]))] from ⟨slices_Concat_string_string_lp0 N, slices_Concat_string_string_lp2 N, trivial⟩) x y).trans (slices_Concat_string_string_core N x y)).trans h)
def script_plainSum (N : Nat) (x0 : GValue) (x1 : GValue) : Option GValue :=
  br (decide (x0.text.length + x1.text.length ≤ 9223372036854775807))
    (bnd (slices_Concat_string_string N [x0.list, x1.list]) fun t22 =>
    some (GValue.mk x0.kind (x0.text ++ x1.text) (IntKind.i64.wrap (x0.number + x1.number)) t22 ([] : List (Str × GValue))))
    none
abbrev script_plainSum_sg (f : SV [.v (.rc .value), .v (.rc .value)] → BV [] → Option (GValue)) : AF := { ps := [.v (.rc .value), .v (.rc .value)], bs := [], rs := [.v (.rc .value)], cs := [], R := GValue, out := fun z => ((z, ()), ()), f := f }
abbrev script_plainSum_pk : SV [.v (.rc .value)] → BV [] → GValue := fun x _ => x.1
def script_plainSum_fn (N : Nat) : FuncId → Option Tmp → Option AF := fun f _ =>
  match f with
    | 86 => some (slices_Concat_string_string_sg fun x _ => slices_Concat_string_string N x.1)
    | _ => none
theorem script_plainSum_fn_ok (N : Nat) : ∀ f q F, script_plainSum_fn N f q = some F → Sound Tryz.prog GW B0G f F := by
  intro f q F h
  unfold script_plainSum_fn at h
  split at h
  · cases h; exact slices_Concat_string_string_sound N
  · cases h
def script_plainSum_h : Nat → Hint := fun i =>
  match i with
  | 100001 => ⟨[1002, 1003], [], [], [], [], []⟩
  | _ => ⟨[], [], [], [], [], []⟩
abbrev script_plainSum_E (N : Nat) : Env := mkE script_plainSum_h (script_plainSum_fn N) (fun _ => false) (fun _ => false)
noncomputable def script_plainSum_LP (N : Nat) : Nat → Code → St → (Ex → St → Option GValue) → Option GValue := fun i c =>
  match i with
  | i => fun st k => iter (script_plainSum_h i) (exec (script_plainSum_E N) N c i) N st k
theorem script_plainSum_core (N : Nat) (x : SV [.v (.rc .value), .v (.rc .value)]) (y : BV []) : runL (script_plainSum_E N) Tryz.f79 (script_plainSum_sg fun x _ => script_plainSum N x.1 x.2.1) script_plainSum_pk (script_plainSum_LP N) x y = script_plainSum N x.1 x.2.1 := by kernel_rfl
theorem script_plainSum_sound (N : Nat) : Sound Tryz.prog GW B0G 79 (script_plainSum_sg fun x _ => script_plainSum N x.1 x.2.1) :=
  runD_sound (mkE_ok script_plainSum_h (script_plainSum_fn N) _ _ (script_plainSum_fn_ok N)) Tryz.func79 rfl Tryz.call79 (script_plainSum_sg fun x _ => script_plainSum N x.1 x.2.1) script_plainSum_pk (fun _ _ => rfl) N (fun x y _ h => ((runL_eq (script_plainSum_E N) N Tryz.f79 (script_plainSum_sg fun x _ => script_plainSum N x.1 x.2.1) script_plainSum_pk (script_plainSum_LP N) (show LoopsOk (script_plainSum_LP N) (script_plainSum_E N) N (resD (script_plainSum_E N) Tryz.f79 (script_plainSum_sg fun x _ => script_plainSum N x.1 x.2.1) script_plainSum_pk) [] from trivial) x y).trans (script_plainSum_core N x y)).trans h)
end
end Go.Proofs.YtahjncefiegflaaGreatDoor

