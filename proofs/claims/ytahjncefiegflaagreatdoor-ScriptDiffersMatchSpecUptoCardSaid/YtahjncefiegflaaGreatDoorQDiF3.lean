/- What functions of the program compute, as plain functions (printed). -/
import Derived.Test.YtahjncefiegflaaGreatDoorQDiF2
namespace Go.Proofs.YtahjncefiegflaaGreatDoor
open Go Go.RowKit
set_option maxRecDepth 100000
set_option linter.unusedVariables false
noncomputable section
def script_CheckValue (N : Nat) (r_script_checkCases : τ8 → Option (Int)) (x0 : GValue) : Option Int :=
 br (decide (x0.kind < (1 : Int)))
   (some (4 : Int))
   (br (decide (x0.kind > (4 : Int)))
     (some (4 : Int))
     (br (!(x0.text == ([] : Str)))
       (br (x0.kind != (1 : Int))
         (br (x0.kind != (1 : Int))
           (some (3 : Int))
           (br (decide ((x0.text.length : Int) > (1000 : Int)))
             (some (2 : Int))
             (br (decide ((x0.list.length : Int) > (1000 : Int)))
               (some (2 : Int))
               (bnd (slices_ContainsFunc_string_string N x0.list ()) fun t61 =>
               br (t61)
                 (some (2 : Int))
                 (br (decide ((x0.cases.length : Int) > (50 : Int)))
                   (some (2 : Int))
                   (bnd (script_isText N x0.text) fun t72 =>
                   br (!t72)
                     (some (3 : Int))
                     (bnd (slices_ContainsFunc_string_string_2 N x0.list ()) fun t77 =>
                     br (t77)
                       (some (3 : Int))
                       (br (decide (x0.number < (0 : Int)))
                         (some (1 : Int))
                         (br (decide (x0.number > (999999999 : Int)))
                           (some (1 : Int))
                           (br (x0.kind == (4 : Int))
                             (bnd (r_script_checkCases x0.cases) fun t94 =>
                             some t94)
                             (some (0 : Int))))))))))))
         (br (x0.number != (0 : Int))
           (br (x0.kind != (2 : Int))
             (br (x0.kind != (2 : Int))
               (some (3 : Int))
               (br (decide ((x0.text.length : Int) > (1000 : Int)))
                 (some (2 : Int))
                 (br (decide ((x0.list.length : Int) > (1000 : Int)))
                   (some (2 : Int))
                   (bnd (slices_ContainsFunc_string_string N x0.list ()) fun t61_1 =>
                   br (t61_1)
                     (some (2 : Int))
                     (br (decide ((x0.cases.length : Int) > (50 : Int)))
                       (some (2 : Int))
                       (bnd (script_isText N x0.text) fun t72_2 =>
                       br (!t72_2)
                         (some (3 : Int))
                         (bnd (slices_ContainsFunc_string_string_2 N x0.list ()) fun t77_3 =>
                         br (t77_3)
                           (some (3 : Int))
                           (br (decide (x0.number < (0 : Int)))
                             (some (1 : Int))
                             (br (decide (x0.number > (999999999 : Int)))
                               (some (1 : Int))
                               (br (x0.kind == (4 : Int))
                                 (bnd (r_script_checkCases x0.cases) fun t94_4 =>
                                 some t94_4)
                                 (some (0 : Int))))))))))))
             (br (decide ((x0.list.length : Int) > (0 : Int)))
               (br (x0.kind != (3 : Int))
                 (br (x0.kind != (3 : Int))
                   (some (3 : Int))
                   (br (decide ((x0.text.length : Int) > (1000 : Int)))
                     (some (2 : Int))
                     (br (decide ((x0.list.length : Int) > (1000 : Int)))
                       (some (2 : Int))
                       (bnd (slices_ContainsFunc_string_string N x0.list ()) fun t61_5 =>
                       br (t61_5)
                         (some (2 : Int))
                         (br (decide ((x0.cases.length : Int) > (50 : Int)))
                           (some (2 : Int))
                           (bnd (script_isText N x0.text) fun t72_6 =>
                           br (!t72_6)
                             (some (3 : Int))
                             (bnd (slices_ContainsFunc_string_string_2 N x0.list ()) fun t77_7 =>
                             br (t77_7)
                               (some (3 : Int))
                               (br (decide (x0.number < (0 : Int)))
                                 (some (1 : Int))
                                 (br (decide (x0.number > (999999999 : Int)))
                                   (some (1 : Int))
                                   (br (x0.kind == (4 : Int))
                                     (bnd (r_script_checkCases x0.cases) fun t94_8 =>
                                     some t94_8)
                                     (some (0 : Int))))))))))))
                 (br (decide ((x0.cases.length : Int) > (0 : Int)))
                   (br (x0.kind != (4 : Int))
                     (some (3 : Int))
                     (br (decide ((x0.text.length : Int) > (1000 : Int)))
                       (some (2 : Int))
                       (br (decide ((x0.list.length : Int) > (1000 : Int)))
                         (some (2 : Int))
                         (bnd (slices_ContainsFunc_string_string N x0.list ()) fun t61_9 =>
                         br (t61_9)
                           (some (2 : Int))
                           (br (decide ((x0.cases.length : Int) > (50 : Int)))
                             (some (2 : Int))
                             (bnd (script_isText N x0.text) fun t72_10 =>
                             br (!t72_10)
                               (some (3 : Int))
                               (bnd (slices_ContainsFunc_string_string_2 N x0.list ()) fun t77_11 =>
                               br (t77_11)
                                 (some (3 : Int))
                                 (br (decide (x0.number < (0 : Int)))
                                   (some (1 : Int))
                                   (br (decide (x0.number > (999999999 : Int)))
                                     (some (1 : Int))
                                     (br (x0.kind == (4 : Int))
                                       (bnd (r_script_checkCases x0.cases) fun t94_12 =>
                                       some t94_12)
                                       (some (0 : Int))))))))))))
                   (br (decide ((x0.text.length : Int) > (1000 : Int)))
                     (some (2 : Int))
                     (br (decide ((x0.list.length : Int) > (1000 : Int)))
                       (some (2 : Int))
                       (bnd (slices_ContainsFunc_string_string N x0.list ()) fun t61_13 =>
                       br (t61_13)
                         (some (2 : Int))
                         (br (decide ((x0.cases.length : Int) > (50 : Int)))
                           (some (2 : Int))
                           (bnd (script_isText N x0.text) fun t72_14 =>
                           br (!t72_14)
                             (some (3 : Int))
                             (bnd (slices_ContainsFunc_string_string_2 N x0.list ()) fun t77_15 =>
                             br (t77_15)
                               (some (3 : Int))
                               (br (decide (x0.number < (0 : Int)))
                                 (some (1 : Int))
                                 (br (decide (x0.number > (999999999 : Int)))
                                   (some (1 : Int))
                                   (br (x0.kind == (4 : Int))
                                     (bnd (r_script_checkCases x0.cases) fun t94_16 =>
                                     some t94_16)
                                     (some (0 : Int)))))))))))))
               (br (decide ((x0.cases.length : Int) > (0 : Int)))
                 (br (x0.kind != (4 : Int))
                   (some (3 : Int))
                   (br (decide ((x0.text.length : Int) > (1000 : Int)))
                     (some (2 : Int))
                     (br (decide ((x0.list.length : Int) > (1000 : Int)))
                       (some (2 : Int))
                       (bnd (slices_ContainsFunc_string_string N x0.list ()) fun t61_17 =>
                       br (t61_17)
                         (some (2 : Int))
                         (br (decide ((x0.cases.length : Int) > (50 : Int)))
                           (some (2 : Int))
                           (bnd (script_isText N x0.text) fun t72_18 =>
                           br (!t72_18)
                             (some (3 : Int))
                             (bnd (slices_ContainsFunc_string_string_2 N x0.list ()) fun t77_19 =>
                             br (t77_19)
                               (some (3 : Int))
                               (br (decide (x0.number < (0 : Int)))
                                 (some (1 : Int))
                                 (br (decide (x0.number > (999999999 : Int)))
                                   (some (1 : Int))
                                   (br (x0.kind == (4 : Int))
                                     (bnd (r_script_checkCases x0.cases) fun t94_20 =>
                                     some t94_20)
                                     (some (0 : Int))))))))))))
                 (br (decide ((x0.text.length : Int) > (1000 : Int)))
                   (some (2 : Int))
                   (br (decide ((x0.list.length : Int) > (1000 : Int)))
                     (some (2 : Int))
                     (bnd (slices_ContainsFunc_string_string N x0.list ()) fun t61_21 =>
                     br (t61_21)
                       (some (2 : Int))
                       (br (decide ((x0.cases.length : Int) > (50 : Int)))
                         (some (2 : Int))
                         (bnd (script_isText N x0.text) fun t72_22 =>
                         br (!t72_22)
                           (some (3 : Int))
                           (bnd (slices_ContainsFunc_string_string_2 N x0.list ()) fun t77_23 =>
                           br (t77_23)
                             (some (3 : Int))
                             (br (decide (x0.number < (0 : Int)))
                               (some (1 : Int))
                               (br (decide (x0.number > (999999999 : Int)))
                                 (some (1 : Int))
                                 (br (x0.kind == (4 : Int))
                                   (bnd (r_script_checkCases x0.cases) fun t94_24 =>
                                   some t94_24)
                                   (some (0 : Int))))))))))))))
           (br (decide ((x0.list.length : Int) > (0 : Int)))
             (br (x0.kind != (3 : Int))
               (br (x0.kind != (3 : Int))
                 (some (3 : Int))
                 (br (decide ((x0.text.length : Int) > (1000 : Int)))
                   (some (2 : Int))
                   (br (decide ((x0.list.length : Int) > (1000 : Int)))
                     (some (2 : Int))
                     (bnd (slices_ContainsFunc_string_string N x0.list ()) fun t61_25 =>
                     br (t61_25)
                       (some (2 : Int))
                       (br (decide ((x0.cases.length : Int) > (50 : Int)))
                         (some (2 : Int))
                         (bnd (script_isText N x0.text) fun t72_26 =>
                         br (!t72_26)
                           (some (3 : Int))
                           (bnd (slices_ContainsFunc_string_string_2 N x0.list ()) fun t77_27 =>
                           br (t77_27)
                             (some (3 : Int))
                             (br (decide (x0.number < (0 : Int)))
                               (some (1 : Int))
                               (br (decide (x0.number > (999999999 : Int)))
                                 (some (1 : Int))
                                 (br (x0.kind == (4 : Int))
                                   (bnd (r_script_checkCases x0.cases) fun t94_28 =>
                                   some t94_28)
                                   (some (0 : Int))))))))))))
               (br (decide ((x0.cases.length : Int) > (0 : Int)))
                 (br (x0.kind != (4 : Int))
                   (some (3 : Int))
                   (br (decide ((x0.text.length : Int) > (1000 : Int)))
                     (some (2 : Int))
                     (br (decide ((x0.list.length : Int) > (1000 : Int)))
                       (some (2 : Int))
                       (bnd (slices_ContainsFunc_string_string N x0.list ()) fun t61_29 =>
                       br (t61_29)
                         (some (2 : Int))
                         (br (decide ((x0.cases.length : Int) > (50 : Int)))
                           (some (2 : Int))
                           (bnd (script_isText N x0.text) fun t72_30 =>
                           br (!t72_30)
                             (some (3 : Int))
                             (bnd (slices_ContainsFunc_string_string_2 N x0.list ()) fun t77_31 =>
                             br (t77_31)
                               (some (3 : Int))
                               (br (decide (x0.number < (0 : Int)))
                                 (some (1 : Int))
                                 (br (decide (x0.number > (999999999 : Int)))
                                   (some (1 : Int))
                                   (br (x0.kind == (4 : Int))
                                     (bnd (r_script_checkCases x0.cases) fun t94_32 =>
                                     some t94_32)
                                     (some (0 : Int))))))))))))
                 (br (decide ((x0.text.length : Int) > (1000 : Int)))
                   (some (2 : Int))
                   (br (decide ((x0.list.length : Int) > (1000 : Int)))
                     (some (2 : Int))
                     (bnd (slices_ContainsFunc_string_string N x0.list ()) fun t61_33 =>
                     br (t61_33)
                       (some (2 : Int))
                       (br (decide ((x0.cases.length : Int) > (50 : Int)))
                         (some (2 : Int))
                         (bnd (script_isText N x0.text) fun t72_34 =>
                         br (!t72_34)
                           (some (3 : Int))
                           (bnd (slices_ContainsFunc_string_string_2 N x0.list ()) fun t77_35 =>
                           br (t77_35)
                             (some (3 : Int))
                             (br (decide (x0.number < (0 : Int)))
                               (some (1 : Int))
                               (br (decide (x0.number > (999999999 : Int)))
                                 (some (1 : Int))
                                 (br (x0.kind == (4 : Int))
                                   (bnd (r_script_checkCases x0.cases) fun t94_36 =>
                                   some t94_36)
                                   (some (0 : Int)))))))))))))
             (br (decide ((x0.cases.length : Int) > (0 : Int)))
               (br (x0.kind != (4 : Int))
                 (some (3 : Int))
                 (br (decide ((x0.text.length : Int) > (1000 : Int)))
                   (some (2 : Int))
                   (br (decide ((x0.list.length : Int) > (1000 : Int)))
                     (some (2 : Int))
                     (bnd (slices_ContainsFunc_string_string N x0.list ()) fun t61_37 =>
                     br (t61_37)
                       (some (2 : Int))
                       (br (decide ((x0.cases.length : Int) > (50 : Int)))
                         (some (2 : Int))
                         (bnd (script_isText N x0.text) fun t72_38 =>
                         br (!t72_38)
                           (some (3 : Int))
                           (bnd (slices_ContainsFunc_string_string_2 N x0.list ()) fun t77_39 =>
                           br (t77_39)
                             (some (3 : Int))
                             (br (decide (x0.number < (0 : Int)))
                               (some (1 : Int))
                               (br (decide (x0.number > (999999999 : Int)))
                                 (some (1 : Int))
                                 (br (x0.kind == (4 : Int))
                                   (bnd (r_script_checkCases x0.cases) fun t94_40 =>
                                   some t94_40)
                                   (some (0 : Int))))))))))))
               (br (decide ((x0.text.length : Int) > (1000 : Int)))
                 (some (2 : Int))
                 (br (decide ((x0.list.length : Int) > (1000 : Int)))
                   (some (2 : Int))
                   (bnd (slices_ContainsFunc_string_string N x0.list ()) fun t61_41 =>
                   br (t61_41)
                     (some (2 : Int))
                     (br (decide ((x0.cases.length : Int) > (50 : Int)))
                       (some (2 : Int))
                       (bnd (script_isText N x0.text) fun t72_42 =>
                       br (!t72_42)
                         (some (3 : Int))
                         (bnd (slices_ContainsFunc_string_string_2 N x0.list ()) fun t77_43 =>
                         br (t77_43)
                           (some (3 : Int))
                           (br (decide (x0.number < (0 : Int)))
                             (some (1 : Int))
                             (br (decide (x0.number > (999999999 : Int)))
                               (some (1 : Int))
                               (br (x0.kind == (4 : Int))
                                 (bnd (r_script_checkCases x0.cases) fun t94_44 =>
                                 some t94_44)
                                 (some (0 : Int)))))))))))))))
       (br (x0.number != (0 : Int))
         (br (x0.kind != (2 : Int))
           (br (x0.kind != (2 : Int))
             (some (3 : Int))
             (br (decide ((x0.text.length : Int) > (1000 : Int)))
               (some (2 : Int))
               (br (decide ((x0.list.length : Int) > (1000 : Int)))
                 (some (2 : Int))
                 (bnd (slices_ContainsFunc_string_string N x0.list ()) fun t61_45 =>
                 br (t61_45)
                   (some (2 : Int))
                   (br (decide ((x0.cases.length : Int) > (50 : Int)))
                     (some (2 : Int))
                     (bnd (script_isText N x0.text) fun t72_46 =>
                     br (!t72_46)
                       (some (3 : Int))
                       (bnd (slices_ContainsFunc_string_string_2 N x0.list ()) fun t77_47 =>
                       br (t77_47)
                         (some (3 : Int))
                         (br (decide (x0.number < (0 : Int)))
                           (some (1 : Int))
                           (br (decide (x0.number > (999999999 : Int)))
                             (some (1 : Int))
                             (br (x0.kind == (4 : Int))
                               (bnd (r_script_checkCases x0.cases) fun t94_48 =>
                               some t94_48)
                               (some (0 : Int))))))))))))
           (br (decide ((x0.list.length : Int) > (0 : Int)))
             (br (x0.kind != (3 : Int))
               (br (x0.kind != (3 : Int))
                 (some (3 : Int))
                 (br (decide ((x0.text.length : Int) > (1000 : Int)))
                   (some (2 : Int))
                   (br (decide ((x0.list.length : Int) > (1000 : Int)))
                     (some (2 : Int))
                     (bnd (slices_ContainsFunc_string_string N x0.list ()) fun t61_49 =>
                     br (t61_49)
                       (some (2 : Int))
                       (br (decide ((x0.cases.length : Int) > (50 : Int)))
                         (some (2 : Int))
                         (bnd (script_isText N x0.text) fun t72_50 =>
                         br (!t72_50)
                           (some (3 : Int))
                           (bnd (slices_ContainsFunc_string_string_2 N x0.list ()) fun t77_51 =>
                           br (t77_51)
                             (some (3 : Int))
                             (br (decide (x0.number < (0 : Int)))
                               (some (1 : Int))
                               (br (decide (x0.number > (999999999 : Int)))
                                 (some (1 : Int))
                                 (br (x0.kind == (4 : Int))
                                   (bnd (r_script_checkCases x0.cases) fun t94_52 =>
                                   some t94_52)
                                   (some (0 : Int))))))))))))
               (br (decide ((x0.cases.length : Int) > (0 : Int)))
                 (br (x0.kind != (4 : Int))
                   (some (3 : Int))
                   (br (decide ((x0.text.length : Int) > (1000 : Int)))
                     (some (2 : Int))
                     (br (decide ((x0.list.length : Int) > (1000 : Int)))
                       (some (2 : Int))
                       (bnd (slices_ContainsFunc_string_string N x0.list ()) fun t61_53 =>
                       br (t61_53)
                         (some (2 : Int))
                         (br (decide ((x0.cases.length : Int) > (50 : Int)))
                           (some (2 : Int))
                           (bnd (script_isText N x0.text) fun t72_54 =>
                           br (!t72_54)
                             (some (3 : Int))
                             (bnd (slices_ContainsFunc_string_string_2 N x0.list ()) fun t77_55 =>
                             br (t77_55)
                               (some (3 : Int))
                               (br (decide (x0.number < (0 : Int)))
                                 (some (1 : Int))
                                 (br (decide (x0.number > (999999999 : Int)))
                                   (some (1 : Int))
                                   (br (x0.kind == (4 : Int))
                                     (bnd (r_script_checkCases x0.cases) fun t94_56 =>
                                     some t94_56)
                                     (some (0 : Int))))))))))))
                 (br (decide ((x0.text.length : Int) > (1000 : Int)))
                   (some (2 : Int))
                   (br (decide ((x0.list.length : Int) > (1000 : Int)))
                     (some (2 : Int))
                     (bnd (slices_ContainsFunc_string_string N x0.list ()) fun t61_57 =>
                     br (t61_57)
                       (some (2 : Int))
                       (br (decide ((x0.cases.length : Int) > (50 : Int)))
                         (some (2 : Int))
                         (bnd (script_isText N x0.text) fun t72_58 =>
                         br (!t72_58)
                           (some (3 : Int))
                           (bnd (slices_ContainsFunc_string_string_2 N x0.list ()) fun t77_59 =>
                           br (t77_59)
                             (some (3 : Int))
                             (br (decide (x0.number < (0 : Int)))
                               (some (1 : Int))
                               (br (decide (x0.number > (999999999 : Int)))
                                 (some (1 : Int))
                                 (br (x0.kind == (4 : Int))
                                   (bnd (r_script_checkCases x0.cases) fun t94_60 =>
                                   some t94_60)
                                   (some (0 : Int)))))))))))))
             (br (decide ((x0.cases.length : Int) > (0 : Int)))
               (br (x0.kind != (4 : Int))
                 (some (3 : Int))
                 (br (decide ((x0.text.length : Int) > (1000 : Int)))
                   (some (2 : Int))
                   (br (decide ((x0.list.length : Int) > (1000 : Int)))
                     (some (2 : Int))
                     (bnd (slices_ContainsFunc_string_string N x0.list ()) fun t61_61 =>
                     br (t61_61)
                       (some (2 : Int))
                       (br (decide ((x0.cases.length : Int) > (50 : Int)))
                         (some (2 : Int))
                         (bnd (script_isText N x0.text) fun t72_62 =>
                         br (!t72_62)
                           (some (3 : Int))
                           (bnd (slices_ContainsFunc_string_string_2 N x0.list ()) fun t77_63 =>
                           br (t77_63)
                             (some (3 : Int))
                             (br (decide (x0.number < (0 : Int)))
                               (some (1 : Int))
                               (br (decide (x0.number > (999999999 : Int)))
                                 (some (1 : Int))
                                 (br (x0.kind == (4 : Int))
                                   (bnd (r_script_checkCases x0.cases) fun t94_64 =>
                                   some t94_64)
                                   (some (0 : Int))))))))))))
               (br (decide ((x0.text.length : Int) > (1000 : Int)))
                 (some (2 : Int))
                 (br (decide ((x0.list.length : Int) > (1000 : Int)))
                   (some (2 : Int))
                   (bnd (slices_ContainsFunc_string_string N x0.list ()) fun t61_65 =>
                   br (t61_65)
                     (some (2 : Int))
                     (br (decide ((x0.cases.length : Int) > (50 : Int)))
                       (some (2 : Int))
                       (bnd (script_isText N x0.text) fun t72_66 =>
                       br (!t72_66)
                         (some (3 : Int))
                         (bnd (slices_ContainsFunc_string_string_2 N x0.list ()) fun t77_67 =>
                         br (t77_67)
                           (some (3 : Int))
                           (br (decide (x0.number < (0 : Int)))
                             (some (1 : Int))
                             (br (decide (x0.number > (999999999 : Int)))
                               (some (1 : Int))
                               (br (x0.kind == (4 : Int))
                                 (bnd (r_script_checkCases x0.cases) fun t94_68 =>
                                 some t94_68)
                                 (some (0 : Int))))))))))))))
         (br (decide ((x0.list.length : Int) > (0 : Int)))
           (br (x0.kind != (3 : Int))
             (br (x0.kind != (3 : Int))
               (some (3 : Int))
               (br (decide ((x0.text.length : Int) > (1000 : Int)))
                 (some (2 : Int))
                 (br (decide ((x0.list.length : Int) > (1000 : Int)))
                   (some (2 : Int))
                   (bnd (slices_ContainsFunc_string_string N x0.list ()) fun t61_69 =>
                   br (t61_69)
                     (some (2 : Int))
                     (br (decide ((x0.cases.length : Int) > (50 : Int)))
                       (some (2 : Int))
                       (bnd (script_isText N x0.text) fun t72_70 =>
                       br (!t72_70)
                         (some (3 : Int))
                         (bnd (slices_ContainsFunc_string_string_2 N x0.list ()) fun t77_71 =>
                         br (t77_71)
                           (some (3 : Int))
                           (br (decide (x0.number < (0 : Int)))
                             (some (1 : Int))
                             (br (decide (x0.number > (999999999 : Int)))
                               (some (1 : Int))
                               (br (x0.kind == (4 : Int))
                                 (bnd (r_script_checkCases x0.cases) fun t94_72 =>
                                 some t94_72)
                                 (some (0 : Int))))))))))))
             (br (decide ((x0.cases.length : Int) > (0 : Int)))
               (br (x0.kind != (4 : Int))
                 (some (3 : Int))
                 (br (decide ((x0.text.length : Int) > (1000 : Int)))
                   (some (2 : Int))
                   (br (decide ((x0.list.length : Int) > (1000 : Int)))
                     (some (2 : Int))
                     (bnd (slices_ContainsFunc_string_string N x0.list ()) fun t61_73 =>
                     br (t61_73)
                       (some (2 : Int))
                       (br (decide ((x0.cases.length : Int) > (50 : Int)))
                         (some (2 : Int))
                         (bnd (script_isText N x0.text) fun t72_74 =>
                         br (!t72_74)
                           (some (3 : Int))
                           (bnd (slices_ContainsFunc_string_string_2 N x0.list ()) fun t77_75 =>
                           br (t77_75)
                             (some (3 : Int))
                             (br (decide (x0.number < (0 : Int)))
                               (some (1 : Int))
                               (br (decide (x0.number > (999999999 : Int)))
                                 (some (1 : Int))
                                 (br (x0.kind == (4 : Int))
                                   (bnd (r_script_checkCases x0.cases) fun t94_76 =>
                                   some t94_76)
                                   (some (0 : Int))))))))))))
               (br (decide ((x0.text.length : Int) > (1000 : Int)))
                 (some (2 : Int))
                 (br (decide ((x0.list.length : Int) > (1000 : Int)))
                   (some (2 : Int))
                   (bnd (slices_ContainsFunc_string_string N x0.list ()) fun t61_77 =>
                   br (t61_77)
                     (some (2 : Int))
                     (br (decide ((x0.cases.length : Int) > (50 : Int)))
                       (some (2 : Int))
                       (bnd (script_isText N x0.text) fun t72_78 =>
                       br (!t72_78)
                         (some (3 : Int))
                         (bnd (slices_ContainsFunc_string_string_2 N x0.list ()) fun t77_79 =>
                         br (t77_79)
                           (some (3 : Int))
                           (br (decide (x0.number < (0 : Int)))
                             (some (1 : Int))
                             (br (decide (x0.number > (999999999 : Int)))
                               (some (1 : Int))
                               (br (x0.kind == (4 : Int))
                                 (bnd (r_script_checkCases x0.cases) fun t94_80 =>
                                 some t94_80)
                                 (some (0 : Int)))))))))))))
           (br (decide ((x0.cases.length : Int) > (0 : Int)))
             (br (x0.kind != (4 : Int))
               (some (3 : Int))
               (br (decide ((x0.text.length : Int) > (1000 : Int)))
                 (some (2 : Int))
                 (br (decide ((x0.list.length : Int) > (1000 : Int)))
                   (some (2 : Int))
                   (bnd (slices_ContainsFunc_string_string N x0.list ()) fun t61_81 =>
                   br (t61_81)
                     (some (2 : Int))
                     (br (decide ((x0.cases.length : Int) > (50 : Int)))
                       (some (2 : Int))
                       (bnd (script_isText N x0.text) fun t72_82 =>
                       br (!t72_82)
                         (some (3 : Int))
                         (bnd (slices_ContainsFunc_string_string_2 N x0.list ()) fun t77_83 =>
                         br (t77_83)
                           (some (3 : Int))
                           (br (decide (x0.number < (0 : Int)))
                             (some (1 : Int))
                             (br (decide (x0.number > (999999999 : Int)))
                               (some (1 : Int))
                               (br (x0.kind == (4 : Int))
                                 (bnd (r_script_checkCases x0.cases) fun t94_84 =>
                                 some t94_84)
                                 (some (0 : Int))))))))))))
             (br (decide ((x0.text.length : Int) > (1000 : Int)))
               (some (2 : Int))
               (br (decide ((x0.list.length : Int) > (1000 : Int)))
                 (some (2 : Int))
                 (bnd (slices_ContainsFunc_string_string N x0.list ()) fun t61_85 =>
                 br (t61_85)
                   (some (2 : Int))
                   (br (decide ((x0.cases.length : Int) > (50 : Int)))
                     (some (2 : Int))
                     (bnd (script_isText N x0.text) fun t72_86 =>
                     br (!t72_86)
                       (some (3 : Int))
                       (bnd (slices_ContainsFunc_string_string_2 N x0.list ()) fun t77_87 =>
                       br (t77_87)
                         (some (3 : Int))
                         (br (decide (x0.number < (0 : Int)))
                           (some (1 : Int))
                           (br (decide (x0.number > (999999999 : Int)))
                             (some (1 : Int))
                             (br (x0.kind == (4 : Int))
                               (bnd (r_script_checkCases x0.cases) fun t94_88 =>
                               some t94_88)
                               (some (0 : Int))))))))))))))))
abbrev z29sg (f : SV [.v τ6] → BV [] → Option (Int)) : AF := { ps := [.v τ6], bs := [], rs := [.v τ5], cs := [], R := Int, out := fun z => ((z, ()), ()), f := f }
abbrev z29pk : SV [.v τ5] → BV [] → Int := fun x _ => x.1
def z29fn (N : Nat) (r_script_checkCases : τ8 → Option (Int)) : FuncId → Option Tmp → Option AF := fun f q =>
 match f with
   | 40 => match q with | some 61 => some (z1g N) | some 77 => some (z0g N) | _ => none
   | 42 => some (z50g N)
   | 44 => some (z30sg fun x _ => r_script_checkCases x.1)
   | _ => none
theorem z29fn_ok (N : Nat) (r_script_checkCases : τ8 → Option (Int)) (h_script_checkCases : Sound Tryz.prog GW B0G 44 (z30sg fun x y => r_script_checkCases x.1)) : ∀ f q F, z29fn N r_script_checkCases f q = some F → Sound Tryz.prog GW B0G f F := by
 intro f q F h
 unfold z29fn at h
 split at h
 · split at h
   · cases h; exact z1sound N
   · cases h; exact z0sound N
   · cases h
 · cases h; exact z50sound N
 · cases h; exact h_script_checkCases
 · cases h
def z29h : Nat → Hint := fun i =>
 match i with
 | _ => hint0
abbrev z29E (N : Nat) (r_script_checkCases : τ8 → Option (Int)) : Env := mkE z29h (z29fn N r_script_checkCases) (fun _ => false) (fun _ => false)
noncomputable def z29LP (N : Nat) (r_script_checkCases : τ8 → Option (Int)) : Nat → Code → St → (Ex → St → Option Int) → Option Int := fun i c =>
 match i with
 | i => fun st k => iter (z29h i) (exec (z29E N r_script_checkCases) N c i) N st k
theorem z29core (N : Nat) (r_script_checkCases : τ8 → Option (Int)) (x : SV [.v τ6]) (y : BV []) : runL (z29E N r_script_checkCases) Tryz.f14 (z29sg fun x _ => script_CheckValue N r_script_checkCases x.1) z29pk (z29LP N r_script_checkCases) x y = script_CheckValue N r_script_checkCases x.1 := by kernel_rfl
theorem z29sound (N : Nat) (r_script_checkCases : τ8 → Option (Int)) (h_script_checkCases : Sound Tryz.prog GW B0G 44 (z30sg fun x y => r_script_checkCases x.1)) : Sound Tryz.prog GW B0G 14 (z29sg fun x _ => script_CheckValue N r_script_checkCases x.1) :=
 runD_sound (mkE_ok z29h (z29fn N r_script_checkCases) _ _ (z29fn_ok N r_script_checkCases h_script_checkCases)) Tryz.func14 rfl Tryz.call14 (z29sg fun x _ => script_CheckValue N r_script_checkCases x.1) z29pk (fun _ _ => rfl) N (fun x y _ h => ((runL_eq (z29E N r_script_checkCases) N Tryz.f14 (z29sg fun x _ => script_CheckValue N r_script_checkCases x.1) z29pk (z29LP N r_script_checkCases) (show LoopsOk (z29LP N r_script_checkCases) (z29E N r_script_checkCases) N (resD (z29E N r_script_checkCases) Tryz.f14 (z29sg fun x _ => script_CheckValue N r_script_checkCases x.1) z29pk) [] from trivial) x y).trans (z29core N r_script_checkCases x y)).trans h)
def z23L0T (N : Nat) (r_script_checkCases : τ8 → Option (Int)) (x0 : List τ0) (c10 : List τ0) (c11 : Int) (k0 : Option Int) (self : Int → Option Int) (s12 : Int) : Option Int :=
 br (decide (s12 < c11))
   (bnd (geti c10 s12) fun t15 =>
   bnd (script_checkText N t15.1) fun t19 =>
   br (t19 != (0 : Int))
     (some t19)
     (bnd (slc x0 (0 : Int) s12) fun t25 =>
     bnd (slices_ContainsFunc_api_Case N t25 ((t15.1, GValue.mk t15.2.kind t15.2.text t15.2.number t15.2.list t15.2.cases), ())) fun t27 =>
     br (t27)
       (some (7 : Int))
       (br (t15.2.kind == (4 : Int))
         (some (4 : Int))
         (bnd (script_CheckValue N r_script_checkCases (GValue.mk t15.2.kind t15.2.text t15.2.number t15.2.list t15.2.cases)) fun t34 =>
         br (t34 != (0 : Int))
           (some t34)
           (bnd (geti x0 (0 : Int)) fun t42 =>
           br (t15.2.kind != t42.2.kind)
             (some (6 : Int))
             (self (IntKind.i64.wrap (s12 + (1 : Int)))))))))
   (k0)
def z23L0 (N : Nat) (r_script_checkCases : τ8 → Option (Int)) (x0 : List τ0) (c10 : List τ0) (c11 : Int) (k0 : Option Int) : Nat → Int → Option Int
 | 0, _ => none
 | n + 1, s12 => z23L0T N r_script_checkCases x0 c10 c11 k0 (z23L0 N r_script_checkCases x0 c10 c11 k0 n) s12
def script_checkCases_b (N : Nat) (r_script_checkCases : τ8 → Option (Int)) (x0 : List τ0) : Option Int :=
 br ((x0.length : Int) == (0 : Int))
   (some (9 : Int))
   (z23L0 N r_script_checkCases x0 x0 (x0.length : Int) (some (0 : Int)) N (0 : Int))
abbrev z23sg (f : SV [.v τ1] → BV [] → Option (Int)) : AF := { ps := [.v τ1], bs := [], rs := [.v τ5], cs := [], R := Int, out := fun z => ((z, ()), ()), f := f }
abbrev z23pk : SV [.v τ5] → BV [] → Int := fun x _ => x.1
def z23fn (N : Nat) (r_script_checkCases : τ8 → Option (Int)) : FuncId → Option Tmp → Option AF := fun f _ =>
 match f with
   | 14 => some (z29sg fun x _ => script_CheckValue N r_script_checkCases x.1)
   | 88 => some (z35g N)
   | 89 => some (z6g N)
   | 90 => some (noneAF [.v (.ptr τ11)])
   | _ => none
theorem z23fn_ok (N : Nat) (r_script_checkCases : τ8 → Option (Int)) (h_script_checkCases : Sound Tryz.prog GW B0G 44 (z30sg fun x y => r_script_checkCases x.1)) : ∀ f q F, z23fn N r_script_checkCases f q = some F → Sound Tryz.prog GW B0G f F := by
 intro f q F h
 unfold z23fn at h
 split at h
 · cases h; exact z29sound N r_script_checkCases h_script_checkCases
 · cases h; exact z35sound N
 · cases h; exact z6sound N
 · cases h; exact noneAF_sound Tryz.call90 _
 · cases h
def z23h : Nat → Hint := fun i =>
 match i with
 | 0 => ⟨[], [0, 10, 11, 12], [], [], [], []⟩
 | _ => hint0
abbrev z23E (N : Nat) (r_script_checkCases : τ8 → Option (Int)) : Env := mkE z23h (z23fn N r_script_checkCases) (fun _ => false) (fun _ => false)
noncomputable abbrev z23c0 : Code := cAt (bodyOf Tryz.f44) [true, true, false, true, false, false]
abbrev z23L0_fs : List (Nat × Sl) := [(0, .v τ1), (10, .v τ1), (11, .v τ5), (12, .v τ5)]
abbrev z23L0_bs : List (Nat × Sb) := []
def z23L0_hd (x0 : List τ0) (c10 : List τ0) (c11 : Int) (s12 : Int) : St := ⟨48, [(0, .v τ1 x0), (10, .v τ1 c10), (11, .v τ5 c11), (12, .v τ5 s12)], []⟩
def z23L0_tl0 (_x0 : List τ0) (_c10 : List τ0) (_c11 : Int) : St := ⟨48, [], []⟩
def z23L0_G (N : Nat) (r_script_checkCases : τ8 → Option (Int)) (x0 : List τ0) (c10 : List τ0) (c11 : Int) (s12 : Int) (k : Ex → St → Option Int) : Option Int :=
 z23L0 N r_script_checkCases x0 c10 c11 (k (.exit 0) (z23L0_tl0 x0 c10 c11)) N s12
abbrev z23L0_F (N : Nat) (r_script_checkCases : τ8 → Option (Int)) : FV z23L0_fs → HV z23L0_bs → (Ex → St → Option Int) → Option Int := fun x _ k => z23L0_G N r_script_checkCases x.1 x.2.1 x.2.2.1 x.2.2.2.1 k
noncomputable def z23LP (N : Nat) (r_script_checkCases : τ8 → Option (Int)) : Nat → Code → St → (Ex → St → Option Int) → Option Int := fun i c =>
 match i with
 | 0 => (LPc 48 z23L0_fs z23L0_bs (z23L0_F N r_script_checkCases) (fun st k => iter (z23h 0) (exec (z23E N r_script_checkCases) N c 0) N st k))
 | i => fun st k => iter (z23h i) (exec (z23E N r_script_checkCases) N c i) N st k
theorem z23L0_step (N : Nat) (r_script_checkCases : τ8 → Option (Int)) (x0 : List τ0) (c10 : List τ0) (c11 : Int) (KX : Nat → St → Option Int) (I : St → Option Int) (s12 : Int) :
   execL (z23LP N r_script_checkCases) (z23E N r_script_checkCases) z23c0 0 (z23L0_hd x0 c10 c11 s12) (roundK (z23h 0) I KX (resD (z23E N r_script_checkCases) Tryz.f44 (z23sg fun x _ => script_checkCases_b N r_script_checkCases x.1) z23pk)) = z23L0T N r_script_checkCases x0 c10 c11 (KX 0 (z23L0_tl0 x0 c10 c11)) (fun s12 => I (z23L0_hd x0 c10 c11 s12)) s12 := by kernel_rfl
theorem z23L0_ok (N : Nat) (r_script_checkCases : τ8 → Option (Int)) : ∀ x y k, (∀ st, k .ret st = (resD (z23E N r_script_checkCases) Tryz.f44 (z23sg fun x _ => script_checkCases_b N r_script_checkCases x.1) z23pk) st) → iter (z23h 0) (exec (z23E N r_script_checkCases) N z23c0 0) N ⟨48, unF z23L0_fs x, unH z23L0_bs y⟩ k = z23L0_F N r_script_checkCases x y k := fun x _ k hk =>
 iter_link (S := (Int) × Unit) (z23h 0) _ (execL (z23LP N r_script_checkCases) (z23E N r_script_checkCases) z23c0 0) (resD (z23E N r_script_checkCases) Tryz.f44 (z23sg fun x _ => script_checkCases_b N r_script_checkCases x.1) z23pk) (fun st k hk => execL_eq _ _ N _ z23c0 0 (show LoopsOk (z23LP N r_script_checkCases) (z23E N r_script_checkCases) N (resD (z23E N r_script_checkCases) Tryz.f44 (z23sg fun x _ => script_checkCases_b N r_script_checkCases x.1) z23pk) [] from trivial) st k hk) (fun s => z23L0_hd x.1 x.2.1 x.2.2.1 s.1) k hk
   (fun self s => z23L0T N r_script_checkCases x.1 x.2.1 x.2.2.1 (k (.exit 0) (z23L0_tl0 x.1 x.2.1 x.2.2.1)) (fun s12 => self (s12, ())) s.1) (fun n s => z23L0 N r_script_checkCases x.1 x.2.1 x.2.2.1 (k (.exit 0) (z23L0_tl0 x.1 x.2.1 x.2.2.1)) n s.1) (fun _ => rfl) (fun _ _ => rfl)
   (fun I s => z23L0_step N r_script_checkCases x.1 x.2.1 x.2.2.1 (fun j => k (.exit j)) I s.1) N (x.2.2.2.1, ())
theorem z23lp0 (N : Nat) (r_script_checkCases : τ8 → Option (Int)) : ∀ st k, (∀ st, k .ret st = (resD (z23E N r_script_checkCases) Tryz.f44 (z23sg fun x _ => script_checkCases_b N r_script_checkCases x.1) z23pk) st) → z23LP N r_script_checkCases 0 z23c0 st k = iter (Env.hint (z23E N r_script_checkCases) 0) (exec (z23E N r_script_checkCases) N z23c0 0) N st k := fun st k hk => LPc_eq 48 z23L0_fs z23L0_bs _ _ (resD (z23E N r_script_checkCases) Tryz.f44 (z23sg fun x _ => script_checkCases_b N r_script_checkCases x.1) z23pk) (z23L0_ok N r_script_checkCases) _ st k hk (rfl)
theorem z23core (N : Nat) (r_script_checkCases : τ8 → Option (Int)) (x : SV [.v τ1]) (y : BV []) : runL (z23E N r_script_checkCases) Tryz.f44 (z23sg fun x _ => script_checkCases_b N r_script_checkCases x.1) z23pk (z23LP N r_script_checkCases) x y = script_checkCases_b N r_script_checkCases x.1 := by kernel_rfl
theorem z23sound (N : Nat) (r_script_checkCases : τ8 → Option (Int)) (h_script_checkCases : Sound Tryz.prog GW B0G 44 (z30sg fun x y => r_script_checkCases x.1)) : Sound Tryz.prog GW B0G 44 (z23sg fun x _ => script_checkCases_b N r_script_checkCases x.1) :=
 runD_sound (mkE_ok z23h (z23fn N r_script_checkCases) _ _ (z23fn_ok N r_script_checkCases h_script_checkCases)) Tryz.func44 rfl Tryz.call44 (z23sg fun x _ => script_checkCases_b N r_script_checkCases x.1) z23pk (fun _ _ => rfl) N (fun x y _ h => ((runL_eq (z23E N r_script_checkCases) N Tryz.f44 (z23sg fun x _ => script_checkCases_b N r_script_checkCases x.1) z23pk (z23LP N r_script_checkCases) (show LoopsOk (z23LP N r_script_checkCases) (z23E N r_script_checkCases) N (resD (z23E N r_script_checkCases) Tryz.f44 (z23sg fun x _ => script_checkCases_b N r_script_checkCases x.1) z23pk) [(0, z23c0)] from ⟨z23lp0 N r_script_checkCases, trivial⟩) x y).trans (z23core N r_script_checkCases x y)).trans h)
def script_checkCases (N : Nat) : Nat → τ8 → Option (Int)
 | 0 => fun _ => none
 | d + 1 => script_checkCases_b N (script_checkCases N d)
theorem z30sound (N : Nat) : ∀ d, Sound Tryz.prog GW B0G 44 (z30sg fun x y => script_checkCases N d x.1)
 | 0 => Sound.never Tryz.call44 (fun _ _ => rfl)
 | d + 1 => z23sound N (script_checkCases N d) (z30sound N d)
end
end Go.Proofs.YtahjncefiegflaaGreatDoor

