/- The types that the printed functions use, as the program has them. -/
import Derived.Test.YtolpmfhiegpohaaGreatDoorQBmSw
import Derived.Test.YtolpmfhiegpohaaGreatDoorQFor
import Derived.Test.YtolpmfhiegpohaaGreatDoorQBmCo
import Derived.Test.YtolpmfhiegpohaaGreatDoorProg
namespace Go.Proofs.YtolpmfhiegpohaaGreatDoor
set_option maxRecDepth 100000
set_option linter.unusedVariables false
set_option linter.unusedSimpArgs false
open Go Go.RowKit
section
abbrev τ0:Type:=Int×c8×Int×Int
abbrev τ1:Ty:= .pr (.int .i64) (.pr .str (.pr (.int .i64) (.int .i64)))
abbrev τ2:Ty:= .int .i64
abbrev τ3:Type:=List τ0×Int×Int×Int×c8×c8×List c8×Int×c8×Int×Int
abbrev τ4:Type:=List τ0
abbrev τ5:Ty:= .rc .expr
abbrev τ6:Ty:= .sl (.rc .stmt)
abbrev τ7:Type:=Int×c8×Int×Int×c8×Int×Int×List τ0
abbrev τ8:Type:=c8×c8×Int×List τ0
abbrev τ9:Type:=List τ0×Int×Int
abbrev V6:Ty:= .pr .str τ5
abbrev τ11:Ty:= .sl .str
abbrev τ12:Type:=c8×Bool×c8×Int×List τ0
abbrev τ13:Type:=Int×c8×c8×Int×c8×Int×Int×List τ0×Int×Int×List c8
abbrev τ14:Type:=Int×c8×c8×Int×c8×Int×Int×List c8×List τ0×Int×Int
abbrev τ15:Type:=Int×Int×Bool×Int×List τ0×List (Int×Int)×List c8
abbrev τ16:Ty:= .rc .stmt
abbrev τ17:Type:=List c8
abbrev τ18:Type:=c8×List τ0×Int×Int
abbrev τ19:Type:=c8×Int×List τ0
abbrev τ20:Ty:= .pr .bool (.pr .bool (.pr .bool (.pr .bool (.pr .bool (.pr .bool .bool)))))
abbrev τ21:Type:=Bool×List τ0×Int×Int
abbrev V0:Sl:= .v τ2
abbrev V1:Sl:= .v .str
abbrev V2:Sl:= .v (.sl τ1)
end
section
abbrev P4(ps:List Sl)(bs:List Sb)(rs:List Sl)(cs:List Sb)(R:Type)(out:R->SV rs×BV cs)(f:SV ps->BV bs->Option R):AF:={ps:=ps,bs:=bs,rs:=rs,cs:=cs,R:=R,out:=out,f:=f}
abbrev ρ0:Type:=τ4->Int->Int->Int->Int->c8->c8->Int->c8->Int->Int->(List (c8×GExpr))->Option (Except Int (List τ0×Int×Int×Int×Int×c8×c8×List (c8×GExpr)×Int×c8×Int×Int))
abbrev ρ1:Type:=τ4->Int->Int->Int->c8->Int->Int->τ17->(List GPart)->Option (Except Int (List τ0×Int×Int×Int×c8×Int×List c8×Int×List GPart))
abbrev ρ2:Type:=τ4->Int->Int->Int->c8->Int->Int->(List GPart)->Option (Except Int (List τ0×Int×Int×Int×c8×Int×Int×List GPart))
abbrev ρ3:Type:=τ4->Int->Int->(List GStmt)->Option (Except Int (List GStmt×Int×Bool×List τ0×Int×Int×Int×Bool×List GStmt))
abbrev ρ4:Type:=τ4->Int->Int->Int->c8->Int->τ17->Unit->(List GPart)->Option (Except Int (GPart×List τ0×Int×Int))
abbrev ρ5:Type:=τ4->Int->Int->Int->c8->c8->Int->c8->Int->Int->τ17->Option (Except Int τ3)
abbrev ρ6:Type:=τ4->Int->Int->(List GStmt)->Option (Except Int (List τ0×Int×Int×List GStmt))
abbrev ρ7:Type:=Int->τ4->Int->Int->Option (Except Int (GStmt×List τ0×Int×Int))
abbrev ρ8:Type:=τ4->Int->Int->(List GExpr)->Option (GExpr×List τ0×Int×Int)
abbrev ρ9:Type:=GPart->Int->τ4->Int->Int->Option (GExpr×List τ0×Int×Int)
abbrev ρ10:Type:=Int->Int->Bool->Int->τ4->(List (Int×Int))->τ17->Option τ15
abbrev ρ11:Type:=τ4->Int->Int->Option (Except Int (GPart×List τ0×Int×Int))
abbrev X5:Type:=(List GStmt)->(List GStmt)->Bool->Option (Bool)
abbrev ρ13:Type:=(List GStmt)->Int->Option (Int)
abbrev ρ14:Type:=Int->Option (τ0×Int×Int)
abbrev ρ15:Type:=GExpr->GExpr->Option (Bool)
abbrev ρ16:Type:=(List GStmt)->Option (Int)
abbrev ρ17:Type:=GExpr->Int->Option (Int)
abbrev H2:Type:=GStmt->Int->Option (Int)
abbrev ρ19:Type:=Int->Int->Option Int
abbrev ρ20:Type:=GExpr->Option (Int)
abbrev ρ21:Type:=Int->Option Bool
abbrev ρ22:Type:=Int->Option Int
end
section
abbrev a0O(f:SV [.v .str,.v .str]->BV []->Option τ17):AF:={ps:=[.v .str,.v .str],bs:=[],rs:=[.v τ11],cs:=[],R:=List c8,out:=fun z=>((z,()),()),f:=f}
abbrev F0(f:SV [.v .str,.v .u8]->BV []->Option (Int)):AF:={ps:=[.v .str,.v .u8],bs:=[],rs:=[.v τ2],cs:=[],R:=Int,out:=fun z=>((z,()),()),f:=f}
abbrev a1Z(f:SV [.v .str,.v .str]->BV []->Option (Int)):AF:={ps:=[.v .str,.v .str],bs:=[],rs:=[.v τ2],cs:=[],R:=Int,out:=fun z=>((z,()),()),f:=f}
abbrev b6P(f:SV []->BV []->Option (Bool)):AF:={ps:=[],bs:=[],rs:=[.v .bool],cs:=[],R:=Bool,out:=fun z=>((z,()),()),f:=f}
abbrev e25(f:SV [.box 0 0]->BV [.cells [.v (.sl τ1),.v τ2,.v τ2]]->Option (Except Int τ9)):PF:={ps:=[.box 0 0],bs:=[.cells [.v (.sl τ1),.v τ2,.v τ2]],rs:=[],cs:=[.cells [.v (.sl τ1),.v τ2,.v τ2]],R:=List τ0×Int×Int,out:=fun z=>((),((z.1,z.2.1,z.2.2,()),())),f:=f}
abbrev a7k(f:SV [.nilS,.fnc 226 [0]]->BV [.cells [.v τ11]]->Option (List c8×List c8)):AF:={ps:=[.nilS,.fnc 226 [0]],bs:=[.cells [.v τ11]],rs:=[.row 1],cs:=[.cells [.v τ11],.row 9 .str true],R:=List c8×List c8,out:=fun z=>(((),()),((z.1,()),z.2,())),f:=f}
abbrev a1a(f:SV [.row 0]->BV [.row 9 .str true]->Option τ17):AF:={ps:=[.row 0],bs:=[.row 9 .str true],rs:=[],cs:=[.row 9 .str true,.none],R:=List c8,out:=fun z=>((),(z,(),())),f:=f}
abbrev a0x(f:SV [.row 0]->BV [.row 9 .str true]->Option τ17):AF:={ps:=[.row 0],bs:=[.row 9 .str true],rs:=[.row 0],cs:=[.row 9 .str true],R:=List c8,out:=fun z=>(((),()),(z,())),f:=f}
abbrev e2M:=P4 [.box 0 0] [.cells [.v (.sl τ1),.v τ2,.v τ2]] [.v τ6,.v τ2,.v .bool] [.cells [.dead,.dead,.v τ2]] (List GStmt×Int×Bool×Int) fun z=>((z.1,z.2.1,z.2.2.1,()),(((),(),z.2.2.2,()),()))
abbrev e2w:=P4 [.box 0 0] [.cells [.v (.sl τ1),.v τ2,.v τ2]] [.nilS,.v τ2,.v .bool] [.none] (Int×Bool) fun z=>(((),z.1,z.2,()),((),()))
theorem a8h:TyOk Tryz.prog 1 (.clo 0 .un):=⟨_,by kernel_rfl,Tryz.underlying1,rfl⟩
theorem r9:TyOk Tryz.prog 3 τ2:=⟨_,by kernel_rfl,Tryz.underlying3,rfl⟩
theorem y8:TyOk Tryz.prog 4 .bool:=⟨_,by kernel_rfl,Tryz.underlying4,rfl⟩
theorem a15:TyOk Tryz.prog 5 .u8:=⟨_,by kernel_rfl,Tryz.underlying5,rfl⟩
theorem n5:TyOk Tryz.prog 9 .str:=⟨_,by kernel_rfl,Tryz.underlying9,rfl⟩
theorem F2:TyOk Tryz.prog 22 (.sl τ1):=⟨_,by kernel_rfl,Tryz.underlying22,rfl⟩
theorem C4:TyOk Tryz.prog 30 τ6:=⟨_,by kernel_rfl,Tryz.underlying30,rfl⟩
theorem L5:TyOk Tryz.prog 40 (.pr .str (.pr τ2 (.sl τ1))):=⟨_,by kernel_rfl,Tryz.underlying40,rfl⟩
theorem E4:TyOk Tryz.prog 42 τ1:=⟨_,by kernel_rfl,Tryz.underlying42,rfl⟩
theorem W4:TyOk Tryz.prog 59 (.np (.pr (.sl τ1) (.pr τ2 τ2))):=⟨_,by kernel_rfl,Tryz.underlying59,rfl⟩
theorem K7:TyOk Tryz.prog 61 (.pr (.sl τ1) (.pr τ2 τ2)):=⟨_,by kernel_rfl,Tryz.underlying61,rfl⟩
theorem C7:TyOk Tryz.prog 65 τ11:=⟨_,by kernel_rfl,Tryz.underlying65,rfl⟩
theorem T9:TyOk Tryz.prog 66 (.sl V6):=⟨_,by kernel_rfl,Tryz.underlying66,rfl⟩
theorem R4:TyOk Tryz.prog 67 (.sl τ5):=⟨_,by kernel_rfl,Tryz.underlying67,rfl⟩
theorem q9:TyOk Tryz.prog 69 τ5:=⟨_,by kernel_rfl,Tryz.underlying69,rfl⟩
theorem y3:TyOk Tryz.prog 71 τ16:=⟨_,by kernel_rfl,Tryz.underlying71,rfl⟩
theorem G5:TyOk Tryz.prog 75 V6:=⟨_,by kernel_rfl,Tryz.underlying75,rfl⟩
theorem V9:TyOk Tryz.prog 77 (.sl (.pr τ2 τ2)):=⟨_,by kernel_rfl,Tryz.underlying77,rfl⟩
theorem W8:TyOk Tryz.prog 79 (.pr (.sl τ1) (.pr τ2 (.pr τ2 (.pr .bool (.pr τ2 (.sl (.pr τ2 τ2))))))):=⟨_,by kernel_rfl,Tryz.underlying79,rfl⟩
theorem N2:TyOk Tryz.prog 82 (.pr τ2 τ2):=⟨_,by kernel_rfl,Tryz.underlying82,rfl⟩
theorem e1j:TyOk Tryz.prog 144 (.np τ16):=⟨_,by kernel_rfl,Tryz.underlying144,rfl⟩
theorem K6:TyOk Tryz.prog 146 τ20:=⟨_,by kernel_rfl,Tryz.underlying146,rfl⟩
theorem M9:TyOk Tryz.prog 199 (.sl (.rc .part)):=⟨_,by kernel_rfl,Tryz.underlying199,rfl⟩
theorem C5:TyOk Tryz.prog 201 (.rc .part):=⟨_,by kernel_rfl,Tryz.underlying201,rfl⟩
def tyT:TypeId->Option Ty:=fun T=>
 match T with
 |1=>some (.clo 0 .un)
 |3=>some τ2
 |4=>some .bool
 |5=>some .u8
 |9=>some .str
 |22=>some (.sl τ1)
 |30=>some τ6
 |40=>some (.pr .str (.pr τ2 (.sl τ1)))
 |42=>some τ1
 |59=>some (.np (.pr (.sl τ1) (.pr τ2 τ2)))
 |61=>some (.pr (.sl τ1) (.pr τ2 τ2))
 |65=>some τ11
 |66=>some (.sl V6)
 |67=>some (.sl τ5)
 |69=>some τ5
 |71=>some τ16
 |75=>some V6
 |77=>some (.sl (.pr τ2 τ2))
 |79=>some (.pr (.sl τ1) (.pr τ2 (.pr τ2 (.pr .bool (.pr τ2 (.sl (.pr τ2 τ2)))))))
 |82=>some (.pr τ2 τ2)
 |144=>some (.np τ16)
 |146=>some τ20
 |199=>some (.sl (.rc .part))
 |201=>some (.rc .part)
 |_=>none
theorem b1e:∀T t,tyT T=some t->TyOk Tryz.prog T t:=by
 intro T t h
 unfold tyT at h
 split at h
 ·cases h;exact a8h
 ·cases h;exact r9
 ·cases h;exact y8
 ·cases h;exact a15
 ·cases h;exact n5
 ·cases h;exact F2
 ·cases h;exact C4
 ·cases h;exact L5
 ·cases h;exact E4
 ·cases h;exact W4
 ·cases h;exact K7
 ·cases h;exact C7
 ·cases h;exact T9
 ·cases h;exact R4
 ·cases h;exact q9
 ·cases h;exact y3
 ·cases h;exact G5
 ·cases h;exact V9
 ·cases h;exact W8
 ·cases h;exact N2
 ·cases h;exact e1j
 ·cases h;exact K6
 ·cases h;exact M9
 ·cases h;exact C5
 ·cases h
def elT:TypeId->Option (TypeId×Ty):=fun T=>
 match T with
 |22=>some (42,τ1)
 |30=>some (71,τ16)
 |65=>some (9,.str)
 |66=>some (75,V6)
 |67=>some (69,τ5)
 |77=>some (82,(.pr τ2 τ2))
 |84=>some (5,.u8)
 |199=>some (201,(.rc .part))
 |_=>none
theorem b0N:∀T e t,elT T=some (e,t)->ElOk Tryz.prog T e t:=by
 intro T e t h
 unfold elT at h
 split at h
 ·cases h;exact⟨E4,40,ElemT.mk_ Tryz.underlying22 (z:=mkV τ1 (B3 τ1)) (by kernel_rfl) rfl (by decide) (by decide),by decide⟩
 ·cases h;exact⟨y3,224,ElemT.mk_ Tryz.underlying30 (z:=mkV τ16 (B3 τ16)) (by kernel_rfl) rfl (by decide) (by decide),by decide⟩
 ·cases h;exact⟨n5,16,ElemT.mk_ Tryz.underlying65 (z:=mkV .str (B3 .str)) (by kernel_rfl) rfl (by decide) (by decide),by decide⟩
 ·cases h;exact⟨G5,96,ElemT.mk_ Tryz.underlying66 (z:=mkV V6 (B3 V6)) (by kernel_rfl) rfl (by decide) (by decide),by decide⟩
 ·cases h;exact⟨q9,80,ElemT.mk_ Tryz.underlying67 (z:=mkV τ5 (B3 τ5)) (by kernel_rfl) rfl (by decide) (by decide),by decide⟩
 ·cases h;exact⟨N2,16,ElemT.mk_ Tryz.underlying77 (z:=mkV (.pr τ2 τ2) (B3 (.pr τ2 τ2))) (by kernel_rfl) rfl (by decide) (by decide),by decide⟩
 ·cases h;exact⟨a15,1,ElemT.mk_ Tryz.underlying84 (z:=mkV .u8 (B3 .u8)) (by kernel_rfl) rfl (by decide) (by decide),by decide⟩
 ·cases h;exact⟨C5,112,ElemT.mk_ Tryz.underlying199 (z:=mkV (.rc .part) (B3 (.rc .part))) (by kernel_rfl) rfl (by decide) (by decide),by decide⟩
 ·cases h
def b3L:TypeId->Nat->Option (Nat×Ty):=fun T f=>
 match T,f with
 |40,0=>some (0,.str)
 |40,1=>some (1,τ2)
 |40,2=>some (2,(.sl τ1))
 |42,0=>some (0,τ2)
 |42,1=>some (1,.str)
 |42,2=>some (2,τ2)
 |42,3=>some (3,τ2)
 |61,0=>some (0,(.sl τ1))
 |61,1=>some (1,τ2)
 |61,2=>some (2,τ2)
 |69,0=>some (0,τ2)
 |69,1=>some (1,.str)
 |69,2=>some (2,τ2)
 |69,3=>some (3,τ11)
 |69,4=>some (4,(.sl τ5))
 |71,0=>some (0,τ2)
 |71,1=>some (1,.str)
 |71,2=>some (2,.str)
 |71,3=>some (3,τ11)
 |71,4=>some (4,(.sl V6))
 |71,5=>some (5,τ5)
 |71,6=>some (10,τ6)
 |71,7=>some (11,τ6)
 |71,8=>some (12,τ2)
 |75,0=>some (0,.str)
 |75,1=>some (1,τ5)
 |79,0=>some (0,(.sl τ1))
 |79,1=>some (1,τ2)
 |79,2=>some (2,τ2)
 |79,3=>some (3,.bool)
 |79,4=>some (4,τ2)
 |79,5=>some (5,(.sl (.pr τ2 τ2)))
 |82,0=>some (0,τ2)
 |82,1=>some (1,τ2)
 |146,0=>some (0,.bool)
 |146,1=>some (1,.bool)
 |146,2=>some (2,.bool)
 |146,3=>some (3,.bool)
 |146,4=>some (4,.bool)
 |146,5=>some (5,.bool)
 |146,6=>some (6,.bool)
 |201,0=>some (0,(.pr τ2 (.pr .str (.pr τ2 (.pr τ11 .nl)))))
 |201,1=>some (5,τ2)
 |201,2=>some (6,(.sl (.rc .part)))
 |_,_=>none
theorem a5G:∀T f off t,b3L T f=some (off,t)->b7b Tryz.prog T f off t:=by
 intro T f off t h
 unfold b3L at h
 split at h
 ·cases h;exact⟨_,_,Tryz.underlying40,rfl,rfl,n5,by decide⟩
 ·cases h;exact⟨_,_,Tryz.underlying40,rfl,rfl,r9,by decide⟩
 ·cases h;exact⟨_,_,Tryz.underlying40,rfl,rfl,F2,by decide⟩
 ·cases h;exact⟨_,_,Tryz.underlying42,rfl,rfl,r9,by decide⟩
 ·cases h;exact⟨_,_,Tryz.underlying42,rfl,rfl,n5,by decide⟩
 ·cases h;exact⟨_,_,Tryz.underlying42,rfl,rfl,r9,by decide⟩
 ·cases h;exact⟨_,_,Tryz.underlying42,rfl,rfl,r9,by decide⟩
 ·cases h;exact⟨_,_,Tryz.underlying61,rfl,rfl,F2,by decide⟩
 ·cases h;exact⟨_,_,Tryz.underlying61,rfl,rfl,r9,by decide⟩
 ·cases h;exact⟨_,_,Tryz.underlying61,rfl,rfl,r9,by decide⟩
 ·cases h;exact⟨_,_,Tryz.underlying69,rfl,rfl,r9,by decide⟩
 ·cases h;exact⟨_,_,Tryz.underlying69,rfl,rfl,n5,by decide⟩
 ·cases h;exact⟨_,_,Tryz.underlying69,rfl,rfl,r9,by decide⟩
 ·cases h;exact⟨_,_,Tryz.underlying69,rfl,rfl,C7,by decide⟩
 ·cases h;exact⟨_,_,Tryz.underlying69,rfl,rfl,R4,by decide⟩
 ·cases h;exact⟨_,_,Tryz.underlying71,rfl,rfl,r9,by decide⟩
 ·cases h;exact⟨_,_,Tryz.underlying71,rfl,rfl,n5,by decide⟩
 ·cases h;exact⟨_,_,Tryz.underlying71,rfl,rfl,n5,by decide⟩
 ·cases h;exact⟨_,_,Tryz.underlying71,rfl,rfl,C7,by decide⟩
 ·cases h;exact⟨_,_,Tryz.underlying71,rfl,rfl,T9,by decide⟩
 ·cases h;exact⟨_,_,Tryz.underlying71,rfl,rfl,q9,by decide⟩
 ·cases h;exact⟨_,_,Tryz.underlying71,rfl,rfl,C4,by decide⟩
 ·cases h;exact⟨_,_,Tryz.underlying71,rfl,rfl,C4,by decide⟩
 ·cases h;exact⟨_,_,Tryz.underlying71,rfl,rfl,r9,by decide⟩
 ·cases h;exact⟨_,_,Tryz.underlying75,rfl,rfl,n5,by decide⟩
 ·cases h;exact⟨_,_,Tryz.underlying75,rfl,rfl,q9,by decide⟩
 ·cases h;exact⟨_,_,Tryz.underlying79,rfl,rfl,F2,by decide⟩
 ·cases h;exact⟨_,_,Tryz.underlying79,rfl,rfl,r9,by decide⟩
 ·cases h;exact⟨_,_,Tryz.underlying79,rfl,rfl,r9,by decide⟩
 ·cases h;exact⟨_,_,Tryz.underlying79,rfl,rfl,y8,by decide⟩
 ·cases h;exact⟨_,_,Tryz.underlying79,rfl,rfl,r9,by decide⟩
 ·cases h;exact⟨_,_,Tryz.underlying79,rfl,rfl,V9,by decide⟩
 ·cases h;exact⟨_,_,Tryz.underlying82,rfl,rfl,r9,by decide⟩
 ·cases h;exact⟨_,_,Tryz.underlying82,rfl,rfl,r9,by decide⟩
 ·cases h;exact⟨_,_,Tryz.underlying146,rfl,rfl,y8,by decide⟩
 ·cases h;exact⟨_,_,Tryz.underlying146,rfl,rfl,y8,by decide⟩
 ·cases h;exact⟨_,_,Tryz.underlying146,rfl,rfl,y8,by decide⟩
 ·cases h;exact⟨_,_,Tryz.underlying146,rfl,rfl,y8,by decide⟩
 ·cases h;exact⟨_,_,Tryz.underlying146,rfl,rfl,y8,by decide⟩
 ·cases h;exact⟨_,_,Tryz.underlying146,rfl,rfl,y8,by decide⟩
 ·cases h;exact⟨_,_,Tryz.underlying146,rfl,rfl,y8,by decide⟩
 ·cases h;exact⟨_,_,Tryz.underlying201,rfl,rfl,(show TyOk Tryz.prog 69 (.pr τ2 (.pr .str (.pr τ2 (.pr τ11 .nl))))from⟨_,by kernel_rfl,Tryz.underlying69,rfl⟩),by decide⟩
 ·cases h;exact⟨_,_,Tryz.underlying201,rfl,rfl,r9,by decide⟩
 ·cases h;exact⟨_,_,Tryz.underlying201,rfl,rfl,M9,by decide⟩
 ·cases h
theorem b01:∀T e,tyT T=some (.mp e)->d5G Tryz.prog T e:=by
 intro T e h
 unfold tyT at h
 split at h
 ·cases h
 ·cases h
 ·cases h
 ·cases h
 ·cases h
 ·cases h
 ·cases h
 ·cases h
 ·cases h
 ·cases h
 ·cases h
 ·cases h
 ·cases h
 ·cases h
 ·cases h
 ·cases h
 ·cases h
 ·cases h
 ·cases h
 ·cases h
 ·cases h
 ·cases h
 ·cases h
 ·cases h
 ·cases h
theorem a5D:∀T t,tyT T=some t->t.isAgg=true->∃fs places,Tryz.prog.underlying T=some (.struct fs)/\fs.toList.mapM (fun f=>(Tryz.prog.info? f.type).map fun i=>(f.offset,i.size))=some places:=by
 intro T t h ha
 unfold tyT at h
 split at h
 ·cases h;cases ha
 ·cases h;cases ha
 ·cases h;cases ha
 ·cases h;cases ha
 ·cases h;cases ha
 ·cases h;cases ha
 ·cases h;cases ha
 ·exact⟨_,[(0,1),(1,1),(2,1)],Tryz.underlying40,by kernel_rfl⟩
 ·exact⟨_,[(0,1),(1,1),(2,1),(3,1)],Tryz.underlying42,by kernel_rfl⟩
 ·cases h;cases ha
 ·exact⟨_,[(0,1),(1,1),(2,1)],Tryz.underlying61,by kernel_rfl⟩
 ·cases h;cases ha
 ·cases h;cases ha
 ·cases h;cases ha
 ·exact⟨_,[(0,1),(1,1),(2,1),(3,1),(4,1)],Tryz.underlying69,by kernel_rfl⟩
 ·exact⟨_,[(0,1),(1,1),(2,1),(3,1),(4,1),(5,5),(10,1),(11,1),(12,1)],Tryz.underlying71,by kernel_rfl⟩
 ·exact⟨_,[(0,1),(1,5)],Tryz.underlying75,by kernel_rfl⟩
 ·cases h;cases ha
 ·exact⟨_,[(0,1),(1,1),(2,1),(3,1),(4,1),(5,1)],Tryz.underlying79,by kernel_rfl⟩
 ·exact⟨_,[(0,1),(1,1)],Tryz.underlying82,by kernel_rfl⟩
 ·cases h;cases ha
 ·exact⟨_,[(0,1),(1,1),(2,1),(3,1),(4,1),(5,1),(6,1)],Tryz.underlying146,by kernel_rfl⟩
 ·cases h;cases ha
 ·exact⟨_,[(0,5),(5,1),(6,1)],Tryz.underlying201,by kernel_rfl⟩
 ·cases h
theorem b06:∀T t,tyT T=some t->a2l t=true->(Tryz.prog.info? (Tryz.prog.pointee T)).isSome=true:=by
 intro T t h ha
 unfold tyT at h
 split at h
 ·cases h;cases ha
 ·cases h;cases ha
 ·cases h;cases ha
 ·cases h;cases ha
 ·cases h;cases ha
 ·cases h;cases ha
 ·cases h;cases ha
 ·cases h;cases ha
 ·cases h;cases ha
 ·kernel_rfl
 ·cases h;cases ha
 ·cases h;cases ha
 ·cases h;cases ha
 ·cases h;cases ha
 ·cases h;cases ha
 ·cases h;cases ha
 ·cases h;cases ha
 ·cases h;cases ha
 ·cases h;cases ha
 ·cases h;cases ha
 ·kernel_rfl
 ·cases h;cases ha
 ·cases h;cases ha
 ·cases h;cases ha
 ·cases h
def b3D:TypeId->Option Ty:=fun T=>
 match T with
 |_=>none
theorem a5F:∀T t,b3D T=some t->CmpOk Tryz.prog T t:=by
 intro T t h
 unfold b3D at h
 split at h
 ·cases h
def S9(h:Nat->Hint)(fn:FuncId->Option Tmp->Option AF)(exq:Nat->Bool)(live:FuncId->Bool):Env:={ty:=tyT,el:=elT,fld:=b3L,cmp:=b3D,fn:=fn,hint:=h,exq:=exq,live:=live,raw:=true}
theorem y6(hh:Nat->Hint)(fn:FuncId->Option Tmp->Option AF)(exq:Nat->Bool)(live:FuncId->Bool)(h:∀f q F,fn f q=some F->Sound Tryz.prog GW B7 f F):EnvOk Tryz.prog GW B7 (S9 hh fn exq live):=
 {ty:=b1e,el:=b0N,fld:=a5G,mp:=b01,bld:=a5D,ptr:=b06,cmp:=a5F,fn:=h,stable:=a2E,mixed:=by kernel_rfl}
abbrev c2n:TypeId:=115
def a0I(h:Nat->Hint)(fn:FuncId->Option Tmp->Option AF)(pf:FuncId->Option Tmp->Option PF)(exq:Nat->Bool)(live:FuncId->Bool):Env:={S9 h fn exq live with pf:=pf,bad:=c2n}
theorem D6(hh:Nat->Hint)(fn:FuncId->Option Tmp->Option AF)(pf:FuncId->Option Tmp->Option PF)(exq:Nat->Bool)(live:FuncId->Bool)(h:∀f q F,fn f q=some F->Sound Tryz.prog GW B7 f F)(hp:∀f q F,pf f q=some F->SoundP Tryz.prog GW B7 c2n f F):EnvOk Tryz.prog GW B7 (a0I hh fn pf exq live):=
 {ty:=b1e,el:=b0N,fld:=a5G,mp:=b01,bld:=a5D,ptr:=b06,cmp:=a5F,fn:=h,stable:=a2E,mixed:=by kernel_rfl,pf:=hp}
end
section
abbrev FF:Nat->Bool:=fun _=>false
abbrev o3:Hint:=⟨[],[],[],[],[],[]⟩
abbrev I8(fn:FuncId->Option Tmp->Option AF):Prop:=∀f q F,fn f q=some F->Sound Tryz.prog GW B7 f F
abbrev P7:FuncId->AF->Prop:=Sound Tryz.prog GW B7
theorem a1X{h:Nat->Hint}{fn:FuncId->Option Tmp->Option AF}(ok:I8 fn){f:FuncId}{g:Func}{c:Code}(hf:Tryz.prog.funcs[f]? = some g)(hb:g.body=some c)
  (hcall:∀(args:Array Value) (w:World),(callFunc f args).run Tryz.prog w = .ok (.enter f args) w) (F:AF) (pk:SV F.rs->BV F.cs->F.R) (hpk:∀x y,F.out (pk x y)=(x,y)) (N:Nat)
  (LP:Nat->Code->St->(Ex->St->Option F.R)->Option F.R) (hl:LoopsOk LP (S9 h fn FF FF) N (A8 (S9 h fn FF FF) g F pk) (loops (m9 g) 0))
  (core:∀x y,F5 (S9 h fn FF FF) g F pk LP x y=F.f x y) (hkp:a0g F.bs F.cs=false:=by rfl):P7 f F:=
 a1T (y6 h fn _ _ ok) hf hb hcall F pk hpk N (fun x y _ e=>((a3y (S9 h fn FF FF) N g F pk LP hl x y).trans (core x y)).trans e) hkp
end
section
def O5:List (Nat×AF)->Nat->Option AF | [],_=>none|(a,F) :: l,f=>bif Nat.beq f a then some F else O5 l f
def c60:List (Nat×AF)->Prop | []=>True|(a,F) :: l=>P7 a F/\c60 l
theorem v8{a:Nat}{F:AF}{l:List (Nat×AF)}(h:P7 a F)(t:c60 l):c60 ((a,F) :: l):=⟨h,t⟩
theorem G7:c60 []:=trivial
theorem o6:∀{l:List (Nat×AF)} {f:Nat} {F:AF},O5 l f=some F->c60 l->P7 f F
 |[],_,_,h,_=>by cases h
 |(a,G) :: l,f,F,h,t=>by
  unfold O5 at h
  cases hb:Nat.beq f a with
  |true=>
   rw[hb]at h
   cases h
   have:=Nat.eq_of_beq_eq_true hb
   subst this
   exact t.1
  |false=>
   rw[hb]at h
   exact o6 h t.2
theorem a2A{E:Env}(hE:EnvOk Tryz.prog GW B7 E){f:FuncId}{g:Func}{c:Code}(hf:Tryz.prog.funcs[f]? = some g)(hb:g.body=some c)
  (hcall:∀(args:Array Value) (w:World),(callFunc f args).run Tryz.prog w = .ok (.enter f args) w) (F:AF) (pk:SV F.rs->BV F.cs->F.R) (hpk:∀x y,F.out (pk x y)=(x,y)) (N:Nat)
  (LP:Nat->Code->St->(Ex->St->Option F.R)->Option F.R) (hl:LoopsOk LP E N (A8 E g F pk) (loops (m9 g) 0))
  (core:∀x y,F5 E g F pk LP x y=F.f x y) (hkp:a0g F.bs F.cs=false:=by rfl):P7 f F:=
 a1T hE hf hb hcall F pk hpk N (fun x y _ e=>((a3y E N g F pk LP hl x y).trans (core x y)).trans e) hkp
def h0:Nat->Hint:=fun _=>o3
abbrev F7{R:Type}[BothC R](LP:Nat->Code->St->(Ex->St->Option R)->Option R)(E:Env)(N:Nat)(RES:St->Option R)(i:Nat)(c:Code):Prop:=∀st k,(∀st,k .ret st=RES st)->LP i c st k=iter (E.hint i) (V4 E N c i) N st k
def LPn{R:Type}:Nat->Code->St->(Ex->St->Option R)->Option R:=fun _ _ _ _=>none
theorem a1W(E:Env)(hE:EnvOk Tryz.prog GW B7 E){f:FuncId}{g:Func}{c:Code}(hf:Tryz.prog.funcs[f]? = some g)(hb:g.body=some c)
  (hcall:∀(args:Array Value) (w:World),(callFunc f args).run Tryz.prog w = .ok (.enter f args) w) (F:AF) (pk:SV F.rs->BV F.cs->F.R) (hpk:∀x y,F.out (pk x y)=(x,y)) (N:Nat)
  (core:∀x y,F5 E g F pk LPn x y=F.f x y) (hl:loops (m9 g) 0=[]) (hkp:a0g F.bs F.cs=false:=by rfl):P7 f F:=
 a1T hE hf hb hcall F pk hpk N (fun x y _ e=>((a3y E N g F pk LPn (by rw[hl];exact trivial) x y).trans (core x y)).trans e) hkp
theorem b4k(E:Env)(hE:EnvOk Tryz.prog GW B7 E){f:FuncId}{g:Func}{c:Code}(hf:Tryz.prog.funcs[f]? = some g)(hb:g.body=some c)
  (hcall:∀(args:Array Value) (w:World),(callFunc f args).run Tryz.prog w = .ok (.enter f args) w) (p:PF) (pk:SV p.rs->BV p.cs->p.R) (hpk:∀x y,p.out (pk x y)=(x,y)) (N:Nat)
  (LP:Nat->Code->St->(Ex->St->Option (PF.tf p).R)->Option (PF.tf p).R) (hl:LoopsOk LP E N (A8 E g (PF.tf p) (fun x y=> .ok (pk x y))) (loops (m9 g) 0))
  (core:∀x y,F5 E g (PF.tf p) (fun x y=> .ok (pk x y)) LP x y=p.f x y) (hkp:a0g p.bs p.cs=false:=by rfl):SoundP Tryz.prog GW B7 E.bad f p:=
 c23 hE hf hb hcall p pk hpk N (fun x y _ e=>((a3y E N g (PF.tf p) _ LP hl x y).trans (core x y)).trans e) hkp
theorem a0p(E:Env)(hE:EnvOk Tryz.prog GW B7 E){f:FuncId}{g:Func}{c:Code}(hf:Tryz.prog.funcs[f]? = some g)(hb:g.body=some c)
  (hcall:∀(args:Array Value) (w:World),(callFunc f args).run Tryz.prog w = .ok (.enter f args) w) (p:PF) (pk:SV p.rs->BV p.cs->p.R) (hpk:∀x y,p.out (pk x y)=(x,y)) (N:Nat)
  (core:∀x y,F5 E g (PF.tf p) (fun x y=> .ok (pk x y)) LPn x y=p.f x y) (hl:loops (m9 g) 0=[]) (hkp:a0g p.bs p.cs=false:=by rfl):SoundP Tryz.prog GW B7 E.bad f p:=
 b4k E hE hf hb hcall p pk hpk N LPn (by rw[hl];exact trivial) core hkp
theorem V5(h:Nat->Hint)(l:List (Nat×AF))(ok:c60 l){f:FuncId}{g:Func}{c:Code}(hf:Tryz.prog.funcs[f]? = some g)(hb:g.body=some c)
  (hcall:∀(args:Array Value) (w:World),(callFunc f args).run Tryz.prog w = .ok (.enter f args) w) (F:AF) (pk:SV F.rs->BV F.cs->F.R) (hpk:∀x y,F.out (pk x y)=(x,y)) (N:Nat)
  (core:∀x y,F5 (S9 h (fun f _=>O5 l f) FF FF) g F pk LPn x y=F.f x y) (hl:loops (m9 g) 0=[]) (hkp:a0g F.bs F.cs=false:=by rfl):P7 f F:=
 a1X (fun _ _ _ h=>o6 h ok) hf hb hcall F pk hpk N LPn (by rw[hl];exact trivial) core hkp
end
noncomputable section
noncomputable section
def L8(_N:Nat)(y0_0:List τ0)(y0_1:Int)(y0_2:Int):Option (Int×List τ0×Int×Int):=br ((y0_0.length:Int)==(0:Int)) (some (y0_1,(y0_0,(y0_1,y0_2)))) (f5 (l6 y0_0 (0:Int)) fun t17=>some (t17.2.2.2,(y0_0,(y0_1,y0_2))))
abbrev e3p:=P4 [.box 0 0] [.cells [.v (.sl τ1),.v τ2,.v τ2]] [.v τ2] [.cells [.v (.sl τ1),.v τ2,.v τ2]] (Int×List τ0×Int×Int) fun z=>((z.1,()),((z.2.1,z.2.2.1,z.2.2.2,()),()))
abbrev e0T(N:Nat):AF:=e3p fun _ y=>L8 N y.1.1 y.1.2.1 y.1.2.2.1
theorem d4n(N:Nat):P7 72 (e0T N):=
 V5 h0 [] G7 Tryz.func72 rfl Tryz.call72 (e0T N) (fun x y=>(x.1,y.1.1,y.1.2.1,y.1.2.2.1)) (fun _ _=>rfl) N (fun _ _=>by kernel_rfl) rfl
end
end
noncomputable section
def o8(N:Nat)(l:List τ0)(e d:Int):Option (Except Int τ9):=
 match L8 N l e d with
 |some z=>some (.error z.1)
 |none=>none
noncomputable abbrev d7u(N:Nat):PF:=e25 fun _ y=>o8 N y.1.1 y.1.2.1 y.1.2.2.1
set_option maxRecDepth 100000 in
theorem c6U{v:Value}{c:Int}{w:World}{X:World->Prop}(h:Calls Tryz.prog 72 #[v] w fun e w'=>e = .returned (.int .i64 c)/\X w'):
  Calls Tryz.prog 136 #[v] w fun e w'=>e = .panicked (c2m c2n c)/\X w':=by
 go_enter Tryz.func136,Tryz.ntmps136
 go_wp2_with (refine h.mono ?_;rintro e w1 ⟨rfl,h1⟩)
 exact⟨rfl,rfl,h1⟩
theorem d3O(N:Nat):SoundP Tryz.prog GW B7 c2n 136 (d7u N):=by
 refine⟨Tryz.call136,fun M w g vs x y hG hB hfr=>⟨fun z hz=>?_,fun c hz=>?_⟩⟩
 ·change o8 N y.1.1 y.1.2.1 y.1.2.2.1=_ at hz
  unfold o8 at hz
  split at hz<;>cases hz
 ·change o8 N y.1.1 y.1.2.1 y.1.2.2.1=_ at hz
  unfold o8 at hz
  split at hz
  case h_2=>cases hz
  rename_i z hat
  cases hz
  have hcall:=(d4n N).2 M w g vs x y z hG hB hfr hat
  have hl:vs.length=1:=hfr.args.len.symm
  obtain⟨v,rfl⟩:=List.length_eq_one_iff.1 hl
  refine c6U (X:=fun w'=>ExtX (N5 g) w w'/\Step M w M w') (hcall.mono ?_)
  rintro e w' ⟨vs',g',rfl,hX,hS,hfr',_,_⟩
  have hl':vs'.length=1:=hfr'.args.len.symm
  obtain⟨v',rfl⟩:=List.length_eq_one_iff.1 hl'
  have hv:v' = .int .i64 z.1:=RepD.int (g:=g') hfr'.args.1
  subst hv
  exact⟨rfl,hX,fun ad u h1 h2=>⟨(hS.1 ad u h1 h2).1,h2⟩,fun b es c h1 h2=>⟨(hS.2 b es c h1 h2).1,h2⟩⟩
end
end Go.Proofs.YtolpmfhiegpohaaGreatDoor
