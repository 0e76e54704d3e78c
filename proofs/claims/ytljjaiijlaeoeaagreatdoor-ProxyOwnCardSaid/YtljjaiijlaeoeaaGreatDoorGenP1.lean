/- A part. -/
import Derived.Test.YtljjaiijlaeoeaaGreatDoorEng38
import Derived.Test.YtljjaiijlaeoeaaGreatDoorEng36
import Derived.Test.YtljjaiijlaeoeaaGreatDoorPure4
import Derived.Test.YtljjaiijlaeoeaaGreatDoorProg
import Derived.Test.YtljjaiijlaeoeaaGreatDoorShelf
import Derived.Test.YtljjaiijlaeoeaaGreatDoorIxAny
namespace Go.Proofs
set_option maxHeartbeats 4000000
set_option maxRecDepth 10000
open Go.Eng Go.Eng.Pure
instance:Und Tryz.prog 2 (.int .i64):=⟨Tryz.underlying2⟩
instance:Und Tryz.prog 3 (.int .i64):=⟨Tryz.underlying3⟩
instance:Und Tryz.prog 5 (.int .u8):=⟨Tryz.underlying5⟩
instance:Und Tryz.prog 9 .string:=⟨Tryz.underlying9⟩
instance:Und Tryz.prog 22 (.slice 68):=⟨Tryz.underlying22⟩
instance:Und Tryz.prog 34 (.pointer 54):=⟨Tryz.underlying34⟩
instance:Und Tryz.prog 45 (.slice 9):=⟨Tryz.underlying45⟩
instance:Und Tryz.prog 51 (.pointer 136):=⟨Tryz.underlying51⟩
instance:Und Tryz.prog 52 (.pointer 111):=⟨Tryz.underlying52⟩
instance:Und Tryz.prog 59 (.slice 140):=⟨Tryz.underlying59⟩
instance:Und Tryz.prog 60 (.slice 92):=⟨Tryz.underlying60⟩
instance:Und Tryz.prog 90 (.slice 45):=⟨Tryz.underlying90⟩
instance:Und Tryz.prog 104 (.pointer 102):=⟨Tryz.underlying104⟩
instance:Und Tryz.prog 206 (.slice 5):=⟨Tryz.underlying206⟩
instance:Und Tryz.prog 264 (.slice 263):=⟨Tryz.underlying264⟩
instance:Und Tryz.prog 292 (.pointer 294):=⟨Tryz.underlying292⟩
instance:Und Tryz.prog 337 (.pointer 5):=⟨Tryz.underlying337⟩
set_option linter.unusedVariables false
theorem bp38:zBL Tryz.prog 38=some [(0,1),(1,1),(2,1),(3,1),(4,1),(5,1)]:=by kernel_rfl
theorem zer38:zer Tryz.prog 38=some [(str []),(int 0),(int 0),(int 0),(boo false),(boo false)]:=by kernel_rfl
theorem lay38:lay Tryz.prog 38=some (true,6):=by kernel_rfl
instance:Lay Tryz.prog 38 (true,6):=⟨lay38⟩
theorem zJs:zer Tryz.prog 287=some (List.replicate 256 (boo false)):=by kernel_rfl
theorem zJB:lay Tryz.prog 287=some (true,256):=by kernel_rfl
instance:Lay Tryz.prog 287 (true,256):=⟨zJB⟩
theorem zIP:fld Tryz.prog 68 1=some 1:=by kernel_rfl
instance:Fld Tryz.prog 68 1 1:=⟨zIP⟩
theorem lay9:lay Tryz.prog 9=some (false,1):=by kernel_rfl
instance:Lay Tryz.prog 9 (false,1):=⟨lay9⟩
theorem zJe:fld Tryz.prog 68 0=some 0:=by kernel_rfl
instance:Fld Tryz.prog 68 0 0:=⟨zJe⟩
theorem lay68:lay Tryz.prog 68=some (true,2):=by kernel_rfl
instance:Lay Tryz.prog 68 (true,2):=⟨lay68⟩
theorem bp68:zBL Tryz.prog 68=some [(0,1),(1,1)]:=by kernel_rfl
theorem zer68:zer Tryz.prog 68=some [(str []),(str [])]:=by kernel_rfl
theorem lay5:lay Tryz.prog 5=some (false,1):=by kernel_rfl
instance:Lay Tryz.prog 5 (false,1):=⟨lay5⟩
theorem el206:Elem Tryz.prog 206 5 1:=zFY kr
theorem el22:Elem Tryz.prog 22 68 2:=zFY kr
theorem el45:Elem Tryz.prog 45 9 1:=zFY kr
theorem bp186:zBL Tryz.prog 186=some [(0,1),(1,1),(2,1),(3,1),(4,1)]:=by kernel_rfl
theorem zJC:zer Tryz.prog 186=some [(str []),(int 0),(.slice none 0 0),(.slice none 0 0),(.slice none 0 0)]:=by kernel_rfl
theorem bp212:zBL Tryz.prog 212=some [(0,5),(5,5)]:=by kernel_rfl
theorem zJt:zer Tryz.prog 212=some [(str []),(int 0),(.slice none 0 0),(.slice none 0 0),(.slice none 0 0),(str []),(str []),(int 0),(.slice none 0 0),(str [])]:=by kernel_rfl
theorem zGI:fld Tryz.prog 212 0=some 0:=by kernel_rfl
instance:Fld Tryz.prog 212 0 0:=⟨zGI⟩
theorem zIe:fld Tryz.prog 186 0=some 0:=by kernel_rfl
instance:Fld Tryz.prog 186 0 0:=⟨zIe⟩
theorem zDE:fld Tryz.prog 186 1=some 1:=by kernel_rfl
instance:Fld Tryz.prog 186 1 1:=⟨zDE⟩
theorem lay3:lay Tryz.prog 3=some (false,1):=by kernel_rfl
instance:Lay Tryz.prog 3 (false,1):=⟨lay3⟩
theorem zGw:fld Tryz.prog 212 1=some 5:=by kernel_rfl
instance:Fld Tryz.prog 212 1 5:=⟨zGw⟩
theorem zJM:fld Tryz.prog 94 0=some 0:=by kernel_rfl
instance:Fld Tryz.prog 94 0 0:=⟨zJM⟩
theorem zJX:fld Tryz.prog 94 1=some 1:=by kernel_rfl
instance:Fld Tryz.prog 94 1 1:=⟨zJX⟩
theorem zIK:fld Tryz.prog 94 2=some 2:=by kernel_rfl
instance:Fld Tryz.prog 94 2 2:=⟨zIK⟩
theorem zAo:fld Tryz.prog 186 2=some 2:=by kernel_rfl
instance:Fld Tryz.prog 186 2 2:=⟨zAo⟩
theorem lay22:lay Tryz.prog 22=some (false,1):=by kernel_rfl
instance:Lay Tryz.prog 22 (false,1):=⟨lay22⟩
theorem zI1:fld Tryz.prog 186 4=some 4:=by kernel_rfl
instance:Fld Tryz.prog 186 4 4:=⟨zI1⟩
theorem lay45:lay Tryz.prog 45=some (false,1):=by kernel_rfl
instance:Lay Tryz.prog 45 (false,1):=⟨lay45⟩
theorem zCg:fld Tryz.prog 186 3=some 3:=by kernel_rfl
instance:Fld Tryz.prog 186 3 3:=⟨zCg⟩
theorem zBa:fld Tryz.prog 94 3=some 3:=by kernel_rfl
instance:Fld Tryz.prog 94 3 3:=⟨zBa⟩
theorem zJh:fld Tryz.prog 94 4=some 4:=by kernel_rfl
instance:Fld Tryz.prog 94 4 4:=⟨zJh⟩
theorem lay94:lay Tryz.prog 94=some (true,5):=by kernel_rfl
instance:Lay Tryz.prog 94 (true,5):=⟨lay94⟩
theorem zer94:zer Tryz.prog 94=some [(str []),(str []),(int 0),(.slice none 0 0),(str [])]:=by kernel_rfl
theorem zer5:zer Tryz.prog 5=some [(byt 0)]:=by kernel_rfl
theorem bp96:zBL Tryz.prog 96=some [(0,1),(1,1),(2,1),(3,1),(4,1)]:=by kernel_rfl
theorem zer96:zer Tryz.prog 96=some [(str []),(int 0),(str []),(str []),(boo false)]:=by kernel_rfl
theorem lay96:lay Tryz.prog 96=some (true,5):=by kernel_rfl
instance:Lay Tryz.prog 96 (true,5):=⟨lay96⟩
theorem zJJ:fld Tryz.prog 96 1=some 1:=by kernel_rfl
instance:Fld Tryz.prog 96 1 1:=⟨zJJ⟩
theorem zJU:fld Tryz.prog 96 0=some 0:=by kernel_rfl
instance:Fld Tryz.prog 96 0 0:=⟨zJU⟩
theorem zJl:fld Tryz.prog 96 2=some 2:=by kernel_rfl
instance:Fld Tryz.prog 96 2 2:=⟨zJl⟩
theorem zJj:fld Tryz.prog 96 4=some 4:=by kernel_rfl
instance:Fld Tryz.prog 96 4 4:=⟨zJj⟩
theorem lay4:lay Tryz.prog 4=some (false,1):=by kernel_rfl
instance:Lay Tryz.prog 4 (false,1):=⟨lay4⟩
theorem zJi:fld Tryz.prog 92 0=some 0:=by kernel_rfl
instance:Fld Tryz.prog 92 0 0:=⟨zJi⟩
theorem lay90:lay Tryz.prog 90=some (false,1):=by kernel_rfl
instance:Lay Tryz.prog 90 (false,1):=⟨lay90⟩
theorem zBe:fld Tryz.prog 92 1=some 1:=by kernel_rfl
instance:Fld Tryz.prog 92 1 1:=⟨zBe⟩
theorem zBd:fld Tryz.prog 92 2=some 2:=by kernel_rfl
instance:Fld Tryz.prog 92 2 2:=⟨zBd⟩
theorem zBW:fld Tryz.prog 92 4=some 4:=by kernel_rfl
instance:Fld Tryz.prog 92 4 4:=⟨zBW⟩
theorem lay92:lay Tryz.prog 92=some (true,8):=by kernel_rfl
instance:Lay Tryz.prog 92 (true,8):=⟨lay92⟩
theorem zer92:zer Tryz.prog 92=some [(.slice none 0 0),(.slice none 0 0),(.slice none 0 0),(str []),(.slice none 0 0),(str []),(int 0),(int 0)]:=by kernel_rfl
theorem zJS:fld Tryz.prog 62 0=some 0:=by kernel_rfl
instance:Fld Tryz.prog 62 0 0:=⟨zJS⟩
theorem lay59:lay Tryz.prog 59=some (false,1):=by kernel_rfl
instance:Lay Tryz.prog 59 (false,1):=⟨lay59⟩
theorem bp62:zBL Tryz.prog 62=some [(0,1),(1,1)]:=by kernel_rfl
theorem zer62:zer Tryz.prog 62=some [(.slice none 0 0),(.slice none 0 0)]:=by kernel_rfl
theorem zBU:fld Tryz.prog 62 1=some 1:=by kernel_rfl
instance:Fld Tryz.prog 62 1 1:=⟨zBU⟩
theorem lay60:lay Tryz.prog 60=some (false,1):=by kernel_rfl
instance:Lay Tryz.prog 60 (false,1):=⟨lay60⟩
theorem el60:Elem Tryz.prog 60 92 8:=zFY kr
theorem lay62:lay Tryz.prog 62=some (true,2):=by kernel_rfl
instance:Lay Tryz.prog 62 (true,2):=⟨lay62⟩
theorem bp258:zBL Tryz.prog 258=some [(0,1),(1,1)]:=by kernel_rfl
theorem zDI:zer Tryz.prog 258=some [(int 0),(str [])]:=by kernel_rfl
theorem zBt:lay Tryz.prog 258=some (true,2):=by kernel_rfl
instance:Lay Tryz.prog 258 (true,2):=⟨zBt⟩
theorem zI2:fld Tryz.prog 258 1=some 1:=by kernel_rfl
instance:Fld Tryz.prog 258 1 1:=⟨zI2⟩
theorem zI3:fld Tryz.prog 258 0=some 0:=by kernel_rfl
instance:Fld Tryz.prog 258 0 0:=⟨zI3⟩
theorem mz258:((Tryz.prog.info? 258).bind (·.zero))=some (agg [(int 0),(str [])]):=by kernel_rfl
theorem bp164:zBL Tryz.prog 164=some [(0,1),(1,1),(2,1),(3,1),(4,1),(5,1),(6,1),(7,1),(8,1),(9,1),(10,1)]:=by kernel_rfl
theorem zGh:zer Tryz.prog 164=some [(boo false),(boo false),(boo false),(boo false),(boo false),(boo false),(boo false),(int 0),(int 0),(int 0),(int 0)]:=by kernel_rfl
theorem zI7:fld Tryz.prog 164 7=some 7:=by kernel_rfl
instance:Fld Tryz.prog 164 7 7:=⟨zI7⟩
theorem bp263:zBL Tryz.prog 263=some [(0,1),(1,1),(2,1),(3,1)]:=by kernel_rfl
theorem zGl:zer Tryz.prog 263=some [(str []),(.pointer none),(int 0),(int 0)]:=by kernel_rfl
theorem zIk:fld Tryz.prog 164 8=some 8:=by kernel_rfl
instance:Fld Tryz.prog 164 8 8:=⟨zIk⟩
theorem zIa:fld Tryz.prog 164 9=some 9:=by kernel_rfl
instance:Fld Tryz.prog 164 9 9:=⟨zIa⟩
theorem zIW:fld Tryz.prog 164 10=some 10:=by kernel_rfl
instance:Fld Tryz.prog 164 10 10:=⟨zIW⟩
theorem zGE:lay Tryz.prog 263=some (true,4):=by kernel_rfl
instance:Lay Tryz.prog 263 (true,4):=⟨zGE⟩
theorem zIi:fld Tryz.prog 263 0=some 0:=by kernel_rfl
instance:Fld Tryz.prog 263 0 0:=⟨zIi⟩
theorem zIx:fld Tryz.prog 263 1=some 1:=by kernel_rfl
instance:Fld Tryz.prog 263 1 1:=⟨zIx⟩
theorem zJo:lay Tryz.prog 262=some (false,1):=by kernel_rfl
instance:Lay Tryz.prog 262 (false,1):=⟨zJo⟩
theorem zIj:fld Tryz.prog 263 2=some 2:=by kernel_rfl
instance:Fld Tryz.prog 263 2 2:=⟨zIj⟩
theorem zIy:fld Tryz.prog 263 3=some 3:=by kernel_rfl
instance:Fld Tryz.prog 263 3 3:=⟨zIy⟩
theorem el264:Elem Tryz.prog 264 263 4:=zFY kr
theorem zEb:lay Tryz.prog 164=some (true,11):=by kernel_rfl
instance:Lay Tryz.prog 164 (true,11):=⟨zEb⟩
theorem zJO:fld Tryz.prog 92 6=some 6:=by kernel_rfl
instance:Fld Tryz.prog 92 6 6:=⟨zJO⟩
theorem lay2:lay Tryz.prog 2=some (false,1):=by kernel_rfl
instance:Lay Tryz.prog 2 (false,1):=⟨lay2⟩
theorem zJZ:fld Tryz.prog 92 7=some 7:=by kernel_rfl
instance:Fld Tryz.prog 92 7 7:=⟨zJZ⟩
theorem zIt:fld Tryz.prog 164 1=some 1:=by kernel_rfl
instance:Fld Tryz.prog 164 1 1:=⟨zIt⟩
theorem bp108:zBL Tryz.prog 108=some [(0,1),(1,1)]:=by kernel_rfl
theorem zGq:zer Tryz.prog 108=some [(int 0),(int 0)]:=by kernel_rfl
theorem zJV:fld Tryz.prog 38 4=some 4:=by kernel_rfl
instance:Fld Tryz.prog 38 4 4:=⟨zJV⟩
theorem zJb:fld Tryz.prog 38 5=some 5:=by kernel_rfl
instance:Fld Tryz.prog 38 5 5:=⟨zJb⟩
theorem zIp:fld Tryz.prog 164 0=some 0:=by kernel_rfl
instance:Fld Tryz.prog 164 0 0:=⟨zIp⟩
theorem zFO:lay Tryz.prog 108=some (true,2):=by kernel_rfl
instance:Lay Tryz.prog 108 (true,2):=⟨zFO⟩
theorem zId:fld Tryz.prog 164 6=some 6:=by kernel_rfl
instance:Fld Tryz.prog 164 6 6:=⟨zId⟩
theorem zer9:zer Tryz.prog 9=some [(str [])]:=by kernel_rfl
theorem zII:lay Tryz.prog 118=some (false,1):=by kernel_rfl
instance:Lay Tryz.prog 118 (false,1):=⟨zII⟩
theorem zJH:zer Tryz.prog 118=some [.nilFunc]:=by kernel_rfl
theorem zIX:fld Tryz.prog 92 3=some 3:=by kernel_rfl
instance:Fld Tryz.prog 92 3 3:=⟨zIX⟩
theorem zIM:fld Tryz.prog 92 5=some 5:=by kernel_rfl
instance:Fld Tryz.prog 92 5 5:=⟨zIM⟩
theorem bp24:zBL Tryz.prog 24=some [(0,1),(1,1),(2,1),(3,1),(4,1)]:=by kernel_rfl
theorem zer24:zer Tryz.prog 24=some [(int 0),(int 0),(str []),(.slice none 0 0),(str [])]:=by kernel_rfl
theorem lay24:lay Tryz.prog 24=some (true,5):=by kernel_rfl
instance:Lay Tryz.prog 24 (true,5):=⟨lay24⟩
theorem zJL:fld Tryz.prog 24 1=some 1:=by kernel_rfl
instance:Fld Tryz.prog 24 1 1:=⟨zJL⟩
theorem zHO:fld Tryz.prog 24 3=some 3:=by kernel_rfl
instance:Fld Tryz.prog 24 3 3:=⟨zHO⟩
theorem zIc:fld Tryz.prog 294 0=some 0:=by kernel_rfl
instance:Fld Tryz.prog 294 0 0:=⟨zIc⟩
theorem zJD:lay Tryz.prog 292=some (false,1):=by kernel_rfl
instance:Lay Tryz.prog 292 (false,1):=⟨zJD⟩
theorem zI9:lay Tryz.prog 294=some (true,2):=by kernel_rfl
instance:Lay Tryz.prog 294 (true,2):=⟨zI9⟩
theorem zI8:∃ i,Tryz.prog.info? 294=some i:=Option.isSome_iff_exists.1 kr
theorem zJp:Tryz.prog.cellsOf 294=2:=by kernel_rfl
theorem zDm:fld Tryz.prog 294 1=some 1:=by kernel_rfl
instance:Fld Tryz.prog 294 1 1:=⟨zDm⟩
theorem zJE:lay Tryz.prog 206=some (false,1):=by kernel_rfl
instance:Lay Tryz.prog 206 (false,1):=⟨zJE⟩
theorem ceo5:Tryz.prog.cellsOf 5=1:=by kernel_rfl
theorem zJm:zer Tryz.prog 294=some [(.pointer none),(.slice none 0 0)]:=by kernel_rfl
theorem zIN:fld Tryz.prog 24 4=some 4:=by kernel_rfl
instance:Fld Tryz.prog 24 4 4:=⟨zIN⟩
theorem zIO:fld Tryz.prog 24 0=some 0:=by kernel_rfl
instance:Fld Tryz.prog 24 0 0:=⟨zIO⟩
theorem zIQ:fld Tryz.prog 24 2=some 2:=by kernel_rfl
instance:Fld Tryz.prog 24 2 2:=⟨zIQ⟩
theorem bp56:zBL Tryz.prog 56=some [(0,1),(1,1)]:=by kernel_rfl
theorem zer56:zer Tryz.prog 56=some [(str []),(str [])]:=by kernel_rfl
theorem lay56:lay Tryz.prog 56=some (true,2):=by kernel_rfl
instance:Lay Tryz.prog 56 (true,2):=⟨lay56⟩
theorem zHd:lay Tryz.prog 269=some (false,1):=by kernel_rfl
instance:Lay Tryz.prog 269 (false,1):=⟨zHd⟩
theorem mz4:((Tryz.prog.info? 4).bind (·.zero))=some (boo false):=by kernel_rfl
theorem zJq:zer Tryz.prog 269=some [(.map none)]:=by kernel_rfl
theorem bp188:zBL Tryz.prog 188=some [(0,5),(5,5)]:=by kernel_rfl
theorem zJr:zer Tryz.prog 188=some [(str []),(int 0),(.slice none 0 0),(.slice none 0 0),(.slice none 0 0),(int 0),(int 0),(str []),(.slice none 0 0),(str [])]:=by kernel_rfl
theorem zGN:fld Tryz.prog 188 0=some 0:=by kernel_rfl
instance:Fld Tryz.prog 188 0 0:=⟨zGN⟩
theorem zGu:fld Tryz.prog 188 1=some 5:=by kernel_rfl
instance:Fld Tryz.prog 188 1 5:=⟨zGu⟩
theorem zIh:fld Tryz.prog 164 4=some 4:=by kernel_rfl
instance:Fld Tryz.prog 164 4 4:=⟨zIh⟩
theorem zIg:ftype Tryz.prog 164 0=some (4,0):=by kernel_rfl
theorem zIs:fld Tryz.prog 164 2=some 2:=by kernel_rfl
instance:Fld Tryz.prog 164 2 2:=⟨zIs⟩
theorem zIq:fld Tryz.prog 164 5=some 5:=by kernel_rfl
instance:Fld Tryz.prog 164 5 5:=⟨zIq⟩
theorem bp92:zBL Tryz.prog 92=some [(0,1),(1,1),(2,1),(3,1),(4,1),(5,1),(6,1),(7,1)]:=by kernel_rfl
theorem zJc:fld Tryz.prog 38 1=some 1:=by kernel_rfl
instance:Fld Tryz.prog 38 1 1:=⟨zJc⟩
theorem zJa:fld Tryz.prog 38 2=some 2:=by kernel_rfl
instance:Fld Tryz.prog 38 2 2:=⟨zJa⟩
theorem zJQ:fld Tryz.prog 38 3=some 3:=by kernel_rfl
instance:Fld Tryz.prog 38 3 3:=⟨zJQ⟩
theorem bp136:zBL Tryz.prog 136=some [(0,1),(1,1),(2,1),(3,1),(4,1),(5,1)]:=by kernel_rfl
theorem zJu:zer Tryz.prog 136=some [(int 0),(int 0),(int 0),(int 0),(.slice none 0 0),(.map none)]:=by kernel_rfl
theorem zHp:fld Tryz.prog 38 0=some 0:=by kernel_rfl
instance:Fld Tryz.prog 38 0 0:=⟨zHp⟩
theorem bp54:zBL Tryz.prog 54=some [(0,6),(6,1),(7,1),(8,1)]:=by kernel_rfl
theorem zer54:zer Tryz.prog 54=some [(str []),(int 0),(int 0),(int 0),(boo false),(boo false),(.pointer none),(int 0),(.pointer none)]:=by kernel_rfl
theorem zJd:fld Tryz.prog 54 1=some 6:=by kernel_rfl
instance:Fld Tryz.prog 54 1 6:=⟨zJd⟩
theorem lay51:lay Tryz.prog 51=some (false,1):=by kernel_rfl
instance:Lay Tryz.prog 51 (false,1):=⟨lay51⟩
theorem zJY:fld Tryz.prog 54 3=some 8:=by kernel_rfl
instance:Fld Tryz.prog 54 3 8:=⟨zJY⟩
theorem lay52:lay Tryz.prog 52=some (false,1):=by kernel_rfl
instance:Lay Tryz.prog 52 (false,1):=⟨lay52⟩
theorem zH2:fld Tryz.prog 136 5=some 5:=by kernel_rfl
instance:Fld Tryz.prog 136 5 5:=⟨zH2⟩
theorem zJG:lay Tryz.prog 134=some (false,1):=by kernel_rfl
instance:Lay Tryz.prog 134 (false,1):=⟨zJG⟩
theorem mz62:((Tryz.prog.info? 62).bind (·.zero))=some (agg [(.slice none 0 0),(.slice none 0 0)]):=by kernel_rfl
theorem zG0:fld Tryz.prog 54 2=some 7:=by kernel_rfl
instance:Fld Tryz.prog 54 2 7:=⟨zG0⟩
theorem zG9:fld Tryz.prog 54 0=some 0:=by kernel_rfl
instance:Fld Tryz.prog 54 0 0:=⟨zG9⟩
theorem bp111:zBL Tryz.prog 111=some [(0,5),(5,5),(10,1),(11,1),(12,1),(13,1),(14,8)]:=by kernel_rfl
theorem zJF:zer Tryz.prog 111=some [(str []),(str []),(int 0),(.slice none 0 0),(str []),(str []),(int 0),(str []),(str []),(boo false),(str []),(int 0),(boo false),(int 0),(.slice none 0 0),(.slice none 0 0),(.slice none 0 0),(str []),(.slice none 0 0),(str []),(int 0),(int 0)]:=by kernel_rfl
theorem zIw:fld Tryz.prog 108 0=some 0:=by kernel_rfl
instance:Fld Tryz.prog 108 0 0:=⟨zIw⟩
theorem zJA:zer Tryz.prog 102=some [(int 0),.nilIface]:=by kernel_rfl
theorem zHu:fld Tryz.prog 111 0=some 0:=by kernel_rfl
instance:Fld Tryz.prog 111 0 0:=⟨zHu⟩
theorem zIY:fld Tryz.prog 111 4=some 12:=by kernel_rfl
instance:Fld Tryz.prog 111 4 12:=⟨zIY⟩
theorem zHt:fld Tryz.prog 111 3=some 11:=by kernel_rfl
instance:Fld Tryz.prog 111 3 11:=⟨zHt⟩
theorem zIr:fld Tryz.prog 111 2=some 10:=by kernel_rfl
instance:Fld Tryz.prog 111 2 10:=⟨zIr⟩
theorem zGx:fld Tryz.prog 136 0=some 0:=by kernel_rfl
instance:Fld Tryz.prog 136 0 0:=⟨zGx⟩
theorem zH1:fld Tryz.prog 136 1=some 1:=by kernel_rfl
instance:Fld Tryz.prog 136 1 1:=⟨zH1⟩
theorem zIf:fld Tryz.prog 136 3=some 3:=by kernel_rfl
instance:Fld Tryz.prog 136 3 3:=⟨zIf⟩
theorem zAm:fld Tryz.prog 136 4=some 4:=by kernel_rfl
instance:Fld Tryz.prog 136 4 4:=⟨zAm⟩
theorem zIz:fld Tryz.prog 136 2=some 2:=by kernel_rfl
instance:Fld Tryz.prog 136 2 2:=⟨zIz⟩
theorem zHx:fld Tryz.prog 108 1=some 1:=by kernel_rfl
instance:Fld Tryz.prog 108 1 1:=⟨zHx⟩
theorem zJK:fld Tryz.prog 56 1=some 1:=by kernel_rfl
instance:Fld Tryz.prog 56 1 1:=⟨zJK⟩
theorem zJT:fld Tryz.prog 56 0=some 0:=by kernel_rfl
instance:Fld Tryz.prog 56 0 0:=⟨zJT⟩
theorem ps68:zHJ Tryz.prog 68=true:=by kernel_rfl
theorem fk68:zHI Tryz.prog 68=[some 2,some 2]:=by kernel_rfl
structure Tryz.Gl (w:World):Prop where
 pow10:Lib.TabIs Tryz.prog w "internal/strconv.uint64pow10" .u64 Lib.pow10Tab
theorem Tryz.Gl.post {b w:World} {c H:Hp} (h:Tryz.Gl b) (p:Post b c w H):Tryz.Gl w :=
 ⟨zIn (by kernel_rfl:Tryz.prog.globalNamed "internal/strconv.uint64pow10"=some 5) h.pow10 p⟩
theorem zF6 {b:World} {c:Hp} (hw:Holds b c) (d:Str) (f:Str) {r:Int} (h:zBv d f=some r) :
  Ci Tryz.prog 140 [(str d),(str f)] b c r :=
 zIm Tryz.func140 rfl kr hw h (zFp Tryz.lays153 kr)
theorem zCD {b:World} {c:Hp} (hw:Holds b c) (hG:Tryz.Gl b) (d:Int) {r:Str} (h:strconv_Itoa d=some r) :
  Cs Tryz.prog 170 [(int d)] b c r :=
 zJP Tryz.func170 rfl kr hw hG.pow10 h Tryz.strconv_Itoa
theorem zEO {c:World} {d:Hp} (hw:Holds c d) (b:Str) {r:Unit} (h:strings_makeASCIISet b=some r) :
  Con Tryz.prog 206 [(str b)] c d (fun H' v=>v=(.tuple ⟨[(.agg (Lib.setCells b)),(boo true)]⟩)) :=
 zI5 Tryz.func206 rfl kr hw h (Tryz.strings_makeASCIISet (fun w=>(Tryz.zeroValue287 w).trans kr))
theorem zBR {d:World} {c:Hp} (hw:Holds d c) (f:Str) (i:UInt8) {b:Nat} (hA:At c ⟨b,0,none⟩ (setc f)) {r:Bool} (h:zAS f i=some r) :
  Cb Tryz.prog 207 [(ptr b 0),(byt i)] d c r :=
 zIv Tryz.func207 rfl kr hw hA h Tryz.asciiSet_contains
theorem zG2 {c:World} {b:Hp} (hw:Holds c b) (d:List Str) (f:Str) {vl:Value} (R:Sl b vl d) {r:Str} (h:strings_Join d f=some r) :
  Cs Tryz.prog 214 [vl,(str f)] c b r :=
 zJN Tryz.func214 rfl kr hw R h Tryz.strings_Join_none Tryz.strings_Join
theorem zEp:SortCon Tryz.prog 257:=⟨zGQ Tryz.func257 rfl kr,Tryz.slices_Sort_string_none,Tryz.slices_Sort_string⟩
theorem zD1:CompactCon Tryz.prog 258:=⟨zGQ Tryz.func258 rfl kr,Tryz.slices_Compact_string_empty,Tryz.slices_Compact_string⟩
theorem zC6 {b:World} {c:Hp} (hw:Holds b c) (d:Str) (f:Str) {r:Int} (h:zBA d f=some r) :
  Ci Tryz.prog 272 [(str d),(str f)] b c r :=
 zI0 Tryz.func272 rfl kr hw h Tryz.stringslite_Index_one
abbrev CallK (P:Program) (k:FuncId) (args:List Value) (w:World) (K:Value→World→Prop):Prop :=
 (∀ w,(callFunc k args.toArray).run P w=.ok (.enter k args.toArray) w)∧Calls P k args.toArray w (fun e w'=>∃ v,e=.returned v∧K v w')
theorem callK {P:Program} {N:Frm} {f:Fr} {w:World} {ops:Array Oper} {rest:List Oper} {Q:Fr→World→Prop} {od:Option Nat} {ty:TypeId} {pos:String} {af:Array Edge} {k:FuncId} {xs:List Operand} {ats:Array TypeId} {args:List Value} (ha:xs.map (ev N f)=args)
  (C:CallK P k args w (fun v w'=>WL P N ops rest Q (updo f od v) w')) :
  WL P N ops (⟨od,.call ⟨.value (.func k),xs.toArray,ats⟩,ty,pos,af,none⟩ :: rest) Q f w:=by
 refine WL.enterw (w':=w) (k:=k) (args:=args.toArray) ?_ C.2
 have:(execOp (ev N f) ⟨od,.call ⟨.value (.func k),xs.toArray,ats⟩,ty,pos,af,none⟩)=callFunc k (#[]++xs.toArray.map (ev N f)++#[]):=rfl
 rw [this]
 have e:(#[]++xs.toArray.map (ev N f)++#[])=args.toArray:=by simp [ha]
 rw [e]
 exact C.1 w
theorem zGV {b:World} {c:Hp} (hw:Holds b c) (hG:Tryz.Gl b) {r:GConfig} (h:zF1=some r) :
  Con Tryz.prog 14 [] b c (fun H' v=>v=(agg [(str r.fName),(int r.fBytes),(int r.fVariants),(int r.fTables),(boo r.fStrict),(boo r.fRefuse)])):=by
 refine CM 2 Tryz.func14 hw fun S=>?_
 refine Ws<|Wg ?_
 refine W.alloc [(str []),(int 0),(int 0),(int 0),(boo false),(boo false)] S zer38 ?_
 intro d f S
 refine We<|Ws<|Wg ?_
 refine WL.w (R.build [(0,(str [112])),(1,(int 1000)),(2,(int 4)),(3,(int 4))] [(str [112]),(int 1000),(int 4),(int 4),(boo false),(boo false)] bp38 zer38 rfl rfl) ?_
 refine W.store (i:=0) [(str [112]),(int 1000),(int 4),(int 4),(boo false),(boo false)] S rfl rfl rfl lay38 rfl rfl (Nat.le_of_ble_eq_true rfl) rfl ?_
 intro j S
 refine We ?_
 obtain rfl:=oi h
 refine WP.ret (Out.one rfl S (Res.cellB (i:=0) (cs:=[(str [112]),(int 1000),(int 4),(int 4),(boo false),(boo false)]) S rfl rfl lay38 rfl rfl) ?_)
 exact rfl
theorem zGy {t:World} {d:Hp} (hw:Holds t d) (hG:Tryz.Gl t) (c:UInt8) {r:Bool} (h:zGn c=some r) :
  Cb Tryz.prog 76 [(byt c)] t d r:=by
 refine CM 42 Tryz.func76 hw fun S=>?_
 refine Ws<|Wg<|A<|We<|Ws<|Ws<|Wg<|M<|We<|B h fun j4 p h=>WP.cut (fun f w=>match j4 with | .inl _=>∃ (H1:Hp),f 0=(byt c)∧St t d w H1 [] | .inr _=>False) ?_ ?_
 ·refine Wb<|Ws<|Ws<|Wg<|Me c 33<|A<|We<|B p fun aq b p=>WP.cut (fun f w=>∃ (u:Hp),f 0=(byt c)∧f 4=(boo aq)∧St t d w u []) ?_ ?_
  ·rcases condE b with ⟨v,b⟩ | ⟨v,b⟩
   ·refine CT v<|Wk ?_
    obtain rfl:=oi b
    exact ⟨d,rfl,rfl,S⟩
   refine CF v<|Ws<|Wg<|Me c 35<|A<|We ?_
   rcases condE b with ⟨x,b⟩ | ⟨x,b⟩
   ·refine CT x<|Wk ?_
    obtain rfl:=oi b
    exact ⟨d,rfl,rfl,S⟩
   refine CF x<|Ws<|Wg<|Me c 36<|A<|We ?_
   rcases condE b with ⟨z,b⟩ | ⟨z,b⟩
   ·refine CT z<|Wk ?_
    obtain rfl:=oi b
    exact ⟨d,rfl,rfl,S⟩
   refine CF z<|Ws<|Wg<|Me c 37<|A<|We ?_
   rcases condE b with ⟨aa,b⟩ | ⟨aa,b⟩
   ·refine CT aa<|Wk ?_
    obtain rfl:=oi b
    exact ⟨d,rfl,rfl,S⟩
   refine CF aa<|Ws<|Wg<|Me c 38<|A<|We ?_
   rcases condE b with ⟨ab,b⟩ | ⟨ab,b⟩
   ·refine CT ab<|Wk ?_
    obtain rfl:=oi b
    exact ⟨d,rfl,rfl,S⟩
   refine CF ab<|Ws<|Wg<|Me c 39<|A<|We ?_
   rcases condE b with ⟨ac,b⟩ | ⟨ac,b⟩
   ·refine CT ac<|Wk ?_
    obtain rfl:=oi b
    exact ⟨d,rfl,rfl,S⟩
   refine CF ac<|Ws<|Wg<|Me c 42<|A<|We ?_
   rcases condE b with ⟨ad,b⟩ | ⟨ad,b⟩
   ·refine CT ad<|Wk ?_
    obtain rfl:=oi b
    exact ⟨d,rfl,rfl,S⟩
   refine CF ad<|Ws<|Wg<|Me c 43<|A<|We ?_
   rcases condE b with ⟨ae,b⟩ | ⟨ae,b⟩
   ·refine CT ae<|Wk ?_
    obtain rfl:=oi b
    exact ⟨d,rfl,rfl,S⟩
   refine CF ae<|Ws<|Wg<|Me c 45<|A<|We ?_
   rcases condE b with ⟨af,b⟩ | ⟨af,b⟩
   ·refine CT af<|Wk ?_
    obtain rfl:=oi b
    exact ⟨d,rfl,rfl,S⟩
   refine CF af<|Ws<|Wg<|Me c 46<|A<|We ?_
   rcases condE b with ⟨ah,b⟩ | ⟨ah,b⟩
   ·refine CT ah<|Wk ?_
    obtain rfl:=oi b
    exact ⟨d,rfl,rfl,S⟩
   refine CF ah<|Ws<|Wg<|Me c 94<|A<|We ?_
   rcases condE b with ⟨ai,b⟩ | ⟨ai,b⟩
   ·refine CT ai<|Wk ?_
    obtain rfl:=oi b
    exact ⟨d,rfl,rfl,S⟩
   refine CF ai<|Ws<|Wg<|Me c 95<|A<|We ?_
   rcases condE b with ⟨aj,b⟩ | ⟨aj,b⟩
   ·refine CT aj<|Wk ?_
    obtain rfl:=oi b
    exact ⟨d,rfl,rfl,S⟩
   refine CF aj<|Ws<|Wg<|Me c 96<|A<|We ?_
   rcases condE b with ⟨ak,b⟩ | ⟨ak,b⟩
   ·refine CT ak<|Wk ?_
    obtain rfl:=oi b
    exact ⟨d,rfl,rfl,S⟩
   refine CF ak<|Ws<|Wg<|Me c 124<|A<|We ?_
   rcases condE b with ⟨al,b⟩ | ⟨al,b⟩
   ·refine CT al<|Wk ?_
    obtain rfl:=oi b
    exact ⟨d,rfl,rfl,S⟩
   refine CF al<|Wg<|Me c 126<|A<|We ?_
   obtain rfl:=oi b
   exact ⟨d,rfl,rfl,S⟩
  rintro f w ⟨u,h6,h8,S⟩
  rcases condE p with ⟨am,p⟩ | ⟨am,p⟩
  ·refine WP.condT h8 am<|Ws<|Wg<|A<|We ?_
   obtain rfl:=oi p
   exact WP.ret (Rb h S)
  refine WP.condF h8 am<|Wk ?_
  obtain rfl:=oi p
  exact ⟨u,h6,S⟩
 intro f w hM
 rcases j4 with _ | e
 ·obtain ⟨H1,q,S⟩:=hM
  refine Ws<|Wg<|M' q<|Md c 48<|M ?_
  refine WL.grp 3 [23,24] 25 (boo ((decide (48≤c))&&(decide (c≤57)))) ?_ ?_
  ·rcases boolE (decide (48≤c)) with k | k
   ·refine Gy k<|M' q<|Gy k<|Mb c 57<|Pt k ?_
    exact We ⟨(andT k),ag,rfl⟩
   refine Gn k<|Gn k<|Pf k ?_
   exact We ⟨(andF k),ag,rfl⟩
  intro us
  refine M ?_
  refine WL.grp 7 [27,28,29,30,31,32] 33 (boo (((decide (48≤c))&&(decide (c≤57)))||((decide (65≤c))&&(decide (c≤90))))) ?_ ?_
  ·rcases boolE ((decide (48≤c))&&(decide (c≤57))) with i | i
   ·refine Gn i<|Gn i<|Gn i<|WL.gund rfl rfl<|WL.gund rfl rfl<|Gn i<|Pt i ?_
    exact We ⟨(orT i),ag,rfl⟩
   refine Gy i<|M' q<|Gy i<|Md c 65<|Gy i<|M ?_
   refine WL.grp 3 [30,31] 32 (boo ((decide (65≤c))&&(decide (c≤90)))) ?_ ?_
   ·rcases boolE (decide (65≤c)) with l | l
    ·refine Gy l<|M' q<|Gy l<|Mb c 90<|Gy i<|Pt l ?_
     exact We ⟨(andT l),ag,rfl⟩
    refine Gn l<|Gn l<|Gy i<|Pf l ?_
    exact We ⟨(andF l),ag,rfl⟩
   intro us
   refine Pf i ?_
   exact We ⟨(orF i),ag,rfl⟩
  intro us
  refine M ?_
  refine WL.grp 7 [35,36,37,38,39,40] 41 (boo ((((decide (48≤c))&&(decide (c≤57)))||((decide (65≤c))&&(decide (c≤90))))||((decide (97≤c))&&(decide (c≤122))))) ?_ ?_
  ·rcases boolE (((decide (48≤c))&&(decide (c≤57)))||((decide (65≤c))&&(decide (c≤90)))) with j | j
   ·refine Gn j<|Gn j<|Gn j<|WL.gund rfl rfl<|WL.gund rfl rfl<|Gn j<|Pt j ?_
    exact We ⟨(orT j),ag,rfl⟩
   refine Gy j<|M' q<|Gy j<|Md c 97<|Gy j<|M ?_
   refine WL.grp 3 [38,39] 40 (boo ((decide (97≤c))&&(decide (c≤122)))) ?_ ?_
   ·rcases boolE (decide (97≤c)) with o | o
    ·refine Gy o<|M' q<|Gy o<|Mb c 122<|Gy j<|Pt o ?_
     exact We ⟨(andT o),ag,rfl⟩
    refine Gn o<|Gn o<|Gy j<|Pf o ?_
    exact We ⟨(andF o),ag,rfl⟩
   intro us
   refine Pf j ?_
   exact We ⟨(orF j),ag,rfl⟩
  intro us
  refine A<|We ?_
  exact WP.ret (Rb h S)
 exact hM.elim
theorem zA0 {d:World} {i:Hp} (hw:Holds d i) (hG:Tryz.Gl d) (c:Str) {r:Bool} (h:zBK c=some r) :
  Cb Tryz.prog 37 [(str c)] d i r:=by
 refine CM 17 Tryz.func37 hw fun S=>?_
 refine Ws<|Wg<|A<|We<|Ws<|Ws<|Wg<|M<|Ns<|M<|We<|B h fun j z h=>WP.cut (fun f w=>match j with | .inl _=>∃ (t:Hp),f 0=(str c)∧St d i w t [] | .inr _=>False) ?_ ?_
 ·refine Wb ?_
  refine WP.loopM (zEZ c) (fun s f w=>match s with | u=>∃ (k:Hp),f 0=(str c)∧f 5=(int (c.length:Int))∧f 6=(int u)∧St d i w k []) 0 j (lfW z) ?_ ?_
  ·exact ⟨i,rfl,rfl,rfl,S⟩
  intro u f w hI y8 b v
  obtain ⟨k,l,x,o,S⟩:=hI
  refine Ws<|Wg<|La' o x<|We<|Ws ?_
  rcases condE b with ⟨p,b⟩ | ⟨p,b⟩
  ·refine CT p<|Wk<|Ws<|Wb<|Ws<|Wg<|M' o<|A<|We<|Ws<|Wg<|M' l ?_
   refine M<|B b fun aa ab b=>Ja ab<|B b fun ah ac b=>W.call S rfl (zGy S.holds (hG.post S.post) aa ac) ?_
   rintro ai aj ad ak S rfl
   refine No<|We ?_
   rcases condE b with ⟨q,b⟩ | ⟨q,b⟩
   ·refine CT q<|Ws<|Wg<|A<|We ?_
    obtain rfl:=oi b
    obtain rfl:=v
    exact WP.ret (Rb h S)
   refine CF q<|Wk<|Wg<|Lg' o rfl<|M<|We ?_
   obtain rfl:=oi b
   exact ⟨rfl,⟨ad,l,x,rfl,S⟩⟩
  refine CF p<|Wx ?_
  obtain rfl:=oi b
  obtain rfl:=v
  exact ⟨k,l,S⟩
 intro f w hM
 rcases j with _ | e
 ·obtain ⟨t,h7,S⟩:=hM
  refine Ws<|Wg<|M' h7<|Nb<|A<|We ?_
  exact WP.ret (Rb h S)
 exact hM.elim
theorem zFe {b:World} {i:Hp} (hw:Holds b i) (hG:Tryz.Gl b) (c:Str) (d:Str) {r:(Str×Str×Bool)} (h:zEE c d=some r) :
  Con Tryz.prog 209 [(str c),(str d)] b i (fun H' v=>v=(.tuple ⟨[(str r.1),(str r.2.1),(boo r.2.2)]⟩)):=by
 refine CM 23 Tryz.func209 hw fun S=>?_
 refine Ws<|Wg<|A<|A<|A<|We<|Ws<|Ws<|Wg<|M<|M<|B h fun o j h=>W.call S rfl (zC6 S.holds c d j) ?_
 rintro p q t u S rfl
 refine A<|We<|Ws<|Wg<|M<|Ld<|We ?_
 rcases condE h with ⟨f,h⟩ | ⟨f,h⟩
 ·refine CT f<|Ws<|WP.quiet S kr kr<|QM<|QM<|B h fun x k h=>QJd k<|QM<|QM<|QM<|QNs<|QLg<|B h fun z l h=>QJc l<|QA<|QA<|QA<|WQ.nil ?_
  intro w7 H8 ac S
  obtain rfl:=oi h
  refine WP.ret (Out.three rfl S rfl rfl rfl ?_)
  exact rfl
 refine CF f<|Wk<|Ws<|Wg<|M<|A<|A<|A<|We ?_
 obtain rfl:=oi h
 refine WP.ret (Out.three rfl S rfl rfl rfl ?_)
 exact rfl
theorem zAX {b:World} {f:Hp} (hw:Holds b f) (hG:Tryz.Gl b) (c:Str) (d:Str) {r:(Str×Str×Bool)} (h:zAn c d=some r) :
  Con Tryz.prog 142 [(str c),(str d)] b f (fun H' v=>v=(.tuple ⟨[(str r.1),(str r.2.1),(boo r.2.2)]⟩)):=by
 refine CM 13 Tryz.func142 hw fun S=>?_
 refine Ws<|Wg<|A<|A<|A<|We<|Ws<|Wg<|M<|M<|B h fun j i h=>W.call S rfl (zFe S.holds (hG.post S.post) c d i) ?_
 rintro k l o p S rfl
 refine Ex ?_
 refine Ex ?_
 refine Ex<|A<|A<|A<|We ?_
 obtain rfl:=oi h
 refine WP.ret (Out.three rfl S rfl rfl rfl ?_)
 exact rfl
theorem zEq {j:World} {k:Hp} (hw:Holds j k) (hG:Tryz.Gl j) (i:Str) {r:Bool} (h:zDb i=some r) :
  Cb Tryz.prog 268 [(str i)] j k r:=by
 refine CM 22 Tryz.func268 hw fun S=>?_
 refine Ws<|Wg<|A<|We<|Ws<|Ws<|Wg<|M<|Ns<|M<|We<|B h fun aa ab h=>WP.cut (fun f w=>∃ (u:Hp),f 0=(str i)∧St j k w u []) ?_ ?_
 ·refine Wb ?_
  refine WP.loopM (zCR i) (fun s f w=>match s with | v=>∃ (l:Hp),f 0=(str i)∧f 5=(int (i.length:Int))∧f 6=(int v)∧St j k w l []) 0 aa (lfW ab) ?_ ?_
  ·exact ⟨k,rfl,rfl,rfl,S⟩
  intro v f w hI y8 b ac
  obtain ⟨l,o,x,p,S⟩:=hI
  refine Ws<|Wg<|La' p x<|We<|Ws ?_
  rcases condE b with ⟨q,b⟩ | ⟨q,b⟩
  ·refine CT q<|Wk<|Ws<|Wb<|Ws<|Wg<|M' p<|A<|We<|Ws<|Wg<|M' o ?_
   refine M<|B b fun z ad b=>Ja ad<|Ma z 33<|M<|B b fun ae d b=>WL.grp 5 [14,15,16,17] 18 (boo ae) ?_ ?_
   ·rcases boolE (decide (z<33)) with c | c
    ·replace d:=condT d c
     refine Gn c<|Gn c<|Gn c<|Gn c<|Pt c ?_
     exact We ⟨(ob d),ag,rfl⟩
    replace d:=condF d c
    refine Gy c<|M' o<|Gy c<|M<|Gy c<|B d fun af ah d=>Ja ah<|Gy c<|Mc af 126<|Pf c ?_
    exact We ⟨(ob d),ag,rfl⟩
   intro us
   refine We ?_
   rcases condE b with ⟨t,b⟩ | ⟨t,b⟩
   ·refine CT t ?_
    cases b
   refine CF t<|Wk<|Wg<|Lg' p rfl<|M<|We ?_
   obtain rfl:=oi b
   exact ⟨rfl,⟨l,o,x,rfl,S⟩⟩
  refine CF q<|Wx ?_
  obtain rfl:=oi b
  obtain rfl:=ac
  exact ⟨l,o,S⟩
 rintro f w ⟨u,h7,S⟩
 refine Ws<|Wg<|M' h7<|Nb<|A<|We ?_
 exact WP.ret (Rb h S)
theorem zA6 {d:World} {f:Hp} (hw:Holds d f) (hG:Tryz.Gl d) (c:UInt8) {r:Bool} (h:zBC c=some r) :
  Cb Tryz.prog 289 [(byt c)] d f r:=by
 refine CM 9 Tryz.func289 hw fun S=>?_
 refine Ws<|Wg<|A<|We<|Ws<|Wg<|M<|Md c 48<|M ?_
 refine WL.grp 3 [6,7] 8 (boo ((decide (48≤c))&&(decide (c≤57)))) ?_ ?_
 ·rcases boolE (decide (48≤c)) with b | b
  ·refine Gy b<|M<|Gy b<|Mb c 57<|Pt b ?_
   exact We ⟨(andT b),ag,rfl⟩
  refine Gn b<|Gn b<|Pf b ?_
  exact We ⟨(andF b),ag,rfl⟩
 intro us
 refine A<|We ?_
 exact WP.ret (Rb h S)
theorem zCM {t:World} {q:Hp} (hw:Holds t q) (hG:Tryz.Gl t) (u:Str) {r:(Int×Unit)} (h:zBw u=some r) :
  Con Tryz.prog 242 [(str u)] t q (fun H' v=>v=(.tuple ⟨[(int r.1),.nilIface]⟩)):=by
 refine CM 47 Tryz.func242 hw fun S=>?_
 refine Ws<|Wg<|A<|A<|We<|Ws<|Ws<|Wg<|M<|Ns<|Lf<|M<|B h fun b4 l h=>WL.grp 4 [8,9,10] 11 (boo b4) ?_ ?_
 ·rcases boolE ((u.length:Int) !=8) with d | d
  ·replace l:=condT l d
   refine Gn d<|Gn d<|Gn d<|Pt d ?_
   exact We ⟨(ob l),ag,rfl⟩
  replace l:=condF l d
  refine Gy d<|M<|Gy d<|B l fun s3 ah l=>Jd ah<|Gy d<|Nb<|Pf d ?_
  exact We ⟨(ob l),ag,rfl⟩
 intro us
 refine M<|B h fun ab j h=>WL.grpw 5 [13,14,15,16] 17 (boo ab) (fun w=>∃ H':Hp,q.le H'∧St t q w H' []) ?_ ?_
 ·rcases boolE b4 with b | b
  ·replace j:=condT j b
   refine Gn b<|Gn b<|Gn b<|Gn b<|Pt b ?_
   exact We ⟨(ob j),ag,⟨q,lr,S⟩⟩
  replace j:=condF j b
  refine Gy b<|M<|Gy b<|B j fun c7 aj j=>Ja aj<|Gy b<|B j fun r8 ak j=>W.call S rfl (zA6 S.holds (hG.post S.post) c7 ak) ?_
  rintro v9 a5 al am S rfl
  refine Gy b<|No<|Pf b ?_
  exact We ⟨(ob j),ag,⟨al,am,S⟩⟩
 intro us a6 ⟨ac,a7,S⟩
 refine M<|B h fun ad o h=>WL.grp 4 [19,20,21] 22 (boo ad) ?_ ?_
 ·rcases boolE ab with f | f
  ·replace o:=condT o f
   refine Gn f<|Gn f<|Gn f<|Pt f ?_
   exact We ⟨(ob o),ag,rfl⟩
  replace o:=condF o f
  refine Gy f<|M<|Gy f<|B o fun an ao o=>Ja ao<|Gy f<|Mf an 46<|Pf f ?_
  exact We ⟨(ob o),ag,rfl⟩
 intro us
 refine M<|B h fun ap k h=>WL.grpw 5 [24,25,26,27] 28 (boo ap) (fun w=>∃ H':Hp,ac.le H'∧St t q w H' []) ?_ ?_
 ·rcases boolE ad with c | c
  ·replace k:=condT k c
   refine Gn c<|Gn c<|Gn c<|Gn c<|Pt c ?_
   exact We ⟨(ob k),ag,⟨ac,lr,S⟩⟩
  replace k:=condF k c
  refine Gy c<|M<|Gy c<|B k fun aq ar k=>Ja ar<|Gy c<|B k fun a8 au k=>W.call S rfl (zA6 S.holds (hG.post S.post) aq au) ?_
  rintro a9 ba av aw S rfl
  refine Gy c<|No<|Pf c ?_
  exact We ⟨(ob k),ag,⟨av,aw,S⟩⟩
 intro us bb ⟨bc,bd,S⟩
 refine We ?_
 rcases condE h with ⟨x,h⟩ | ⟨x,h⟩
 ·refine CT x ?_
  cases h
 refine CF x<|Wk<|Ws<|Ws<|Wg<|M<|B h fun ae ax h=>Ja ax<|Mf ae 49<|M<|B h fun ay p h=>WL.grp 4 [36,37,38] 39 (boo ay) ?_ ?_
 ·rcases boolE (ae !=49) with i | i
  ·replace p:=condT p i
   refine Gn i<|Gn i<|Gn i<|Pt i ?_
   exact We ⟨(ob p),ag,rfl⟩
  replace p:=condF p i
  refine Gy i<|M<|Gy i<|B p fun az a0 p=>Ja a0<|Gy i<|Mc az 49<|Pf i ?_
  exact We ⟨(ob p),ag,rfl⟩
 intro us
 refine We ?_
 rcases condE h with ⟨z,h⟩ | ⟨z,h⟩
 ·refine CT z ?_
  cases h
 refine CF z<|Wk<|Ws<|Wg<|M<|B h fun af a1 h=>Ja a1<|Mh af 48 ?_
 refine WL.w (R.i64of8 (a:=af - 48) rfl Tryz.underlying5 Tryz.underlying3)<|A<|A<|We ?_
 obtain rfl:=oi h
 refine WP.ret (Out.two rfl S rfl rfl ?_)
 exact rfl
theorem zBb {f:World} {i:Hp} (hw:Holds f i) (hG:Tryz.Gl f) (j:Str) {r:(Str×Str×Int×Int)} (h:zBG j=some r) :
  Con Tryz.prog 203 [(str j)] f i (fun H' v=>v=(.tuple ⟨[(str r.1),(str r.2.1),(int r.2.2.1),(int r.2.2.2)]⟩)):=by
 refine CM 49 Tryz.func203 hw fun S=>?_
 refine Ws<|Wg<|A<|A<|A<|A<|We<|Ws<|Ws<|Wg<|M<|Ns ?_
 refine Lc<|We ?_
 rcases condE h with ⟨k,h⟩ | ⟨k,h⟩
 ·refine CT k ?_
  cases h
 refine CF k<|Wk<|Ws<|Wg<|M<|B h fun o t h=>W.call S rfl (zAX S.holds (hG.post S.post) j [32] t) ?_
 rintro v3 w4 H5 aj S rfl
 refine M ?_
 refine Ex ?_
 refine Ex ?_
 refine Ex<|A<|A<|A<|We<|Ws<|Wg<|M<|B h fun p u h=>W.call S rfl (zAX S.holds (hG.post S.post) o.2.1 [32] u) ?_
 rintro v8 w9 am an S rfl
 refine M ?_
 refine Ex ?_
 refine Ex ?_
 refine Ex<|A<|A<|A<|We<|Ws<|Ws<|Wg<|M<|B h fun x z h=>W.call S rfl (zA0 S.holds (hG.post S.post) o.1 z) ?_
 rintro ao ap q aq S rfl
 refine No<|M<|B h fun aa d h=>WL.grpw 4 [33,34,35] 36 (boo aa) (fun w=>∃ H':Hp,q.le H'∧St f i w H' []) ?_ ?_
 ·rcases boolE (!x) with c | c
  ·replace d:=condT d c
   refine Gn c<|Gn c<|Gn c<|Pt c ?_
   exact We ⟨(ob d),ag,⟨q,lr,S⟩⟩
  replace d:=condF d c
  refine Gy c<|M<|Gy c<|B d fun ar ab d=>W.call S rfl (zEq S.holds (hG.post S.post) p.1 ab) ?_
  rintro au av ac ad S rfl
  refine Gy c<|No<|Pf c ?_
  exact We ⟨(ob d),ag,⟨ac,ad,S⟩⟩
 intro us aw ⟨ax,ay,S⟩
 refine We ?_
 rcases condE h with ⟨l,h⟩ | ⟨l,h⟩
 ·refine CT l ?_
  cases h
 refine CF l<|Wk<|Ws<|Wg<|M<|B h fun az ae h=>W.call S rfl (zCM S.holds (hG.post S.post) p.2.1 ae) ?_
 rintro a0 a1 a2 a3 S rfl
 refine M ?_
 refine Ex ?_
 refine Ex<|A<|A<|We<|Ws<|Ws<|Wg<|M ?_
 refine WL.w (R.neqNI rfl rfl Tryz.underlying98)<|We ?_
 refine WP.condF (b:=false) rfl rfl<|Wk<|Ws<|Wg<|M<|M<|M<|A<|A<|A<|A<|We ?_
 obtain rfl:=oi h
 refine WP.ret (Out.four rfl S rfl rfl rfl rfl ?_)
 exact rfl
theorem zEy {p:World} {z:Hp} (hw:Holds p z) (hG:Tryz.Gl p) (o:Str) {r:(Str×Int×Int)} (h:zFA o=some r) :
  Con Tryz.prog 176 [(str o)] p z (fun H' v=>v=(.tuple ⟨[(str r.1),(int r.2.1),(int r.2.2)]⟩)):=by
 refine CM 53 Tryz.func176 hw fun S=>?_
 refine Ws<|Wg<|A<|A<|A<|We<|Ws<|Wg<|M<|B h fun l ab h=>W.call S rfl (zF6 S.holds o [13,10] ab) ?_
 rintro v2 w3 H4 an S rfl
 refine A<|We<|Ws<|Wb<|Ws<|Wg<|M<|Lc<|M ?_
 refine WL.grp 8 [12,13,14,15,16,17,18] 19 (boo ((decide (2000<l))||((decide (l<0))&&(decide (2000<(o.length:Int)))))) ?_ ?_
 ·rcases boolE (decide (2000<l)) with f | f
  ·refine Gn f<|Gn f<|Gn f<|WL.gund rfl rfl<|WL.gund rfl rfl<|WL.gund rfl rfl<|Gn f<|Pt f ?_
   exact We ⟨(orT f),ag,rfl⟩
  refine Gy f<|M<|Gy f<|La<|Gy f<|M ?_
  refine WL.grp 4 [15,16,17] 18 (boo ((decide (l<0))&&(decide (2000<(o.length:Int))))) ?_ ?_
  ·rcases boolE (decide (l<0)) with i | i
   ·refine Gy i<|M<|Gy i<|Ns<|Gy i<|Lc<|Gy f<|Pt i ?_
    exact We ⟨(andT i),ag,rfl⟩
   refine Gn i<|Gn i<|Gn i<|Gy f<|Pf i ?_
   exact We ⟨(andF i),ag,rfl⟩
  intro us
  refine Pf f ?_
  exact We ⟨(orF f),ag,rfl⟩
 intro us
 refine A<|We ?_
 rcases condE h with ⟨q,h⟩ | ⟨q,h⟩
 ·refine CT q ?_
  cases h
 refine CF q<|Ws<|Wg<|M<|La<|M<|B h fun ac j h=>WL.grp 12 [24,25,26,27,28,29,30,31,32,33,34] 35 (boo ac) ?_ ?_
 ·rcases boolE (decide (l<0)) with b | b
  ·replace j:=condT j b
   refine Gn b<|Gn b<|Gn b<|Gn b<|Gn b<|WL.gund rfl rfl<|WL.gund rfl rfl<|WL.gund rfl rfl<|WL.gund rfl rfl<|WL.gund rfl rfl<|Gn b<|Pt b ?_
   exact We ⟨(ob j),ag,rfl⟩
  replace j:=condF j b
  refine Gy b<|M<|Gy b<|M<|Gy b<|B j fun t ad j=>Ja ad<|Gy b<|Me t 13<|Gy b<|M ?_
  refine WL.grp 6 [29,30,31,32,33] 34 (boo ((t==13)&&(l==(wr ((o.length:Int) - 1))))) ?_ ?_
  ·rcases boolE (t==13) with c | c
   ·refine Gy c<|M<|Gy c<|M<|Gy c<|Ns<|Gy c<|Lh<|Gy c<|Le<|Gy b<|Pt c ?_
    exact We ⟨(andT c),ag,rfl⟩
   refine Gn c<|Gn c<|Gn c<|Gn c<|Gn c<|Gy b<|Pf c ?_
   exact We ⟨(andF c),ag,rfl⟩
  intro us
  refine Pf b ?_
  exact We ⟨(ob j),ag,rfl⟩
 intro us
 refine A<|We ?_
 rcases condE h with ⟨u,h⟩ | ⟨u,h⟩
 ·refine CT u ?_
  cases h
 refine CF u<|Ws<|Wg<|M<|M<|B h fun aa ae h=>Ja ae<|Me aa 10<|M<|B h fun af k h=>WL.grp 6 [42,43,44,45,46] 47 (boo af) ?_ ?_
 ·rcases boolE (aa==10) with d | d
  ·replace k:=condT k d
   refine Gn d<|Gn d<|Gn d<|Gn d<|Gn d<|Pt d ?_
   exact We ⟨(ob k),ag,rfl⟩
  replace k:=condF k d
  refine Gy d<|M<|Gy d<|M<|Gy d<|Lg<|Gy d<|B k fun ah ai k=>Ja ai<|Gy d<|Mf ah 10<|Pf d ?_
  exact We ⟨(ob k),ag,rfl⟩
 intro us
 refine A<|We ?_
 rcases condE h with ⟨x,h⟩ | ⟨x,h⟩
 ·refine CT x ?_
  cases h
 refine CF x<|Wk<|Ws<|Wg<|M<|M<|B h fun ao aj h=>Jd aj<|M<|Lg<|A<|A<|A<|We ?_
 obtain rfl:=oi h
 refine WP.ret (Out.three rfl S rfl rfl rfl ?_)
 exact rfl
theorem zDL {k:World} {l:Hp} (hw:Holds k l) (hG:Tryz.Gl k) (o:Str) {r:Bool} (h:zDx o=some r) :
  Cb Tryz.prog 241 [(str o)] k l r:=by
 refine CM 26 Tryz.func241 hw fun S=>?_
 refine Ws<|Wg<|A<|We<|Ws<|Ws<|Wg<|M<|Ns<|M<|We<|B h fun ad ae h=>WP.cut (fun f w=>∃ (x:Hp),St k l w x []) ?_ ?_
 ·refine Wb ?_
  refine WP.loopM (zEw o) (fun s f w=>match s with | z=>∃ (p:Hp),f 0=(str o)∧f 5=(int (o.length:Int))∧f 6=(int z)∧St k l w p []) 0 ad (lfW ae) ?_ ?_
  ·exact ⟨l,rfl,rfl,rfl,S⟩
  intro z f w hI y7 b af
  obtain ⟨p,q,h3,t,S⟩:=hI
  refine Ws<|Wg<|La' t h3<|We<|Ws ?_
  rcases condE b with ⟨u,b⟩ | ⟨u,b⟩
  ·refine CT u<|Wk<|Ws<|Wb<|Ws<|Wg<|M' t<|A<|We<|Ws<|Wg<|M' q ?_
   refine M<|B b fun ab ah b=>Ja ah<|Ma ab 32<|M<|B b fun ac i b=>WL.grp 5 [14,15,16,17] 18 (boo ac) ?_ ?_
   ·rcases boolE (decide (ab<32)) with c | c
    ·replace i:=condT i c
     refine Gy c<|M' q<|Gy c<|M<|Gy c<|B i fun ai aj i=>Ja aj<|Gy c<|Mf ai 9<|Pt c ?_
     exact We ⟨(ob i),ag,rfl⟩
    replace i:=condF i c
    refine Gn c<|Gn c<|Gn c<|Gn c<|Pf c ?_
    exact We ⟨(ob i),ag,rfl⟩
   intro us
   refine M<|B b fun ak j b=>WL.grp 5 [20,21,22,23] 24 (boo ak) ?_ ?_
   ·rcases boolE ac with d | d
    ·replace j:=condT j d
     refine Gn d<|Gn d<|Gn d<|Gn d<|Pt d ?_
     exact We ⟨(ob j),ag,rfl⟩
    replace j:=condF j d
    refine Gy d<|M' q<|Gy d<|M<|Gy d<|B j fun al am j=>Ja am<|Gy d<|Me al 127<|Pf d ?_
    exact We ⟨(ob j),ag,rfl⟩
   intro us
   refine We ?_
   rcases condE b with ⟨v,b⟩ | ⟨v,b⟩
   ·refine CT v ?_
    cases b
   refine CF v<|Wk<|Wg<|Lg' t rfl<|M<|We ?_
   obtain rfl:=oi b
   exact ⟨rfl,⟨p,q,h3,rfl,S⟩⟩
  refine CF u<|Wx ?_
  obtain rfl:=oi b
  obtain rfl:=af
  exact ⟨p,S⟩
 rintro f w ⟨x,S⟩
 refine Ws<|Wg<|A<|We ?_
 exact WP.ret (Rb h S)
theorem zDH {d:World} {c:Hp} (hw:Holds d c) (hG:Tryz.Gl d) (i:Str) (j:Str) {bp_as:Nat} (l:At c ⟨bp_as,0,none⟩ (setc j)) {r:Str} (h:zBz i j=some r) :
  Cs Tryz.prog 343 [(str i),(ptr bp_as 0)] d c r:=by
 refine CM 22 Tryz.func343 hw fun S=>?_
 refine Ws<|Wg<|A<|We<|Ws<|B h fun u v h=>WP.cut (fun f w=>∃ (t:Hp),f 0=(str i)∧St d c w t []) ?_ ?_
 ·refine Wb ?_
  refine WP.loopM (zBZ i j) (fun s f w=>match s with | _=>∃ (o:Hp),f 0=(str i)∧f 1=(ptr bp_as 0)∧At o ⟨bp_as,0,none⟩ (setc j)∧St d c w o []) () u (lfW v) ?_ ?_
  ·exact ⟨c,rfl,rfl,l,S⟩
  intro s f w hI y6 b x
  obtain ⟨o,k,z,l,S⟩:=hI
  refine Ws<|Ws<|Wg<|M' k<|Ns<|Lc<|We ?_
  rcases condE b with ⟨p,b⟩ | ⟨p,b⟩
  ·refine CT p<|Wk<|Wb<|Ws<|Ws<|Wg<|M' z<|M' k<|M' k<|Ns<|Lh<|B b fun aa ab b=>Ja ab<|B b fun ah ac b=>W.call S rfl (zBR S.holds j aa l ac) ?_
   rintro ai aj ad ak S rfl
   refine No<|We ?_
   rcases condE b with ⟨q,b⟩ | ⟨q,b⟩
   ·refine CT q<|Wx ?_
    obtain rfl:=oi b
    obtain rfl:=x
    exact ⟨ad,k,S⟩
   refine CF q ?_
   cases b
  refine CF p ?_
  cases b
 rintro f w ⟨t,h5,S⟩
 refine Ws<|Wg<|M' h5<|A<|We ?_
 exact WP.ret (Rs h S)
theorem zDi {i:World} {c:Hp} (hw:Holds i c) (hG:Tryz.Gl i) (l:Str) (j:Str) {bp_as:Nat} (d:At c ⟨bp_as,0,none⟩ (setc j)) {r:Str} (h:zCC l j=some r) :
  Cs Tryz.prog 333 [(str l),(ptr bp_as 0)] i c r:=by
 refine CM 16 Tryz.func333 hw fun S=>?_
 refine Ws<|Wg<|A<|We<|Ws<|B h fun t aa h=>WP.cut (fun f w=>∃ (u:Hp),f 0=(str t)∧St i c w u []) ?_ ?_
 ·refine Wb ?_
  refine WP.loopM (zBi j) (fun s f w=>match s with | v=>∃ (o:Hp),f 0=(str v)∧f 1=(ptr bp_as 0)∧At o ⟨bp_as,0,none⟩ (setc j)∧St i c w o []) l t (lfW aa) ?_ ?_
  ·exact ⟨c,rfl,rfl,d,S⟩
  intro v f w hI y8 b ab
  obtain ⟨o,k,x,d,S⟩:=hI
  refine Ws<|Ws<|Wg<|M' k<|Ns<|Lc<|We ?_
  rcases condE b with ⟨p,b⟩ | ⟨p,b⟩
  ·refine CT p<|Wk<|Wb<|Ws<|Ws<|Wg<|M' x<|M' k<|B b fun ac ad b=>Ja ad<|B b fun ak ae b=>W.call S rfl (zBR S.holds j ac d ae) ?_
   rintro al am z af S rfl
   have d:=At.mono d af (by intro h; have:=congrArg List.length h; rw [zGO] at this; cases this)
   refine No<|We ?_
   rcases condE b with ⟨q,b⟩ | ⟨q,b⟩
   ·refine CT q<|Wx ?_
    obtain rfl:=oi b
    obtain rfl:=ab
    exact ⟨z,k,S⟩
   refine CF q<|Wk<|Wg<|M' k<|B b fun an ah b=>Jc ah<|A<|We ?_
   obtain rfl:=oi b
   exact ⟨rfl,⟨z,rfl,x,d,S⟩⟩
  refine CF p ?_
  cases b
 rintro f w ⟨u,h7,S⟩
 refine Ws<|Wg<|M' h7<|A<|We ?_
 exact WP.ret (Rs h S)
theorem zGZ {l:World} {p:Hp} (hw:Holds l p) (hG:Tryz.Gl l) (k:Str) (c:Str) {r:Str} (h:zFz k c=some r) :
  Cs Tryz.prog 313 [(str k),(str c)] l p r:=by
 refine CM 43 Tryz.func313 hw fun S=>?_
 refine Ws<|Wg<|A<|We<|Ws<|Ws<|Wg<|M<|Na<|M ?_
 refine WL.grp 3 [10,11] 12 (boo ((k==[])||(c==[]))) ?_ ?_
 ·rcases boolE (k==[]) with f | f
  ·refine Gn f<|Gn f<|Pt f ?_
   exact We ⟨(orT f),ag,rfl⟩
  refine Gy f<|M<|Gy f<|Na<|Pf f ?_
  exact We ⟨(orF f),ag,rfl⟩
 intro us
 refine We ?_
 rcases condE h with ⟨q,h⟩ | ⟨q,h⟩
 ·refine CT q ?_
  cases h
 refine CF q<|Wk<|Ws<|Ws<|Wg<|M<|Ns<|Le<|M<|B h fun v j h=>WL.grp 4 [18,19,20] 21 (boo v) ?_ ?_
 ·rcases boolE ((c.length:Int)==1) with d | d
  ·replace j:=condT j d
   refine Gy d<|M<|Gy d<|B j fun x z j=>Ja z<|Gy d<|Ma x 128<|Pt d ?_
   exact We ⟨(ob j),ag,rfl⟩
  replace j:=condF j d
  refine Gn d<|Gn d<|Gn d<|Pf d ?_
  exact We ⟨(ob j),ag,rfl⟩
 intro us
 refine We ?_
 rcases condE h with ⟨t,h⟩ | ⟨t,h⟩
 ·refine CT t ?_
  cases h
 refine CF t<|Wk<|Ws<|Ws<|Wg<|M<|B h fun r9 aa h=>W.call S rfl (zEO S.holds c aa) ?_
 rintro aj ak al am S rfl
 refine M ?_
 refine Ex ?_
 refine Ex ?_
 refine W.alloc (List.replicate 256 (boo false)) S zJs ?_
 intro ab an S
 refine W.store (i:=0) (setc c) S rfl rfl rfl zJB (show (Lib.setCells c).size=256 by have:=zGO c; simpa [setc] using this) (zI6 c) (Nat.le_of_eq (by rw [List.length_replicate])) (zH5 ((zGO c).trans (by rw [List.length_replicate]))) ?_
 intro ao S
 obtain ⟨u,ap,ac,_,S⟩:=S.settle (i:=0) rfl
 replace S:St l p _ u []:=S
 have o:At u ⟨ab,0,none⟩ (setc c):=⟨_,_,rfl,ac,[],by simp⟩
 refine A<|We<|Ws<|Wg<|M<|We<|WP.condT (b:=true) rfl rfl<|Ws<|Wg<|M<|B h fun ad ae h=>W.call S rfl (zDH S.holds (hG.post S.post) k c o ae) ?_
 rintro aq ar au af S rfl
 have o:=At.mono o af (by intro h; have:=congrArg List.length h; rw [zGO] at this; cases this)
 refine B h fun av ah h=>W.call S rfl (zDi S.holds (hG.post S.post) ad c o ah) ?_
 rintro aw ax ay az S rfl
 refine A<|We ?_
 exact WP.ret (Rs h S)
theorem zDa {b:World} {d:Hp} (hw:Holds b d) (hG:Tryz.Gl b) (c:Str) {r:Str} (h:zDt c=some r) :
  Cs Tryz.prog 284 [(str c)] b d r:=by
 refine CM 5 Tryz.func284 hw fun S=>?_
 refine Ws<|Wg<|A<|We<|Ws<|Wg<|M<|B h fun i f h=>W.call S rfl (zGZ S.holds (hG.post S.post) c [32,9] f) ?_
 rintro j k l o S rfl
 refine A<|We ?_
 exact WP.ret (Rs h S)
theorem zDK {c:World} {f:Hp} (hw:Holds c f) (hG:Tryz.Gl c) (b:GField) {r:Str} (h:zCy b=some r) :
  Cs Tryz.prog 277 [(agg [(str b.fName),(str b.fValue)])] c f r:=by
 refine CM 15 Tryz.func277 hw fun S=>?_
 refine Ws<|Wg ?_
 refine W.box [(str b.fName),(str b.fValue)] S rfl rfl ?_
 intro k l S
 refine A<|We<|Ws<|Ws<|Wg<|Fb ?_
 refine Lo 0 S<|Na<|We ?_
 rcases condE h with ⟨d,h⟩ | ⟨d,h⟩
 ·refine CT d ?_
  cases h
 refine CF d<|Wk<|Ws<|Wg<|Fb ?_
 refine Lo 0 S<|B h fun o i h=>Je i<|Fb ?_
 refine Lo 0 S<|B h fun p j h=>Je j<|A<|We ?_
 exact WP.ret (Rs h S)
theorem zDB {o:World} {p:Hp} (hw:Holds o p) (hG:Tryz.Gl o) (c:GField) {r:Bool} (h:zCf c=some r) :
  Cb Tryz.prog 276 [(agg [(str c.fName),(str c.fValue)])] o p r:=by
 refine CM 25 Tryz.func276 hw fun S=>?_
 refine Ws<|Wg ?_
 refine W.box [(str c.fName),(str c.fValue)] S rfl rfl ?_
 intro b1 w2 S
 refine A<|We<|Ws<|WP.quiet S kr kr<|QFb ?_
 refine QB 0 (str c.fName)<|B h fun q x h=>WQ.call (v:=boo q) rfl (fun w H' hq S=>zA0 S.holds (hG.post S.post) c.fName x)<|QM<|B h fun t j h=>WQ.grp 4 [7,8,9] 10 (boo t) ?_ ?_
 ·rcases boolE q with f | f
  ·replace j:=condT j f
   refine QGy f<|QFb<|QGy f ?_
   refine QB 0 (str c.fValue)<|QGy f<|B j fun z aa j=>WQ.call (v:=boo z) rfl (fun w H' hq S=>zDL S.holds (hG.post S.post) c.fValue aa)<|QPt f ?_
   exact WQ.nil ⟨(ob j),ag⟩
  replace j:=condF j f
  refine QGn f<|QGn f<|QGn f<|QPf f ?_
  exact WQ.nil ⟨(ob j),ag⟩
 intro us
 refine QM<|B h fun u k h=>WQ.grp 7 [12,13,14,15,16,17] 18 (boo u) ?_ ?_
 ·rcases boolE t with b | b
  ·replace k:=condT k b
   refine QGy b<|QFb<|QGy b ?_
   refine QB 0 (str c.fValue)<|QGy b<|B k fun ab ac k=>WQ.call (v:=str ab) rfl (fun w H' hq S=>zDa S.holds (hG.post S.post) c.fValue ac)<|QGy b<|QFb<|QGy b ?_
   refine QB 0 (str c.fValue)<|QGy b<|QNa<|QPt b ?_
   exact WQ.nil ⟨(ob k),ag⟩
  replace k:=condF k b
  refine QGn b<|QGn b<|QGn b<|QGn b<|QGn b<|QGn b<|QPf b ?_
  exact WQ.nil ⟨(ob k),ag⟩
 intro us
 refine QM<|B h fun ad l h=>WQ.grp 5 [20,21,22,23] 24 (boo ad) ?_ ?_
 ·rcases boolE u with d | d
  ·replace l:=condT l d
   refine QGy d ?_
   refine WQ.val (fun w hw=>by obtain ⟨_,hq,S⟩:=hw; exact (R.loadBN (i:=0) (vs:=[(str c.fName),(str c.fValue)]) S rfl rfl lay68 rfl rfl))<|QGy d<|B l fun ae af l=>WQ.call (v:=str ae) rfl (fun w H' hq S=>zDK S.holds (hG.post S.post) c af)<|QGy d<|QNs<|QGy d<|QLb<|QPt d ?_
   exact WQ.nil ⟨(ob l),ag⟩
  replace l:=condF l d
  refine QGn d<|QGn d<|QGn d<|QGn d<|QPf d ?_
  exact WQ.nil ⟨(ob l),ag⟩
 intro us
 refine QA<|WQ.nil ?_
 intro w3 H4 al S
 exact WP.ret (Rb h S)
theorem zC7 {l:World} {o:Hp} (hw:Holds l o) (hG:Tryz.Gl l) (p:Str) {r:(GField×Int)} (h:zCZ p=some r) :
  Con Tryz.prog 239 [(str p)] l o (fun H' v=>v=(.tuple ⟨[(agg [(str r.1.fName),(str r.1.fValue)]),(int r.2)]⟩)):=by
 refine CM 40 Tryz.func239 hw fun S=>?_
 refine Ws<|Wg ?_
 refine W.alloc [(str []),(str [])] S zer68 ?_
 intro x w2 S
 refine A<|We<|Ws<|Ws<|Wg<|M<|Ns<|Lc<|We ?_
 rcases condE h with ⟨q,h⟩ | ⟨q,h⟩
 ·refine CT q ?_
  cases h
 refine CF q<|Wk<|Ws<|Wg<|M<|B h fun b ac h=>W.call S rfl (zAX S.holds (hG.post S.post) p [58] ac) ?_
 rintro v5 w6 z aq S rfl
 refine M ?_
 refine Ex ?_
 refine Ex ?_
 refine Ex<|A<|A<|A<|We<|Ws<|Ws<|Wg<|M ?_
 refine No<|M<|B h fun aa f h=>WL.grpw 4 [21,22,23] 24 (boo aa) (fun w=>∃ H':Hp,z.le H'∧St l o w H' [.box x 68 [(str []),(str [])]]) ?_ ?_
 ·rcases boolE (!b.2.2) with c | c
  ·replace f:=condT f c
   refine Gn c<|Gn c<|Gn c<|Pt c ?_
   exact We ⟨(ob f),ag,⟨z,lr,S⟩⟩
  replace f:=condF f c
  refine Gy c<|M<|Gy c<|B f fun ar ad f=>W.call S rfl (zA0 S.holds (hG.post S.post) b.1 ad) ?_
  rintro au av ae af S rfl
  refine Gy c<|No<|Pf c ?_
  exact We ⟨(ob f),ag,⟨ae,af,S⟩⟩
 intro us aw ⟨ab,ax,S⟩
 refine M<|B h fun ah j h=>WL.grpw 4 [26,27,28] 29 (boo ah) (fun w=>∃ H':Hp,ab.le H'∧St l o w H' [.box x 68 [(str []),(str [])]]) ?_ ?_
 ·rcases boolE aa with d | d
  ·replace j:=condT j d
   refine Gn d<|Gn d<|Gn d<|Pt d ?_
   exact We ⟨(ob j),ag,⟨ab,lr,S⟩⟩
  replace j:=condF j d
  refine Gy d<|M<|Gy d<|B j fun ay ai j=>W.call S rfl (zDL S.holds (hG.post S.post) b.2.1 ai) ?_
  rintro az a0 aj ak S rfl
  refine Gy d<|No<|Pf d ?_
  exact We ⟨(ob j),ag,⟨aj,ak,S⟩⟩
 intro us a1 ⟨a2,a3,S⟩
 refine We ?_
 rcases condE h with ⟨t,h⟩ | ⟨t,h⟩
 ·refine CT t ?_
  cases h
 refine CF t<|Wk<|Ws<|Wg<|M<|M<|B h fun k al h=>W.call S rfl (zDa S.holds (hG.post S.post) b.2.1 al) ?_
 rintro a4 a5 a6 a7 S rfl
 refine WL.w (R.build [(0,(str b.1)),(1,(str k))] [(str b.1),(str k)] bp68 zer68 rfl rfl) ?_
 refine W.alloc [(str []),(str [])] S zer68 ?_
 intro a8 a9 S
 refine W.store (i:=0) [(str b.1),(str k)] S rfl rfl rfl lay68 rfl rfl (Nat.le_of_ble_eq_true rfl) rfl ?_
 intro ba S
 refine We<|Ws<|Ws<|Wg ?_
 refine WL.w (R.loadBN (i:=0) (vs:=[(str b.1),(str k)]) S rfl rfl lay68 rfl rfl)<|B h fun bb am h=>W.call S rfl (zDB S.holds (hG.post S.post) (⟨b.1,k⟩:GField) am) ?_
 rintro bc bd be bf S rfl
 refine No<|We ?_
 rcases condE h with ⟨u,h⟩ | ⟨u,h⟩
 ·refine CT u ?_
  cases h
 refine CF u<|Wk<|Ws<|Wg ?_
 refine WL.w (R.loadBN (i:=0) (vs:=[(str b.1),(str k)]) S rfl rfl lay68 rfl rfl) ?_
 refine W.store (i:=1) [(str b.1),(str k)] S rfl rfl rfl lay68 rfl rfl (Nat.le_of_ble_eq_true rfl) rfl ?_
 intro bg S
 refine A<|We ?_
 obtain rfl:=oi h
 refine WP.ret (Out.two rfl S (Res.cellB (i:=1) (cs:=[(str b.1),(str k)]) S rfl rfl lay68 rfl rfl) rfl ?_)
 exact rfl
end Go.Proofs
