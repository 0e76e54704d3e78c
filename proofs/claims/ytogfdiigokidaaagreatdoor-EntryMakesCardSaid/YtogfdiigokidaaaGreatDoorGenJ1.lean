/- A part of the proof of laws of the seat: written by program over the translation. -/
import Derived.Test.YtogfdiigokidaaaGreatDoorEng31
import Derived.Test.YtogfdiigokidaaaGreatDoorPure2
import Derived.Test.YtogfdiigokidaaaGreatDoorProg
import Derived.Test.YtogfdiigokidaaaGreatDoorShelf
import Derived.Test.YtogfdiigokidaaaGreatDoorIxAny
namespace Go.Proofs
set_option maxHeartbeats 4000000
set_option maxRecDepth 10000
open Go.Eng Go.Eng.Pure
set_option linter.unusedVariables false
theorem fld53_0 : fld Tryz.prog 53 0 = some 0 := by kernel_rfl
theorem lay9 : lay Tryz.prog 9 = some (false, 1) := by kernel_rfl
theorem fld53_1 : fld Tryz.prog 53 1 = some 1 := by kernel_rfl
theorem el24 : Elem Tryz.prog 24 53 2 := elem_of (by kernel_rfl)
theorem fld40_0 : fld Tryz.prog 40 0 = some 0 := by kernel_rfl
theorem fld40_1 : fld Tryz.prog 40 1 = some 1 := by kernel_rfl
theorem fld40_3 : fld Tryz.prog 40 3 = some 3 := by kernel_rfl
theorem lay24 : lay Tryz.prog 24 = some (false, 1) := by kernel_rfl
theorem fld40_4 : fld Tryz.prog 40 4 = some 4 := by kernel_rfl
theorem fld30_2 : fld Tryz.prog 30 2 = some 2 := by kernel_rfl
theorem fld30_3 : fld Tryz.prog 30 3 = some 3 := by kernel_rfl
theorem fld30_4 : fld Tryz.prog 30 4 = some 4 := by kernel_rfl
theorem lay5 : lay Tryz.prog 5 = some (false, 1) := by kernel_rfl
theorem el130 : Elem Tryz.prog 130 5 1 := elem_of (by kernel_rfl)
theorem lay53 : lay Tryz.prog 53 = some (true, 2) := by kernel_rfl
theorem zer53 : zer Tryz.prog 53 = some [(str []), (str [])] := by kernel_rfl
theorem el23 : Elem Tryz.prog 23 9 1 := elem_of (by kernel_rfl)
theorem zer170 : zer Tryz.prog 170 = some (List.replicate 256 (boo false)) := by kernel_rfl
theorem lay170 : lay Tryz.prog 170 = some (true, 256) := by kernel_rfl
theorem lay3 : lay Tryz.prog 3 = some (false, 1) := by kernel_rfl
theorem lay107 : lay Tryz.prog 107 = some (false, 1) := by kernel_rfl
theorem mz4 : ((Tryz.prog.info? 4).bind (·.zero)) = some (boo false) := by kernel_rfl
theorem zer107 : zer Tryz.prog 107 = some [(.map none)] := by kernel_rfl
theorem bp203 : bplaces Tryz.prog 203 = some [] := by kernel_rfl
theorem zer203 : zer Tryz.prog 203 = some [] := by kernel_rfl
theorem bp204 : bplaces Tryz.prog 204 = some [] := by kernel_rfl
theorem zer204 : zer Tryz.prog 204 = some [] := by kernel_rfl
theorem bp206 : bplaces Tryz.prog 206 = some [] := by kernel_rfl
theorem zer206 : zer Tryz.prog 206 = some [] := by kernel_rfl
theorem bp158 : bplaces Tryz.prog 158 = some [(0, 1), (1, 1)] := by kernel_rfl
theorem zer158 : zer Tryz.prog 158 = some [(str []), (str [])] := by kernel_rfl
theorem el153 : Elem Tryz.prog 153 158 2 := elem_of (by kernel_rfl)
theorem bp155 : bplaces Tryz.prog 155 = some [(0, 1), (1, 1), (2, 1)] := by kernel_rfl
theorem zer155 : zer Tryz.prog 155 = some [(str []), (str []), (.slice none 0 0)] := by kernel_rfl
theorem lay155 : lay Tryz.prog 155 = some (true, 3) := by kernel_rfl
theorem fld155_0 : fld Tryz.prog 155 0 = some 0 := by kernel_rfl
theorem fld155_1 : fld Tryz.prog 155 1 = some 1 := by kernel_rfl
theorem fld158_0 : fld Tryz.prog 158 0 = some 0 := by kernel_rfl
theorem lay158 : lay Tryz.prog 158 = some (true, 2) := by kernel_rfl
theorem fld155_2 : fld Tryz.prog 155 2 = some 2 := by kernel_rfl
theorem lay153 : lay Tryz.prog 153 = some (false, 1) := by kernel_rfl
theorem zer9 : zer Tryz.prog 9 = some [(str [])] := by kernel_rfl
theorem fld84_1 : fld Tryz.prog 84 1 = some 1 := by kernel_rfl
theorem lay23 : lay Tryz.prog 23 = some (false, 1) := by kernel_rfl
theorem fld84_0 : fld Tryz.prog 84 0 = some 0 := by kernel_rfl
theorem lay84 : lay Tryz.prog 84 = some (true, 2) := by kernel_rfl
theorem zer84 : zer Tryz.prog 84 = some [(str []), (.slice none 0 0)] := by kernel_rfl
theorem el43 : Elem Tryz.prog 43 84 2 := elem_of (by kernel_rfl)
theorem bp84 : bplaces Tryz.prog 84 = some [(0, 1), (1, 1)] := by kernel_rfl
theorem zer3 : zer Tryz.prog 3 = some [(int 0)] := by kernel_rfl
theorem el22 : Elem Tryz.prog 22 23 1 := elem_of (by kernel_rfl)
theorem zer23 : zer Tryz.prog 23 = some [(.slice none 0 0)] := by kernel_rfl
theorem bp26 : bplaces Tryz.prog 26 = some [(0, 1), (1, 1), (2, 1), (3, 1), (4, 1), (5, 1), (6, 1), (7, 1)] := by kernel_rfl
theorem zer26 : zer Tryz.prog 26 = some [(.slice none 0 0), (.slice none 0 0), (.slice none 0 0), (str []), (.slice none 0 0), (str []), (int 0), (int 0)] := by kernel_rfl
theorem lay26 : lay Tryz.prog 26 = some (true, 8) := by kernel_rfl
theorem fld26_0 : fld Tryz.prog 26 0 = some 0 := by kernel_rfl
theorem lay22 : lay Tryz.prog 22 = some (false, 1) := by kernel_rfl
theorem fld26_1 : fld Tryz.prog 26 1 = some 1 := by kernel_rfl
theorem fld26_2 : fld Tryz.prog 26 2 = some 2 := by kernel_rfl
theorem ps53 : plainS Tryz.prog 53 = true := by kernel_rfl
theorem fk53 : fieldK Tryz.prog 53 = [some 2, some 2] := by kernel_rfl
theorem fld26_3 : fld Tryz.prog 26 3 = some 3 := by kernel_rfl
theorem fld26_4 : fld Tryz.prog 26 4 = some 4 := by kernel_rfl
theorem fld26_5 : fld Tryz.prog 26 5 = some 5 := by kernel_rfl
theorem fld26_6 : fld Tryz.prog 26 6 = some 6 := by kernel_rfl
theorem lay2 : lay Tryz.prog 2 = some (false, 1) := by kernel_rfl
theorem fld26_7 : fld Tryz.prog 26 7 = some 7 := by kernel_rfl
theorem zer242 : zer Tryz.prog 242 = some [(str []), (str []), (str []), (str []), (str []), (str []), (str []), (str []), (str []), (str []), (str []), (str [])] := by kernel_rfl
theorem zer257 : zer Tryz.prog 257 = some [(int 0), (int 0), (int 0), (int 0), (int 0), (int 0), (int 0), (int 0), (int 0), (int 0), (int 0), (int 0)] := by kernel_rfl
theorem zer245 : zer Tryz.prog 245 = some [(str []), (str []), (str []), (str []), (str []), (str []), (str [])] := by kernel_rfl
theorem zer220 : zer Tryz.prog 220 = some [(str []), (str []), (str []), (str []), (str [])] := by kernel_rfl
theorem zer219 : zer Tryz.prog 219 = some [(int 0), (int 0), (int 0), (int 0), (int 0)] := by kernel_rfl
theorem lay94 : lay Tryz.prog 94 = some (false, 1) := by kernel_rfl
theorem zer94 : zer Tryz.prog 94 = some [.nilFunc] := by kernel_rfl
theorem bp53 : bplaces Tryz.prog 53 = some [(0, 1), (1, 1)] := by kernel_rfl
theorem bp30 : bplaces Tryz.prog 30 = some [(0, 1), (1, 1), (2, 1), (3, 1), (4, 1)] := by kernel_rfl
theorem zer30 : zer Tryz.prog 30 = some [(int 0), (int 0), (str []), (.slice none 0 0), (str [])] := by kernel_rfl
theorem lay30 : lay Tryz.prog 30 = some (true, 5) := by kernel_rfl
theorem fld30_1 : fld Tryz.prog 30 1 = some 1 := by kernel_rfl
theorem lay40 : lay Tryz.prog 40 = some (true, 5) := by kernel_rfl
def Tryz.vvariants_domain : Gvariants_domain → Value
 | .media => .iface 203 (agg [])
 | .tags => .iface 204 (agg [])
 | .words n => .iface 205 (int n)
 | .texts => .iface 206 (agg [])
structure Tryz.Gl (w : World) : Prop where
 pow10 : Lib.TabIs Tryz.prog w "internal/strconv.uint64pow10" .u64 Lib.pow10Tab
theorem Tryz.Gl.post {w0 w : World} {H0 H : Hp} (h : Tryz.Gl w0) (p : Post w0 H0 w H) : Tryz.Gl w :=
 ⟨tab_post (by kernel_rfl : Tryz.prog.globalNamed "internal/strconv.uint64pow10" = some 5) h.pow10 p⟩
theorem slices_Sort_string_con : SortCon Tryz.prog 94 := ⟨enter_of Tryz.func94 rfl (by kernel_rfl), Tryz.slices_Sort_string_none, Tryz.slices_Sort_string⟩
theorem slices_Compact_string_con : CompactCon Tryz.prog 95 := ⟨enter_of Tryz.func95 rfl (by kernel_rfl), Tryz.slices_Compact_string_empty, Tryz.slices_Compact_string⟩
theorem strconv_Itoa_ok {w0 : World} {H0 : Hp} (hw : Holds w0 H0) (hG : Tryz.Gl w0) (p_i : Int) {r : Str} (h : strconv_Itoa p_i = some r) :
  Con Tryz.prog 109 [(int p_i)] w0 H0 (fun H' v => v = (str r)) :=
 itoaCon Tryz.func109 rfl (by kernel_rfl) hw hG.pow10 h Tryz.strconv_Itoa
theorem strings_Join_ok {w0 : World} {H0 : Hp} (hw : Holds w0 H0) (p_l : List Str) (p_s : Str) {vl : Value} (R : Sl (α := Str) H0 vl p_l) {r : Str} (h : strings_Join p_l p_s = some r) :
  Con Tryz.prog 144 [vl, (str p_s)] w0 H0 (fun H' v => v = (str r)) :=
 joinCon Tryz.func144 rfl (by kernel_rfl) hw R h Tryz.strings_Join_none Tryz.strings_Join
theorem stringslite_Index_ok {w0 : World} {H0 : Hp} (hw : Holds w0 H0) (p_s : Str) (p_sub : Str) {r : Int} (h : stringslite_Index p_s p_sub = some r) :
  Con Tryz.prog 172 [(str p_s), (str p_sub)] w0 H0 (fun H' v => v = (int r)) :=
 ixOneCon Tryz.func172 rfl (by kernel_rfl) hw h Tryz.stringslite_Index_one
theorem strings_makeASCIISet_ok {w0 : World} {H0 : Hp} (hw : Holds w0 H0) (p_s : Str) {r : Unit} (h : strings_makeASCIISet p_s = some r) :
  Con Tryz.prog 174 [(str p_s)] w0 H0 (fun H' v => v = (.tuple ⟨[(.agg (Lib.setCells p_s)), (boo true)]⟩)) :=
 mkSetCon Tryz.func174 rfl (by kernel_rfl) hw h (Tryz.strings_makeASCIISet (fun w => (Tryz.zeroValue170 w).trans (by kernel_rfl)))
theorem strings_IndexAny_ok {w0 : World} {H0 : Hp} (hw : Holds w0 H0) (p_s : Str) (p_chars : Str) {r : Int} (h : strings_IndexAny p_s p_chars = some r) :
  Con Tryz.prog 177 [(str p_s), (str p_chars)] w0 H0 (fun H' v => v = (int r)) :=
 ixAnyCon Tryz.func177 rfl (by kernel_rfl) hw h (strings_IndexAny_any Tryz.lays153 (by kernel_rfl))
theorem strings_asciiSet_contains_ok {w0 : World} {H0 : Hp} (hw : Holds w0 H0) (p_as : Str) (p_c : UInt8) {b : Nat} (hA : At H0 ⟨b, 0, none⟩ (setc p_as)) {r : Bool} (h : strings_asciiSet_contains p_as p_c = some r) :
  Con Tryz.prog 207 [(ptr b 0), (byt p_c)] w0 H0 (fun H' v => v = (boo r)) :=
 inSetCon Tryz.func207 rfl (by kernel_rfl) hw hA h Tryz.asciiSet_contains
theorem keep_Fields_ok {w0 : World} {H0 : Hp} (hw : Holds w0 H0) (hG : Tryz.Gl w0) (p_l : (List GField)) {vp_l : Value} (Rp_l : Sl (α := GField) H0 vp_l p_l) {r : Bool} (h : keep_Fields p_l = some r) :
  Con Tryz.prog 30 [vp_l] w0 H0 (fun H' v => v = (boo r)) := by
 refine Con.mk (N := 33) Tryz.func30 rfl rfl (by kernel_rfl) rfl ?_
 have S := St.start hw
 refine WP.s<|WP.g<|WL.a (boo false) rfl<|WL.e<|WP.s<|WP.s<|WP.g<|WL.a (int 0) rfl<|WL.e ?_
 obtain ⟨r10, hr11, h⟩ := bindE h
 refine WP.cut (fun f w => match r10 with | .inl _ => ∃ (H5 : Hp), f 0 = vp_l ∧ Sl (α := GField) H5 vp_l p_l ∧ St w0 H0 w H5 [] | .inr _ => False) ?_ ?_
 ·refine WP.block ?_
  refine WP.loopM (keep_Fields_L0 p_l) (fun s f w => match s with | i_3 => ∃ (H1 : Hp), f 0 = vp_l ∧ f 3 = (int i_3) ∧ Sl (α := GField) H1 vp_l p_l ∧ St w0 H0 w H1 []) 0 r10 hr11 ?_ ?_
  ·exact ⟨H0, rfl, rfl, Rp_l, S⟩
  ·intro i_3 f w hI y7 hy8 hy9
   obtain ⟨H1, h2, h4, Rp_l, S⟩ := hI
   refine WP.s<|WP.s<|WP.g<|WL.m (int i_3) h4<|WL.m (vp_l) h2<|WL.w (R.lenL (α := GField) (xs := p_l) (H := H1) Rp_l rfl Tryz.underlying24)<|WL.w (R.lss rfl rfl)<|WL.m (boo (decide (i_3 < (p_l.length : Int)))) rfl ?_
   refine WL.grp 3 [9, 10] 11 (boo ((decide (i_3 < (p_l.length : Int))) && (decide (i_3 < 71)))) ?_ ?_
   ·rcases boolE (decide (i_3 < (p_l.length : Int))) with hb12 | hb12
    ·refine WL.y rfl rfl hb12<|WL.m (int i_3) h4<|WL.y rfl rfl hb12<|WL.w (R.lss rfl rfl)<|WL.w (R.pickT rfl hb12 rfl) ?_
     exact WL.e ⟨(andT hb12), ag, rfl⟩
    ·refine WL.n rfl rfl hb12<|WL.n rfl rfl hb12<|WL.w (R.pickF rfl hb12 rfl) ?_
     exact WL.e ⟨(andF hb12), ag, rfl⟩
   ·intro us
    refine WL.e ?_
    rcases condE hy8 with ⟨hc14, hy8⟩ | ⟨hc14, hy8⟩
    ·refine WP.condT rfl hc14<|WP.skip<|WP.s<|WP.block<|WP.s<|WP.g<|WL.m (vp_l) h2<|WL.m (int i_3) h4 ?_
     obtain ⟨x15, hx15, hy8⟩ := bindE hy8
     refine W.idx (α := GField) Rp_l rfl rfl el24 hx15 ?_
     rintro a16 _ hA17 rfl
     refine WL.w (R.field rfl fld53_0) ?_
     have hA18 := At.add hA17 0 (by simp)
     refine WL.w (R.loadH (v := str x15.fName) S rfl hA18 lay9 rfl)<|WL.w (R.lenS (a := x15.fName) rfl Tryz.underlying9)<|WL.w (R.gtr rfl rfl)<|WL.m (boo (decide (300 < (x15.fName.length : Int)))) rfl ?_
     obtain ⟨b25, hg20, hy8⟩ := bindE hy8
     refine WL.grp 8 [22, 23, 24, 25, 26, 27, 28] 29 (boo b25) ?_ ?_
     ·rcases boolE (decide (300 < (x15.fName.length : Int))) with hb19 | hb19
      ·replace hg20 := condT hg20 hb19
       refine WL.n rfl rfl hb19<|WL.n rfl rfl hb19<|WL.n rfl rfl hb19<|WL.n rfl rfl hb19<|WL.n rfl rfl hb19<|WL.n rfl rfl hb19<|WL.n rfl rfl hb19<|WL.w (R.pickT rfl hb19 rfl) ?_
       exact WL.e ⟨(congrArg boo (oi hg20)), ag, rfl⟩
      ·replace hg20 := condF hg20 hb19
       refine WL.y rfl rfl hb19<|WL.m (vp_l) h2<|WL.y rfl rfl hb19<|WL.m (int i_3) h4<|WL.y rfl rfl hb19 ?_
       obtain ⟨x21, hx21, hg20⟩ := bindE hg20
       refine W.idx (α := GField) Rp_l rfl rfl el24 hx21 ?_
       rintro a22 _ hA23 rfl
       refine WL.y rfl rfl hb19<|WL.w (R.field rfl fld53_1) ?_
       have hA24 := At.add hA23 1 (by simp)
       refine WL.y rfl rfl hb19<|WL.w (R.loadH (v := str x21.fValue) S rfl hA24 lay9 rfl)<|WL.y rfl rfl hb19<|WL.w (R.lenS (a := x21.fValue) rfl Tryz.underlying9)<|WL.y rfl rfl hb19<|WL.w (R.gtr rfl rfl)<|WL.w (R.pickF rfl hb19 rfl) ?_
       exact WL.e ⟨(congrArg boo (oi hg20)), ag, rfl⟩
     ·intro us
      refine WL.e ?_
      rcases condE hy8 with ⟨hc26, hy8⟩ | ⟨hc26, hy8⟩
      ·refine WP.condT rfl hc26<|WP.s<|WP.g<|WL.a (boo false) rfl<|WL.e ?_
       obtain rfl := oi hy8
       obtain rfl := hy9
       obtain rfl := oi h
       refine WP.ret (Out.one rfl S rfl ?_)
       exact rfl
      ·refine WP.condF rfl hc26<|WP.skip<|WP.g<|WL.m (int i_3) h4<|WL.w (R.add rfl rfl)<|WL.a (int (wr (i_3 + 1))) rfl<|WL.e ?_
       obtain rfl := oi hy8
       exact ⟨rfl, ⟨H1, h2, rfl, Rp_l, S⟩⟩
    ·refine WP.condF rfl hc14<|WP.exit ?_
     obtain rfl := oi hy8
     obtain rfl := hy9
     exact ⟨H1, h2, Rp_l, S⟩
 ·intro f w hM
  rcases r10 with _ | e
  ·obtain ⟨H5, h6, Rp_l, S⟩ := hM
   refine WP.s<|WP.g<|WL.m (vp_l) h6<|WL.w (R.lenL (α := GField) (xs := p_l) (H := H5) Rp_l rfl Tryz.underlying24)<|WL.w (R.leq rfl rfl)<|WL.a (boo (decide ((p_l.length : Int) ≤ 70))) rfl<|WL.e ?_
   obtain rfl := oi h
   refine WP.ret (Out.one rfl S rfl ?_)
   exact rfl
  ·exact hM.elim
theorem keep_Request_ok {w0 : World} {H0 : Hp} (hw : Holds w0 H0) (hG : Tryz.Gl w0) (p_q : GRequest) {vp_q3 : Value} (Rp_q3 : Sl (α := GField) H0 vp_q3 p_q.fFields) {r : Bool} (h : keep_Request p_q = some r) :
  Con Tryz.prog 17 [(agg [(str p_q.fMethod), (str p_q.fTarget), (int p_q.fMinor), vp_q3, (str p_q.fBody)])] w0 H0 (fun H' v => v = (boo r)) := by
 refine Con.mk (N := 24) Tryz.func17 rfl rfl (by kernel_rfl) rfl ?_
 have S := St.start hw
 refine WP.s<|WP.g<|W.box [(str p_q.fMethod), (str p_q.fTarget), (int p_q.fMinor), vp_q3, (str p_q.fBody)] S rfl rfl ?_
 intro b1 w2 S
 refine WL.a (boo false) rfl<|WL.e<|WP.s<|WP.g<|WL.w (R.fieldB rfl fld40_0)<|WL.w (R.loadB (i := 0) (v := str p_q.fMethod) S rfl rfl lay9 rfl)<|WL.w (R.lenS (a := p_q.fMethod) rfl Tryz.underlying9)<|WL.w (R.leq rfl rfl)<|WL.m (boo (decide ((p_q.fMethod.length : Int) ≤ 100))) rfl ?_
 refine WL.grp 5 [8, 9, 10, 11] 12 (boo ((decide ((p_q.fMethod.length : Int) ≤ 100)) && (decide ((p_q.fTarget.length : Int) ≤ 2100)))) ?_ ?_
 ·rcases boolE (decide ((p_q.fMethod.length : Int) ≤ 100)) with hb3 | hb3
  ·refine WL.y rfl rfl hb3<|WL.w (R.fieldB rfl fld40_1)<|WL.y rfl rfl hb3<|WL.w (R.loadB (i := 0) (v := str p_q.fTarget) S rfl rfl lay9 rfl)<|WL.y rfl rfl hb3<|WL.w (R.lenS (a := p_q.fTarget) rfl Tryz.underlying9)<|WL.y rfl rfl hb3<|WL.w (R.leq rfl rfl)<|WL.w (R.pickT rfl hb3 rfl) ?_
   exact WL.e ⟨(andT hb3), ag, rfl⟩
  ·refine WL.n rfl rfl hb3<|WL.n rfl rfl hb3<|WL.n rfl rfl hb3<|WL.n rfl rfl hb3<|WL.w (R.pickF rfl hb3 rfl) ?_
   exact WL.e ⟨(andF hb3), ag, rfl⟩
 ·intro us
  refine WL.m (boo ((decide ((p_q.fMethod.length : Int) ≤ 100)) && (decide ((p_q.fTarget.length : Int) ≤ 2100)))) rfl ?_
  obtain ⟨b12, hg6, h⟩ := bindE h
  refine WL.grpw 4 [14, 15, 16] 17 (boo b12) (fun w => ∃ H' : Hp, H0.le H' ∧ St w0 H0 w H' [.box b1 40 [(str p_q.fMethod), (str p_q.fTarget), (int p_q.fMinor), vp_q3, (str p_q.fBody)]]) ?_ ?_
  ·rcases boolE ((decide ((p_q.fMethod.length : Int) ≤ 100)) && (decide ((p_q.fTarget.length : Int) ≤ 2100))) with hb5 | hb5
   ·replace hg6 := condT hg6 hb5
    refine WL.y rfl rfl hb5<|WL.w (R.fieldB rfl fld40_3)<|WL.y rfl rfl hb5<|WL.w (R.loadB (i := 0) (v := vp_q3) S rfl rfl lay24 rfl)<|WL.y rfl rfl hb5 ?_
    obtain ⟨r7, hr7, hg6⟩ := bindE hg6
    refine W.call S rfl (keep_Fields_ok S.holds (hG.post S.post) p_q.fFields Rp_q3 hr7) ?_
    rintro v8 w9 H10 hle11 S rfl
    refine WL.w (R.pickT rfl hb5 rfl) ?_
    exact WL.e ⟨(congrArg boo (oi hg6)), ag, ⟨H10, hle11, S⟩⟩
   ·replace hg6 := condF hg6 hb5
    refine WL.n rfl rfl hb5<|WL.n rfl rfl hb5<|WL.n rfl rfl hb5<|WL.w (R.pickF rfl hb5 rfl) ?_
    exact WL.e ⟨(congrArg boo (oi hg6)), ag, ⟨H0, (Hp.le.refl _), S⟩⟩
  ·intro us w14 ⟨H13, hle15, S⟩
   refine WL.m (boo b12) rfl ?_
   refine WL.grp 5 [19, 20, 21, 22] 23 (boo (b12 && (decide ((p_q.fBody.length : Int) ≤ 2000)))) ?_ ?_
   ·rcases boolE b12 with hb16 | hb16
    ·refine WL.y rfl rfl hb16<|WL.w (R.fieldB rfl fld40_4)<|WL.y rfl rfl hb16<|WL.w (R.loadB (i := 0) (v := str p_q.fBody) S rfl rfl lay9 rfl)<|WL.y rfl rfl hb16<|WL.w (R.lenS (a := p_q.fBody) rfl Tryz.underlying9)<|WL.y rfl rfl hb16<|WL.w (R.leq rfl rfl)<|WL.w (R.pickT rfl hb16 rfl) ?_
     exact WL.e ⟨(andT hb16), ag, rfl⟩
    ·refine WL.n rfl rfl hb16<|WL.n rfl rfl hb16<|WL.n rfl rfl hb16<|WL.n rfl rfl hb16<|WL.w (R.pickF rfl hb16 rfl) ?_
     exact WL.e ⟨(andF hb16), ag, rfl⟩
   ·intro us
    refine WL.a (boo (b12 && (decide ((p_q.fBody.length : Int) ≤ 2000)))) rfl<|WL.e ?_
    obtain rfl := oi h
    refine WP.ret (Out.one rfl S rfl ?_)
    exact rfl
theorem keep_Response_ok {w0 : World} {H0 : Hp} (hw : Holds w0 H0) (hG : Tryz.Gl w0) (p_r : GResponse) {vp_r3 : Value} (Rp_r3 : Sl (α := GField) H0 vp_r3 p_r.fFields) {r : Bool} (h : keep_Response p_r = some r) :
  Con Tryz.prog 18 [(agg [(int p_r.fMinor), (int p_r.fStatus), (str p_r.fReason), vp_r3, (str p_r.fBody)])] w0 H0 (fun H' v => v = (boo r)) := by
 refine Con.mk (N := 18) Tryz.func18 rfl rfl (by kernel_rfl) rfl ?_
 have S := St.start hw
 refine WP.s<|WP.g<|W.box [(int p_r.fMinor), (int p_r.fStatus), (str p_r.fReason), vp_r3, (str p_r.fBody)] S rfl rfl ?_
 intro b1 w2 S
 refine WL.a (boo false) rfl<|WL.e<|WP.s<|WP.g<|WL.w (R.fieldB rfl fld30_2)<|WL.w (R.loadB (i := 0) (v := str p_r.fReason) S rfl rfl lay9 rfl)<|WL.w (R.lenS (a := p_r.fReason) rfl Tryz.underlying9)<|WL.w (R.leq rfl rfl)<|WL.m (boo (decide ((p_r.fReason.length : Int) ≤ 2100))) rfl ?_
 obtain ⟨b10, hg4, h⟩ := bindE h
 refine WL.grpw 4 [8, 9, 10] 11 (boo b10) (fun w => ∃ H' : Hp, H0.le H' ∧ St w0 H0 w H' [.box b1 30 [(int p_r.fMinor), (int p_r.fStatus), (str p_r.fReason), vp_r3, (str p_r.fBody)]]) ?_ ?_
 ·rcases boolE (decide ((p_r.fReason.length : Int) ≤ 2100)) with hb3 | hb3
  ·replace hg4 := condT hg4 hb3
   refine WL.y rfl rfl hb3<|WL.w (R.fieldB rfl fld30_3)<|WL.y rfl rfl hb3<|WL.w (R.loadB (i := 0) (v := vp_r3) S rfl rfl lay24 rfl)<|WL.y rfl rfl hb3 ?_
   obtain ⟨r5, hr5, hg4⟩ := bindE hg4
   refine W.call S rfl (keep_Fields_ok S.holds (hG.post S.post) p_r.fFields Rp_r3 hr5) ?_
   rintro v6 w7 H8 hle9 S rfl
   refine WL.w (R.pickT rfl hb3 rfl) ?_
   exact WL.e ⟨(congrArg boo (oi hg4)), ag, ⟨H8, hle9, S⟩⟩
  ·replace hg4 := condF hg4 hb3
   refine WL.n rfl rfl hb3<|WL.n rfl rfl hb3<|WL.n rfl rfl hb3<|WL.w (R.pickF rfl hb3 rfl) ?_
   exact WL.e ⟨(congrArg boo (oi hg4)), ag, ⟨H0, (Hp.le.refl _), S⟩⟩
 ·intro us w12 ⟨H11, hle13, S⟩
  refine WL.m (boo b10) rfl ?_
  refine WL.grp 5 [13, 14, 15, 16] 17 (boo (b10 && (decide ((p_r.fBody.length : Int) ≤ 2000)))) ?_ ?_
  ·rcases boolE b10 with hb14 | hb14
   ·refine WL.y rfl rfl hb14<|WL.w (R.fieldB rfl fld30_4)<|WL.y rfl rfl hb14<|WL.w (R.loadB (i := 0) (v := str p_r.fBody) S rfl rfl lay9 rfl)<|WL.y rfl rfl hb14<|WL.w (R.lenS (a := p_r.fBody) rfl Tryz.underlying9)<|WL.y rfl rfl hb14<|WL.w (R.leq rfl rfl)<|WL.w (R.pickT rfl hb14 rfl) ?_
    exact WL.e ⟨(andT hb14), ag, rfl⟩
   ·refine WL.n rfl rfl hb14<|WL.n rfl rfl hb14<|WL.n rfl rfl hb14<|WL.n rfl rfl hb14<|WL.w (R.pickF rfl hb14 rfl) ?_
    exact WL.e ⟨(andF hb14), ag, rfl⟩
  ·intro us
   refine WL.a (boo (b10 && (decide ((p_r.fBody.length : Int) ≤ 2000)))) rfl<|WL.e ?_
   obtain rfl := oi h
   refine WP.ret (Out.one rfl S rfl ?_)
   exact rfl
theorem ascii_Lower_ok {w0 : World} {H0 : Hp} (hw : Holds w0 H0) (hG : Tryz.Gl w0) (p_s : Str) {r : Str} (h : ascii_Lower p_s = some r) :
  Con Tryz.prog 83 [(str p_s)] w0 H0 (fun H' v => v = (str r)) := by
 refine Con.mk (N := 30) Tryz.func83 rfl rfl (by kernel_rfl) rfl ?_
 have S := St.start hw
 refine WP.s<|WP.g<|WL.a (str []) rfl<|WL.e<|WP.s<|WP.g<|WL.m (str p_s) rfl<|W.bytes (s := p_s) S rfl Tryz.underlying9 Tryz.underlying130 Tryz.underlying5 ?_
 intro b1 c2 w3 hc2 S
 refine WL.a (.slice (some ⟨b1, 0, none⟩) p_s.length c2) rfl<|WL.e<|WP.s<|WP.s<|WP.g<|WL.m (.slice (some ⟨b1, 0, none⟩) p_s.length c2) rfl<|WL.w (R.lenV rfl Tryz.underlying130)<|WL.m (int 0) rfl<|WL.e ?_
 obtain ⟨m14, hr20, h⟩ := bindE h
 refine WP.cut (fun f w => ∃ (H12 : Hp), f 3 = (.slice (some ⟨b1, 0, none⟩) p_s.length c2) ∧ m14.length = p_s.length ∧ St w0 H0 w H12 [.box b1 5 (m14.map byt)]) ?_ ?_
 ·refine WP.block ?_
  refine WP.loopM (ascii_Lower_L0 p_s) (fun s f w => match s with | (y_8, m10) => ∃ (H4 : Hp), f 3 = (.slice (some ⟨b1, 0, none⟩) p_s.length c2) ∧ f 8 = (.slice (some ⟨b1, 0, none⟩) p_s.length c2) ∧ f 9 = (int (p_s.length : Int)) ∧ f 10 = (int y_8) ∧ m10.length = p_s.length ∧ St w0 H0 w H4 [.box b1 5 (m10.map byt)]) (0, p_s) m14 hr20 ?_ ?_
  ·exact ⟨H0, rfl, rfl, rfl, rfl, rfl, S⟩
  ·intro s f w hI y16 hy17 hy18
   obtain ⟨y_8, m10⟩ := s
   obtain ⟨H4, h5, h6, h7, h9, hL11, S⟩ := hI
   refine WP.s<|WP.g<|WL.w (R.lss h9 h7)<|WL.e<|WP.s ?_
   rcases condE hy17 with ⟨hc21, hy17⟩ | ⟨hc21, hy17⟩
   ·refine WP.condT rfl hc21<|WP.skip<|WP.s<|WP.block<|WP.s<|WP.g<|WL.m (int y_8) h9 ?_
    obtain ⟨c22, hc22, hy17⟩ := bindE hy17
    have hq23 := (map_byt_get hc22).2
    refine WL.w (R.idxB h6 h9 el130 (by have := (map_byt_get hc22).2; have hl : m10.length = p_s.length := hL11; omega)) ?_
    obtain ⟨c24, hc24, hy17⟩ := bindE hy17
    refine WL.w (R.loadB (i := 0) S rfl rfl lay5 (map_byt_get hc24).1)<|WL.a (int y_8) rfl<|WL.a (byt c24) rfl<|WL.e<|WP.s<|WP.g<|WL.m (byt c24) rfl<|WL.w (R.geq8 (a := c24) (b := 65) rfl rfl)<|WL.m (boo (decide (65 ≤ c24))) rfl ?_
    refine WL.grp 3 [18, 19] 20 (boo ((decide (65 ≤ c24)) && (decide (c24 ≤ 90)))) ?_ ?_
    ·rcases boolE (decide (65 ≤ c24)) with hb25 | hb25
     ·refine WL.y rfl rfl hb25<|WL.m (byt c24) rfl<|WL.y rfl rfl hb25<|WL.w (R.leq8 (a := c24) (b := 90) rfl rfl)<|WL.w (R.pickT rfl hb25 rfl) ?_
      exact WL.e ⟨(andT hb25), ag, rfl⟩
     ·refine WL.n rfl rfl hb25<|WL.n rfl rfl hb25<|WL.w (R.pickF rfl hb25 rfl) ?_
      exact WL.e ⟨(andF hb25), ag, rfl⟩
    ·intro us
     refine WL.e ?_
     rcases condE hy17 with ⟨hc27, hy17⟩ | ⟨hc27, hy17⟩
     ·refine WP.condT rfl hc27<|WP.g<|WL.m (.slice (some ⟨b1, 0, none⟩) p_s.length c2) h5<|WL.m (int y_8) rfl<|WL.m (byt c24) rfl<|WL.w (R.add8 (a := c24) (b := 97) rfl rfl)<|WL.w (R.sub8 (a := c24 + 97) (b := 65) rfl rfl) ?_
      obtain ⟨c28, hc28, hy17⟩ := bindE hy17
      have hq29 := (map_byt_get hc28).2
      refine WL.w (R.idxB rfl rfl el130 (by have := (map_byt_get hc28).2; have hl : m10.length = p_s.length := hL11; omega))<|W.store (i := 0) ((m10.set y_8.toNat ((c24 + 97) - 65)).map byt) S rfl rfl rfl lay5 rfl rfl (by rw [List.length_map]; omega) (splice_byt _ _ _ (by omega)) ?_
      intro w30 S
      refine WL.e<|WP.g<|WL.w (R.add h9 rfl)<|WL.m (int (wr (y_8 + 1))) rfl<|WL.e ?_
      obtain rfl := oi hy17
      exact ⟨rfl, ⟨H4, h5, h6, h7, rfl, (List.length_set.trans hL11), S⟩⟩
     ·refine WP.condF rfl hc27<|WP.skip<|WP.g<|WL.w (R.add h9 rfl)<|WL.m (int (wr (y_8 + 1))) rfl<|WL.e ?_
      obtain rfl := oi hy17
      exact ⟨rfl, ⟨H4, h5, h6, h7, rfl, hL11, S⟩⟩
   ·refine WP.condF rfl hc21<|WP.exit ?_
    obtain rfl := oi hy17
    obtain rfl := hy18
    exact ⟨H4, h5, hL11, S⟩
 ·rintro f w ⟨H12, h13, hL15, S⟩
  refine WP.s<|WP.g<|WL.m (.slice (some ⟨b1, 0, none⟩) p_s.length c2) h13<|WL.w (R.strB (i := 0) (s := m14) S (by rw [show m14.length = p_s.length from hL15]; exact rfl) rfl Tryz.underlying130 Tryz.underlying9 Tryz.underlying5)<|WL.a (str m14) rfl<|WL.e ?_
  obtain rfl := oi h
  refine WP.ret (Out.one rfl S rfl ?_)
  exact rfl
theorem fieldline_named_1_ok {w0 : World} {H0 : Hp} (hw : Holds w0 H0) (hG : Tryz.Gl w0) (p_f : GField) (c_x0 : Str) {ac_x0 : Addr} (Ac_x0 : At H0 ac_x0 [(str c_x0)]) {r : Bool} (h : fieldline_named_1 p_f c_x0 = some r) :
  Con Tryz.prog 154 [(agg [(str p_f.fName), (str p_f.fValue)]), (.pointer (some ac_x0))] w0 H0 (fun H' v => v = (boo r)) := by
 refine Con.mk (N := 17) Tryz.func154 rfl rfl (by kernel_rfl) rfl ?_
 have S := St.start hw
 refine WP.s<|WP.g<|W.box [(str p_f.fName), (str p_f.fValue)] S rfl rfl ?_
 intro b1 w2 S
 refine WL.a (boo false) rfl<|WL.e<|WP.s<|WP.quiet S (by kernel_rfl) (by kernel_rfl)<|WQ.val (fun _ _ => (R.fieldB rfl fld53_0))<|WQ.val (fun w hw => by obtain ⟨_, hq, S⟩ := hw; exact (R.loadB (i := 0) (v := str p_f.fName) S rfl rfl lay9 rfl))<|WQ.val (fun _ _ => (R.lenS (a := p_f.fName) rfl Tryz.underlying9))<|WQ.val (fun w hw => by obtain ⟨_, hq, S⟩ := hw; exact (R.loadH (v := str c_x0) S rfl (At.mono Ac_x0 hq (by simp)) lay9 rfl))<|WQ.val (fun _ _ => (R.lenS (a := c_x0) rfl Tryz.underlying9))<|WQ.val (fun _ _ => (R.eql rfl rfl))<|WQ.val (fun _ _ => (R.mv (v := boo ((p_f.fName.length : Int) == (c_x0.length : Int))) rfl)) ?_
 obtain ⟨b13, hg7, h⟩ := bindE h
 refine WQ.grp 6 [11, 12, 13, 14, 15] 16 (boo b13) ?_ ?_
 ·rcases boolE ((p_f.fName.length : Int) == (c_x0.length : Int)) with hb6 | hb6
  ·replace hg7 := condT hg7 hb6
   refine WQ.gyes rfl rfl hb6<|WQ.val (fun _ _ => (R.fieldB rfl fld53_0))<|WQ.gyes rfl rfl hb6<|WQ.val (fun w hw => by obtain ⟨_, hq, S⟩ := hw; exact (R.loadB (i := 0) (v := str p_f.fName) S rfl rfl lay9 rfl))<|WQ.gyes rfl rfl hb6 ?_
   obtain ⟨r8, hr8, hg7⟩ := bindE hg7
   refine WQ.call (v := str r8) rfl (fun w H' hq S => ascii_Lower_ok S.holds (hG.post S.post) p_f.fName hr8)<|WQ.gyes rfl rfl hb6<|WQ.val (fun w hw => by obtain ⟨_, hq, S⟩ := hw; exact (R.loadH (v := str c_x0) S rfl (At.mono Ac_x0 hq (by simp)) lay9 rfl))<|WQ.gyes rfl rfl hb6<|WQ.val (fun _ _ => (R.eqlS (a := r8) (b := c_x0) rfl rfl))<|WQ.val (fun _ _ => (R.pickT rfl hb6 rfl)) ?_
   exact WQ.nil ⟨(congrArg boo (oi hg7)), ag⟩
  ·replace hg7 := condF hg7 hb6
   refine WQ.gno rfl rfl hb6<|WQ.gno rfl rfl hb6<|WQ.gno rfl rfl hb6<|WQ.gno rfl rfl hb6<|WQ.gno rfl rfl hb6<|WQ.val (fun _ _ => (R.pickF rfl hb6 rfl)) ?_
   exact WQ.nil ⟨(congrArg boo (oi hg7)), ag⟩
 ·intro us
  refine WQ.val (fun _ _ => (R.as (v := boo b13) rfl))<|WQ.nil ?_
  intro w3 H4 hle5 S
  obtain rfl := oi h
  refine WP.ret (Out.one rfl S rfl ?_)
  exact rfl
theorem fieldline_named_ok {w0 : World} {H0 : Hp} (hw : Holds w0 H0) (hG : Tryz.Gl w0) (p_name : Str) {r : (GField → Option Bool)} (h : fieldline_named p_name = some r) :
  Con Tryz.prog 106 [(str p_name)] w0 H0 (fun H' v => ∃ (k : FuncId) (c : List Value), v = .func (.func k) #[] c.toArray ∧ ∀ {w : World} {H : Hp}, H'.le H → Holds w H → Tryz.Gl w → ∀ (x0 : GField) (rr : Bool), r x0 = some rr → Con Tryz.prog k ([(agg [(str x0.fName), (str x0.fValue)])] ++ c) w H (fun H' v => v = (boo rr))) := by
 refine Con.mk (N := 6) Tryz.func106 rfl rfl (by kernel_rfl) rfl ?_
 have S := St.start hw
 refine WP.s<|WP.g<|W.box [(str p_name)] S rfl rfl ?_
 intro b1 w2 S
 refine WL.a (.nilFunc) rfl<|WL.e<|WP.s<|WP.g<|WL.w (R.loadB (i := 0) (v := str p_name) S rfl rfl lay9 rfl) ?_
 obtain ⟨r3, hr3, h⟩ := bindE h
 refine W.call S rfl (ascii_Lower_ok S.holds (hG.post S.post) p_name hr3) ?_
 rintro v4 w5 H6 hle7 S rfl
 refine W.store (i := 0) [(str r3)] S rfl rfl rfl lay9 rfl rfl (Nat.le_of_ble_eq_true rfl) rfl ?_
 intro w8 S
 refine WL.e<|WP.s<|WP.g ?_
 obtain ⟨H9, hle10, hs11, _, S⟩ := S.settle (i := 0) rfl
 replace S : St w0 H0 _ H9 [] := S
 have hA12 : At H9 ⟨b1, 0, none⟩ [(str r3)] := ⟨_, _, rfl, hs11, [], by simp⟩
 refine WL.w (R.mkFunc (vs := [(.pointer (some ⟨b1, 0, none⟩))]) rfl)<|WL.a (.func (.func 154) #[] [(.pointer (some ⟨b1, 0, none⟩))].toArray) rfl<|WL.e ?_
 obtain rfl := oi h
 refine WP.ret (Out.one rfl S rfl ?_)
 exact ⟨_, [(.pointer (some ⟨b1, 0, none⟩))], rfl, fun hle hw hG x0 r h => fieldline_named_1_ok hw hG x0 r3 (At.mono hA12 hle (by simp)) h⟩
theorem fieldline_filter_ok {w0 : World} {H0 : Hp} (hw : Holds w0 H0) (hG : Tryz.Gl w0) (p_l : (List GField)) (p_keep : (GField → Option Bool)) {vp_l : Value} {kp_keep : FuncId} {cp_keep : List Value} (Rp_l : Sl (α := GField) H0 vp_l p_l) (Fp_keep : ∀ {w : World} {H : Hp}, H0.le H → Holds w H → Tryz.Gl w → ∀ (x0 : GField) (rr : Bool), p_keep x0 = some rr → Con Tryz.prog kp_keep ([(agg [(str x0.fName), (str x0.fValue)])] ++ cp_keep) w H (fun H' v => v = (boo rr))) {r : (List GField)} (h : fieldline_filter p_l p_keep = some r) :
  Con Tryz.prog 107 [vp_l, (.func (.func kp_keep) #[] cp_keep.toArray)] w0 H0 (fun H' v => Sl (α := GField) H' v r) := by
 refine Con.mk (N := 23) Tryz.func107 rfl rfl (by kernel_rfl) rfl ?_
 have S := St.start hw
 refine WP.s<|WP.g<|WL.a (.slice none 0 0) rfl<|WL.e<|WP.s<|WP.g<|WL.a (.slice none 0 0) rfl<|WL.e<|WP.s<|WP.s<|WP.g<|WL.m (vp_l) rfl ?_
 refine WL.w (R.lenL (α := GField) (xs := p_l) (H := H0) Rp_l rfl Tryz.underlying24)<|WL.m (int 0) rfl<|WL.e ?_
 have S := S.addNil 53 2
 obtain ⟨out_12, hr20, h⟩ := bindE h
 refine WP.cut (fun f w => ∃ (H11 : Hp) (v13 : Value), f 5 = v13 ∧ Sl (α := GField) H11 v13 out_12 ∧ St w0 H0 w H11 [.row v13 53 2 out_12.length]) ?_ ?_
 ·refine WP.block ?_
  refine WP.loopM (fieldline_filter_L0 p_l p_keep) (fun s f w => match s with | (out_3, y_9) => ∃ (H1 : Hp) (v4 : Value), f 1 = (.func (.func kp_keep) #[] cp_keep.toArray) ∧ f 5 = v4 ∧ f 8 = vp_l ∧ f 9 = (int (p_l.length : Int)) ∧ f 10 = (int y_9) ∧ Sl (α := GField) H1 v4 out_3 ∧ Sl (α := GField) H1 vp_l p_l ∧ St w0 H0 w H1 [.row v4 53 2 out_3.length]) (([] : List GField), 0) out_12 hr20 ?_ ?_
  ·exact ⟨H0, .slice none 0 0, rfl, rfl, rfl, rfl, rfl, Sl.nil, Rp_l, S⟩
  ·intro s f w hI y16 hy17 hy18
   obtain ⟨out_3, y_9⟩ := s
   obtain ⟨H1, v4, h2, h6, h7, h8, h10, R5, Rp_l, S⟩ := hI
   refine WP.s<|WP.g<|WL.w (R.lss h10 h8)<|WL.e<|WP.s ?_
   rcases condE hy17 with ⟨hc21, hy17⟩ | ⟨hc21, hy17⟩
   ·refine WP.condT rfl hc21<|WP.skip<|WP.s<|WP.block<|WP.s<|WP.g ?_
    obtain ⟨x22, hx22, hy17⟩ := bindE hy17
    refine W.idx (α := GField) Rp_l h7 h10 el24 hx22 ?_
    rintro a23 _ hA24 rfl
    refine WL.w (R.loadHN (vs := [(str x22.fName), (str x22.fValue)]) S rfl hA24 lay53 rfl rfl)<|W.alloc [(str []), (str [])] S zer53 ?_
    intro b25 w26 S
    refine W.store (i := 0) [(str x22.fName), (str x22.fValue)] S rfl rfl rfl lay53 rfl rfl (Nat.le_of_ble_eq_true rfl) rfl ?_
    intro w27 S
    refine WL.e<|WP.s<|WP.g<|WL.m (.func (.func kp_keep) #[] cp_keep.toArray) h2<|WL.w (R.loadBN (i := 0) (vs := [(str x22.fName), (str x22.fValue)]) S rfl rfl lay53 rfl rfl) ?_
    obtain ⟨r28, hr28, hy17⟩ := bindE hy17
    refine W.callv S rfl rfl (Fp_keep (S.post.le) S.holds (hG.post S.post) x22 _ hr28) ?_
    rintro v29 w30 H31 hle32 S rfl
    have R5 := Sl.mono R5 hle32
    have Rp_l := Sl.mono Rp_l hle32
    refine WL.e ?_
    rcases condE hy17 with ⟨hc33, hy17⟩ | ⟨hc33, hy17⟩
    ·refine WP.condT rfl hc33<|WP.g<|WL.m (v4) h6<|WL.w (R.loadBN (i := 0) (vs := [(str x22.fName), (str x22.fValue)]) S rfl rfl lay53 rfl rfl)<|W.bslice (α := GField) [(agg [(str x22.fName), (str x22.fValue)])] ([x22] : List GField) S el24 rfl rfl rfl (by decide) (Go.Eng.encS ⟨rfl, rfl⟩ enc0) ?_
     intro u34 w35 H36 hle37 R38 S
     have R5 := Sl.mono R5 hle37
     have Rp_l := Sl.mono Rp_l hle37
     obtain ⟨l39, hl39, hy17⟩ := bindE hy17
     refine W.app (α := GField) (i := 2) S el24 rfl rfl rfl R5 R38 hl39 ?_
     intro v40 w41 H42 hle43 R44 S
     have R5 := Sl.mono R5 hle43
     have Rp_l := Sl.mono Rp_l hle43
     refine WL.a (v40) rfl<|WL.e<|WP.g<|WL.w (R.add h10 rfl)<|WL.m (int (wr (y_9 + 1))) rfl<|WL.e ?_
     obtain rfl := oi hy17
     exact ⟨rfl, ⟨H42, v40, h2, rfl, h7, h8, rfl, R44, Rp_l, (S.drop _ (.cons _ (.cons _ (.cons_cons _ .slnil))))⟩⟩
    ·refine WP.condF rfl hc33<|WP.skip<|WP.g<|WL.w (R.add h10 rfl)<|WL.m (int (wr (y_9 + 1))) rfl<|WL.e ?_
     obtain rfl := oi hy17
     exact ⟨rfl, ⟨H31, v4, h2, h6, h7, h8, rfl, R5, Rp_l, (S.drop _ (.cons _ (.cons_cons _ .slnil)))⟩⟩
   ·refine WP.condF rfl hc21<|WP.exit ?_
    obtain rfl := oi hy17
    obtain rfl := hy18
    exact ⟨H1, v4, h6, R5, S⟩
 ·rintro f w ⟨H11, v13, h15, R14, S⟩
  refine WP.s<|WP.g<|WL.m (v13) h15<|WL.a (v13) rfl<|WL.e ?_
  obtain rfl := oi h
  refine WP.ret (Out.one rfl S rfl ?_)
  exact R14
theorem fieldline_Get_ok {w0 : World} {H0 : Hp} (hw : Holds w0 H0) (hG : Tryz.Gl w0) (p_l : (List GField)) (p_name : Str) {vp_l : Value} (Rp_l : Sl (α := GField) H0 vp_l p_l) {r : (List Str)} (h : fieldline_Get p_l p_name = some r) :
  Con Tryz.prog 126 [vp_l, (str p_name)] w0 H0 (fun H' v => Sl (α := Str) H' v r) := by
 refine Con.mk (N := 24) Tryz.func126 rfl rfl (by kernel_rfl) rfl ?_
 have S := St.start hw
 refine WP.s<|WP.g<|WL.a (.slice none 0 0) rfl<|WL.e<|WP.s<|WP.g<|WL.a (.slice none 0 0) rfl<|WL.e<|WP.s<|WP.s<|WP.g<|WL.m (vp_l) rfl ?_
 refine WL.m (str p_name) rfl ?_
 obtain ⟨r1, hr1, h⟩ := bindE h
 refine W.call S rfl (fieldline_named_ok S.holds (hG.post S.post) p_name hr1) ?_
 rintro v2 w3 H4 hle5 S ⟨kr1, cr1, rfl, Fr1⟩
 have Rp_l := Sl.mono Rp_l hle5
 obtain ⟨r6, hr6, h⟩ := bindE h
 refine W.call S rfl (fieldline_filter_ok S.holds (hG.post S.post) p_l r1 Rp_l (fun hle => Fr1 (Hp.le.trans (Hp.le.refl _) hle)) hr6) ?_
 rintro v7 w8 H9 hle10 S R11
 refine WL.w (R.lenL (α := GField) (xs := r6) (H := H9) R11 rfl Tryz.underlying24)<|WL.m (int 0) rfl<|WL.e ?_
 have S := S.addNil 9 1
 obtain ⟨out_22, hr30, h⟩ := bindE h
 refine WP.cut (fun f w => ∃ (H21 : Hp) (v23 : Value), f 5 = v23 ∧ Sl (α := Str) H21 v23 out_22 ∧ St w0 H0 w H21 [.row v23 9 1 out_22.length]) ?_ ?_
 ·refine WP.block ?_
  refine WP.loopM (fieldline_Get_L0 r6) (fun s f w => match s with | (out_13, y_19) => ∃ (H12 : Hp) (v14 : Value), f 5 = v14 ∧ f 11 = v7 ∧ f 12 = (int (r6.length : Int)) ∧ f 13 = (int y_19) ∧ Sl (α := Str) H12 v14 out_13 ∧ Sl (α := GField) H12 v7 r6 ∧ St w0 H0 w H12 [.row v14 9 1 out_13.length]) (([] : List Str), 0) out_22 hr30 ?_ ?_
  ·exact ⟨H9, .slice none 0 0, rfl, rfl, rfl, rfl, Sl.nil, R11, S⟩
  ·intro s f w hI y26 hy27 hy28
   obtain ⟨out_13, y_19⟩ := s
   obtain ⟨H12, v14, h16, h17, h18, h20, R15, R11, S⟩ := hI
   refine WP.s<|WP.g<|WL.w (R.lss h20 h18)<|WL.e<|WP.s ?_
   rcases condE hy27 with ⟨hc31, hy27⟩ | ⟨hc31, hy27⟩
   ·refine WP.condT rfl hc31<|WP.skip<|WP.s<|WP.block<|WP.s<|WP.g ?_
    obtain ⟨x32, hx32, hy27⟩ := bindE hy27
    refine W.idx (α := GField) R11 h17 h20 el24 hx32 ?_
    rintro a33 _ hA34 rfl
    refine WL.w (R.loadHN (vs := [(str x32.fName), (str x32.fValue)]) S rfl hA34 lay53 rfl rfl)<|W.alloc [(str []), (str [])] S zer53 ?_
    intro b35 w36 S
    refine W.store (i := 0) [(str x32.fName), (str x32.fValue)] S rfl rfl rfl lay53 rfl rfl (Nat.le_of_ble_eq_true rfl) rfl ?_
    intro w37 S
    refine WL.e<|WP.g<|WL.m (v14) h16<|WL.w (R.fieldB rfl fld53_1)<|WL.w (R.loadB (i := 0) (v := str x32.fValue) S rfl rfl lay9 rfl)<|W.bslice (α := Str) [(str x32.fValue)] ([x32.fValue] : List Str) S el23 rfl rfl rfl (by decide) (Go.Eng.encS ⟨rfl, rfl⟩ enc0) ?_
    intro u38 w39 H40 hle41 R42 S
    have R15 := Sl.mono R15 hle41
    have R11 := Sl.mono R11 hle41
    obtain ⟨l43, hl43, hy27⟩ := bindE hy27
    refine W.app (α := Str) (i := 2) S el23 rfl rfl rfl R15 R42 hl43 ?_
    intro v44 w45 H46 hle47 R48 S
    have R15 := Sl.mono R15 hle47
    have R11 := Sl.mono R11 hle47
    refine WL.a (v44) rfl<|WL.e<|WP.g<|WL.w (R.add h20 rfl)<|WL.m (int (wr (y_19 + 1))) rfl<|WL.e ?_
    obtain rfl := oi hy27
    exact ⟨rfl, ⟨H46, v44, rfl, h17, h18, rfl, R48, R11, (S.drop _ (.cons _ (.cons _ (.cons_cons _ .slnil))))⟩⟩
   ·refine WP.condF rfl hc31<|WP.exit ?_
    obtain rfl := oi hy27
    obtain rfl := hy28
    exact ⟨H12, v14, h16, R15, S⟩
 ·rintro f w ⟨H21, v23, h25, R24, S⟩
  refine WP.s<|WP.g<|WL.m (v23) h25<|WL.a (v23) rfl<|WL.e ?_
  obtain rfl := oi h
  refine WP.ret (Out.one rfl S rfl ?_)
  exact R24
theorem list_step_ok {w0 : World} {H0 : Hp} (hw : Holds w0 H0) (hG : Tryz.Gl w0) (p_state : Int) (p_c : UInt8) {r : Int} (h : list_step p_state p_c = some r) :
  Con Tryz.prog 167 [(int p_state), (byt p_c)] w0 H0 (fun H' v => v = (int r)) := by
 refine Con.mk (N := 21) Tryz.func167 rfl rfl (by kernel_rfl) rfl ?_
 have S := St.start hw
 refine WP.s<|WP.g<|WL.a (int 0) rfl<|WL.e<|WP.s<|WP.block<|WP.s<|WP.g<|WL.m (int p_state) rfl<|WL.w (R.eql rfl rfl)<|WL.a (boo (p_state == 2)) rfl<|WL.e ?_
 rcases condE h with ⟨hc1, h⟩ | ⟨hc1, h⟩
 ·refine WP.condT rfl hc1<|WP.s<|WP.g<|WL.a (int 1) rfl<|WL.e ?_
  obtain rfl := oi h
  refine WP.ret (Out.one rfl S rfl ?_)
  exact rfl
 ·refine WP.condF rfl hc1<|WP.s<|WP.g<|WL.m (int p_state) rfl<|WL.w (R.eql rfl rfl)<|WL.m (boo (p_state == 1)) rfl ?_
  refine WL.grp 3 [12, 13] 14 (boo ((p_state == 1) && (p_c == 92))) ?_ ?_
  ·rcases boolE (p_state == 1) with hb2 | hb2
   ·refine WL.y rfl rfl hb2<|WL.m (byt p_c) rfl<|WL.y rfl rfl hb2<|WL.w (R.eql8 (a := p_c) (b := 92) rfl rfl)<|WL.w (R.pickT rfl hb2 rfl) ?_
    exact WL.e ⟨(andT hb2), ag, rfl⟩
   ·refine WL.n rfl rfl hb2<|WL.n rfl rfl hb2<|WL.w (R.pickF rfl hb2 rfl) ?_
    exact WL.e ⟨(andF hb2), ag, rfl⟩
  ·intro us
   refine WL.a (boo ((p_state == 1) && (p_c == 92))) rfl<|WL.e ?_
   rcases condE h with ⟨hc4, h⟩ | ⟨hc4, h⟩
   ·refine WP.condT rfl hc4<|WP.s<|WP.g<|WL.a (int 2) rfl<|WL.e ?_
    obtain rfl := oi h
    refine WP.ret (Out.one rfl S rfl ?_)
    exact rfl
   ·refine WP.condF rfl hc4<|WP.s<|WP.g<|WL.m (byt p_c) rfl<|WL.w (R.eql8 (a := p_c) (b := 34) rfl rfl)<|WL.a (boo (p_c == 34)) rfl<|WL.e ?_
    rcases condE h with ⟨hc5, h⟩ | ⟨hc5, h⟩
    ·refine WP.condT rfl hc5<|WP.s<|WP.g<|WL.m (int p_state) rfl<|WL.w (R.sub rfl rfl)<|WL.a (int (wr (1 - p_state))) rfl<|WL.e ?_
     obtain rfl := oi h
     refine WP.ret (Out.one rfl S rfl ?_)
     exact rfl
    ·refine WP.condF rfl hc5<|WP.skip<|WP.s<|WP.g<|WL.m (int p_state) rfl<|WL.a (int p_state) rfl<|WL.e ?_
     obtain rfl := oi h
     refine WP.ret (Out.one rfl S rfl ?_)
     exact rfl
theorem strings_trimRightByte_ok {w0 : World} {H0 : Hp} (hw : Holds w0 H0) (hG : Tryz.Gl w0) (p_s : Str) (p_c : UInt8) {r : Str} (h : strings_trimRightByte p_s p_c = some r) :
  Con Tryz.prog 231 [(str p_s), (byt p_c)] w0 H0 (fun H' v => v = (str r)) := by
 refine Con.mk (N := 23) Tryz.func231 rfl rfl (by kernel_rfl) rfl ?_
 have S := St.start hw
 refine WP.s<|WP.g<|WL.a (str []) rfl<|WL.e<|WP.s ?_
 obtain ⟨s_6, hr12, h⟩ := bindE h
 refine WP.cut (fun f w => ∃ (H5 : Hp), f 0 = (str s_6) ∧ St w0 H0 w H5 []) ?_ ?_
 ·refine WP.block ?_
  refine WP.loopM (strings_trimRightByte_L0 p_c) (fun s f w => match s with | s_2 => ∃ (H1 : Hp), f 0 = (str s_2) ∧ f 1 = (byt p_c) ∧ St w0 H0 w H1 []) p_s s_6 hr12 ?_ ?_
  ·exact ⟨H0, rfl, rfl, S⟩
  ·intro s_2 f w hI y8 hy9 hy10
   obtain ⟨H1, h3, h4, S⟩ := hI
   refine WP.s<|WP.s<|WP.g<|WL.m (str s_2) h3<|WL.w (R.lenS (a := s_2) rfl Tryz.underlying9)<|WL.w (R.gtr rfl rfl)<|WL.m (boo (decide (0 < (s_2.length : Int)))) rfl ?_
   obtain ⟨b16, hg14, hy9⟩ := bindE hy9
   refine WL.grp 8 [9, 10, 11, 12, 13, 14, 15] 16 (boo b16) ?_ ?_
   ·rcases boolE (decide (0 < (s_2.length : Int))) with hb13 | hb13
    ·replace hg14 := condT hg14 hb13
     refine WL.y rfl rfl hb13<|WL.m (str s_2) h3<|WL.y rfl rfl hb13<|WL.m (str s_2) h3<|WL.y rfl rfl hb13<|WL.w (R.lenS (a := s_2) rfl Tryz.underlying9)<|WL.y rfl rfl hb13<|WL.w (R.sub rfl rfl)<|WL.y rfl rfl hb13 ?_
     obtain ⟨c15, hc15, hg14⟩ := bindE hg14
     refine WL.w (R.idxS rfl rfl Tryz.underlying9 hc15)<|WL.y rfl rfl hb13<|WL.m (byt p_c) h4<|WL.y rfl rfl hb13<|WL.w (R.eql8 (a := c15) (b := p_c) rfl rfl)<|WL.w (R.pickT rfl hb13 rfl) ?_
     exact WL.e ⟨(congrArg boo (oi hg14)), ag, rfl⟩
    ·replace hg14 := condF hg14 hb13
     refine WL.n rfl rfl hb13<|WL.n rfl rfl hb13<|WL.n rfl rfl hb13<|WL.n rfl rfl hb13<|WL.n rfl rfl hb13<|WL.n rfl rfl hb13<|WL.n rfl rfl hb13<|WL.w (R.pickF rfl hb13 rfl) ?_
     exact WL.e ⟨(congrArg boo (oi hg14)), ag, rfl⟩
   ·intro us
    refine WL.e ?_
    rcases condE hy9 with ⟨hc17, hy9⟩ | ⟨hc17, hy9⟩
    ·refine WP.condT rfl hc17<|WP.skip<|WP.block<|WP.g<|WL.m (str s_2) h3<|WL.m (str s_2) h3<|WL.w (R.lenS (a := s_2) rfl Tryz.underlying9)<|WL.w (R.sub rfl rfl) ?_
     obtain ⟨s18, hs18, hy9⟩ := bindE hy9
     refine WL.w (R.subShi rfl rfl Tryz.underlying9 hs18)<|WL.a (str s18) rfl<|WL.e ?_
     obtain rfl := oi hy9
     exact ⟨rfl, ⟨H1, rfl, h4, S⟩⟩
    ·refine WP.condF rfl hc17<|WP.exit ?_
     obtain rfl := oi hy9
     obtain rfl := hy10
     exact ⟨H1, h3, S⟩
 ·rintro f w ⟨H5, h7, S⟩
  refine WP.s<|WP.g<|WL.m (str s_6) h7<|WL.a (str s_6) rfl<|WL.e ?_
  obtain rfl := oi h
  refine WP.ret (Out.one rfl S rfl ?_)
  exact rfl
theorem strings_trimLeftByte_ok {w0 : World} {H0 : Hp} (hw : Holds w0 H0) (hG : Tryz.Gl w0) (p_s : Str) (p_c : UInt8) {r : Str} (h : strings_trimLeftByte p_s p_c = some r) :
  Con Tryz.prog 173 [(str p_s), (byt p_c)] w0 H0 (fun H' v => v = (str r)) := by
 refine Con.mk (N := 17) Tryz.func173 rfl rfl (by kernel_rfl) rfl ?_
 have S := St.start hw
 refine WP.s<|WP.g<|WL.a (str []) rfl<|WL.e<|WP.s ?_
 obtain ⟨s_6, hr12, h⟩ := bindE h
 refine WP.cut (fun f w => ∃ (H5 : Hp), f 0 = (str s_6) ∧ St w0 H0 w H5 []) ?_ ?_
 ·refine WP.block ?_
  refine WP.loopM (strings_trimLeftByte_L0 p_c) (fun s f w => match s with | s_2 => ∃ (H1 : Hp), f 0 = (str s_2) ∧ f 1 = (byt p_c) ∧ St w0 H0 w H1 []) p_s s_6 hr12 ?_ ?_
  ·exact ⟨H0, rfl, rfl, S⟩
  ·intro s_2 f w hI y8 hy9 hy10
   obtain ⟨H1, h3, h4, S⟩ := hI
   refine WP.s<|WP.s<|WP.g<|WL.m (str s_2) h3<|WL.w (R.lenS (a := s_2) rfl Tryz.underlying9)<|WL.w (R.gtr rfl rfl)<|WL.m (boo (decide (0 < (s_2.length : Int)))) rfl ?_
   obtain ⟨b16, hg14, hy9⟩ := bindE hy9
   refine WL.grp 5 [9, 10, 11, 12] 13 (boo b16) ?_ ?_
   ·rcases boolE (decide (0 < (s_2.length : Int))) with hb13 | hb13
    ·replace hg14 := condT hg14 hb13
     refine WL.y rfl rfl hb13<|WL.m (str s_2) h3<|WL.y rfl rfl hb13 ?_
     obtain ⟨c15, hc15, hg14⟩ := bindE hg14
     refine WL.w (R.idxS rfl rfl Tryz.underlying9 hc15)<|WL.y rfl rfl hb13<|WL.m (byt p_c) h4<|WL.y rfl rfl hb13<|WL.w (R.eql8 (a := c15) (b := p_c) rfl rfl)<|WL.w (R.pickT rfl hb13 rfl) ?_
     exact WL.e ⟨(congrArg boo (oi hg14)), ag, rfl⟩
    ·replace hg14 := condF hg14 hb13
     refine WL.n rfl rfl hb13<|WL.n rfl rfl hb13<|WL.n rfl rfl hb13<|WL.n rfl rfl hb13<|WL.w (R.pickF rfl hb13 rfl) ?_
     exact WL.e ⟨(congrArg boo (oi hg14)), ag, rfl⟩
   ·intro us
    refine WL.e ?_
    rcases condE hy9 with ⟨hc17, hy9⟩ | ⟨hc17, hy9⟩
    ·refine WP.condT rfl hc17<|WP.skip<|WP.block<|WP.g<|WL.m (str s_2) h3 ?_
     obtain ⟨s18, hs18, hy9⟩ := bindE hy9
     refine WL.w (R.subSlo rfl rfl Tryz.underlying9 hs18)<|WL.a (str s18) rfl<|WL.e ?_
     obtain rfl := oi hy9
     exact ⟨rfl, ⟨H1, rfl, h4, S⟩⟩
    ·refine WP.condF rfl hc17<|WP.exit ?_
     obtain rfl := oi hy9
     obtain rfl := hy10
     exact ⟨H1, h3, S⟩
 ·rintro f w ⟨H5, h7, S⟩
  refine WP.s<|WP.g<|WL.m (str s_6) h7<|WL.a (str s_6) rfl<|WL.e ?_
  obtain rfl := oi h
  refine WP.ret (Out.one rfl S rfl ?_)
  exact rfl
theorem strings_trimRightASCII_ok {w0 : World} {H0 : Hp} (hw : Holds w0 H0) (hG : Tryz.Gl w0) (p_s : Str) (p_as : Str) {bp_as : Nat} (Ap_as : At H0 ⟨bp_as, 0, none⟩ (setc p_as)) {r : Str} (h : strings_trimRightASCII p_s p_as = some r) :
  Con Tryz.prog 232 [(str p_s), (ptr bp_as 0)] w0 H0 (fun H' v => v = (str r)) := by
 refine Con.mk (N := 22) Tryz.func232 rfl rfl (by kernel_rfl) rfl ?_
 have S := St.start hw
 refine WP.s<|WP.g<|WL.a (str []) rfl<|WL.e<|WP.s ?_
 obtain ⟨s_6, hr12, h⟩ := bindE h
 refine WP.cut (fun f w => ∃ (H5 : Hp), f 0 = (str s_6) ∧ St w0 H0 w H5 []) ?_ ?_
 ·refine WP.block ?_
  refine WP.loopM (strings_trimRightASCII_L0 p_as) (fun s f w => match s with | s_2 => ∃ (H1 : Hp), f 0 = (str s_2) ∧ f 1 = (ptr bp_as 0) ∧ At H1 ⟨bp_as, 0, none⟩ (setc p_as) ∧ St w0 H0 w H1 []) p_s s_6 hr12 ?_ ?_
  ·exact ⟨H0, rfl, rfl, Ap_as, S⟩
  ·intro s_2 f w hI y8 hy9 hy10
   obtain ⟨H1, h3, h4, Ap_as, S⟩ := hI
   refine WP.s<|WP.s<|WP.g<|WL.m (str s_2) h3<|WL.w (R.lenS (a := s_2) rfl Tryz.underlying9)<|WL.w (R.gtr rfl rfl)<|WL.e ?_
   rcases condE hy9 with ⟨hc13, hy9⟩ | ⟨hc13, hy9⟩
   ·refine WP.condT rfl hc13<|WP.skip<|WP.block<|WP.s<|WP.s<|WP.g<|WL.m (ptr bp_as 0) h4<|WL.m (str s_2) h3<|WL.m (str s_2) h3<|WL.w (R.lenS (a := s_2) rfl Tryz.underlying9)<|WL.w (R.sub rfl rfl) ?_
    obtain ⟨c14, hc14, hy9⟩ := bindE hy9
    refine WL.w (R.idxS rfl rfl Tryz.underlying9 hc14) ?_
    obtain ⟨r15, hr15, hy9⟩ := bindE hy9
    refine W.call S rfl (strings_asciiSet_contains_ok S.holds p_as c14 Ap_as hr15) ?_
    rintro v16 w17 H18 hle19 S rfl
    have Ap_as := At.mono Ap_as hle19 (by intro h; have := congrArg List.length h; rw [setc_len] at this; cases this)
    refine WL.w (R.not rfl)<|WL.e ?_
    rcases condE hy9 with ⟨hc20, hy9⟩ | ⟨hc20, hy9⟩
    ·refine WP.condT rfl hc20<|WP.exit ?_
     obtain rfl := oi hy9
     obtain rfl := hy10
     exact ⟨H18, h3, S⟩
    ·refine WP.condF rfl hc20<|WP.skip<|WP.g<|WL.m (str s_2) h3<|WL.m (str s_2) h3<|WL.w (R.lenS (a := s_2) rfl Tryz.underlying9)<|WL.w (R.sub rfl rfl) ?_
     obtain ⟨s21, hs21, hy9⟩ := bindE hy9
     refine WL.w (R.subShi rfl rfl Tryz.underlying9 hs21)<|WL.a (str s21) rfl<|WL.e ?_
     obtain rfl := oi hy9
     exact ⟨rfl, ⟨H18, rfl, h4, Ap_as, S⟩⟩
   ·refine WP.condF rfl hc13<|WP.exit ?_
    obtain rfl := oi hy9
    obtain rfl := hy10
    exact ⟨H1, h3, S⟩
 ·rintro f w ⟨H5, h7, S⟩
  refine WP.s<|WP.g<|WL.m (str s_6) h7<|WL.a (str s_6) rfl<|WL.e ?_
  obtain rfl := oi h
  refine WP.ret (Out.one rfl S rfl ?_)
  exact rfl
theorem strings_trimLeftASCII_ok {w0 : World} {H0 : Hp} (hw : Holds w0 H0) (hG : Tryz.Gl w0) (p_s : Str) (p_as : Str) {bp_as : Nat} (Ap_as : At H0 ⟨bp_as, 0, none⟩ (setc p_as)) {r : Str} (h : strings_trimLeftASCII p_s p_as = some r) :
  Con Tryz.prog 175 [(str p_s), (ptr bp_as 0)] w0 H0 (fun H' v => v = (str r)) := by
 refine Con.mk (N := 16) Tryz.func175 rfl rfl (by kernel_rfl) rfl ?_
 have S := St.start hw
 refine WP.s<|WP.g<|WL.a (str []) rfl<|WL.e<|WP.s ?_
 obtain ⟨s_6, hr12, h⟩ := bindE h
 refine WP.cut (fun f w => ∃ (H5 : Hp), f 0 = (str s_6) ∧ St w0 H0 w H5 []) ?_ ?_
 ·refine WP.block ?_
  refine WP.loopM (strings_trimLeftASCII_L0 p_as) (fun s f w => match s with | s_2 => ∃ (H1 : Hp), f 0 = (str s_2) ∧ f 1 = (ptr bp_as 0) ∧ At H1 ⟨bp_as, 0, none⟩ (setc p_as) ∧ St w0 H0 w H1 []) p_s s_6 hr12 ?_ ?_
  ·exact ⟨H0, rfl, rfl, Ap_as, S⟩
  ·intro s_2 f w hI y8 hy9 hy10
   obtain ⟨H1, h3, h4, Ap_as, S⟩ := hI
   refine WP.s<|WP.s<|WP.g<|WL.m (str s_2) h3<|WL.w (R.lenS (a := s_2) rfl Tryz.underlying9)<|WL.w (R.gtr rfl rfl)<|WL.e ?_
   rcases condE hy9 with ⟨hc13, hy9⟩ | ⟨hc13, hy9⟩
   ·refine WP.condT rfl hc13<|WP.skip<|WP.block<|WP.s<|WP.s<|WP.g<|WL.m (ptr bp_as 0) h4<|WL.m (str s_2) h3 ?_
    obtain ⟨c14, hc14, hy9⟩ := bindE hy9
    refine WL.w (R.idxS rfl rfl Tryz.underlying9 hc14) ?_
    obtain ⟨r15, hr15, hy9⟩ := bindE hy9
    refine W.call S rfl (strings_asciiSet_contains_ok S.holds p_as c14 Ap_as hr15) ?_
    rintro v16 w17 H18 hle19 S rfl
    have Ap_as := At.mono Ap_as hle19 (by intro h; have := congrArg List.length h; rw [setc_len] at this; cases this)
    refine WL.w (R.not rfl)<|WL.e ?_
    rcases condE hy9 with ⟨hc20, hy9⟩ | ⟨hc20, hy9⟩
    ·refine WP.condT rfl hc20<|WP.exit ?_
     obtain rfl := oi hy9
     obtain rfl := hy10
     exact ⟨H18, h3, S⟩
    ·refine WP.condF rfl hc20<|WP.skip<|WP.g<|WL.m (str s_2) h3 ?_
     obtain ⟨s21, hs21, hy9⟩ := bindE hy9
     refine WL.w (R.subSlo rfl rfl Tryz.underlying9 hs21)<|WL.a (str s21) rfl<|WL.e ?_
     obtain rfl := oi hy9
     exact ⟨rfl, ⟨H18, rfl, h4, Ap_as, S⟩⟩
   ·refine WP.condF rfl hc13<|WP.exit ?_
    obtain rfl := oi hy9
    obtain rfl := hy10
    exact ⟨H1, h3, S⟩
 ·rintro f w ⟨H5, h7, S⟩
  refine WP.s<|WP.g<|WL.m (str s_6) h7<|WL.a (str s_6) rfl<|WL.e ?_
  obtain rfl := oi h
  refine WP.ret (Out.one rfl S rfl ?_)
  exact rfl
theorem strings_Trim_ok {w0 : World} {H0 : Hp} (hw : Holds w0 H0) (hG : Tryz.Gl w0) (p_s : Str) (p_cutset : Str) {r : Str} (h : strings_Trim p_s p_cutset = some r) :
  Con Tryz.prog 201 [(str p_s), (str p_cutset)] w0 H0 (fun H' v => v = (str r)) := by
 refine Con.mk (N := 43) Tryz.func201 rfl rfl (by kernel_rfl) rfl ?_
 have S := St.start hw
 refine WP.s<|WP.g<|WL.a (str []) rfl<|WL.e<|WP.s<|WP.s<|WP.g<|WL.m (str p_s) rfl<|WL.w (R.eqlS (a := p_s) (b := []) rfl rfl)<|WL.m (boo (p_s == [])) rfl ?_
 refine WL.grp 3 [10, 11] 12 (boo ((p_s == []) || (p_cutset == []))) ?_ ?_
 ·rcases boolE (p_s == []) with hb1 | hb1
  ·refine WL.n rfl rfl hb1<|WL.n rfl rfl hb1<|WL.w (R.pickT rfl hb1 rfl) ?_
   exact WL.e ⟨(orT hb1), ag, rfl⟩
  ·refine WL.y rfl rfl hb1<|WL.m (str p_cutset) rfl<|WL.y rfl rfl hb1<|WL.w (R.eqlS (a := p_cutset) (b := []) rfl rfl)<|WL.w (R.pickF rfl hb1 rfl) ?_
   exact WL.e ⟨(orF hb1), ag, rfl⟩
 ·intro us
  refine WL.e ?_
  rcases condE h with ⟨hc3, h⟩ | ⟨hc3, h⟩
  ·refine WP.condT rfl hc3<|WP.s<|WP.g<|WL.m (str p_s) rfl<|WL.a (str p_s) rfl<|WL.e ?_
   obtain rfl := oi h
   refine WP.ret (Out.one rfl S rfl ?_)
   exact rfl
  ·refine WP.condF rfl hc3<|WP.skip<|WP.s<|WP.s<|WP.g<|WL.m (str p_cutset) rfl<|WL.w (R.lenS (a := p_cutset) rfl Tryz.underlying9)<|WL.w (R.eql rfl rfl)<|WL.m (boo ((p_cutset.length : Int) == 1)) rfl ?_
   obtain ⟨b7, hg5, h⟩ := bindE h
   refine WL.grp 4 [18, 19, 20] 21 (boo b7) ?_ ?_
   ·rcases boolE ((p_cutset.length : Int) == 1) with hb4 | hb4
    ·replace hg5 := condT hg5 hb4
     refine WL.y rfl rfl hb4<|WL.m (str p_cutset) rfl<|WL.y rfl rfl hb4 ?_
     obtain ⟨c6, hc6, hg5⟩ := bindE hg5
     refine WL.w (R.idxS rfl rfl Tryz.underlying9 hc6)<|WL.y rfl rfl hb4<|WL.w (R.lss8 (a := c6) (b := 128) rfl rfl)<|WL.w (R.pickT rfl hb4 rfl) ?_
     exact WL.e ⟨(congrArg boo (oi hg5)), ag, rfl⟩
    ·replace hg5 := condF hg5 hb4
     refine WL.n rfl rfl hb4<|WL.n rfl rfl hb4<|WL.n rfl rfl hb4<|WL.w (R.pickF rfl hb4 rfl) ?_
     exact WL.e ⟨(congrArg boo (oi hg5)), ag, rfl⟩
   ·intro us
    refine WL.e ?_
    rcases condE h with ⟨hc8, h⟩ | ⟨hc8, h⟩
    ·refine WP.condT rfl hc8<|WP.s<|WP.quiet S (by kernel_rfl) (by kernel_rfl)<|WQ.val (fun _ _ => (R.mv (v := str p_s) rfl))<|WQ.val (fun _ _ => (R.mv (v := str p_cutset) rfl)) ?_
     obtain ⟨c12, hc12, h⟩ := bindE h
     refine WQ.val (fun _ _ => (R.idxS rfl rfl Tryz.underlying9 hc12)) ?_
     obtain ⟨r13, hr13, h⟩ := bindE h
     refine WQ.call (v := str r13) rfl (fun w H' hq S => strings_trimRightByte_ok S.holds (hG.post S.post) p_s c12 hr13)<|WQ.val (fun _ _ => (R.mv (v := str p_cutset) rfl)) ?_
     obtain ⟨c18, hc18, h⟩ := bindE h
     refine WQ.val (fun _ _ => (R.idxS rfl rfl Tryz.underlying9 hc18)) ?_
     obtain ⟨r19, hr19, h⟩ := bindE h
     refine WQ.call (v := str r19) rfl (fun w H' hq S => strings_trimLeftByte_ok S.holds (hG.post S.post) r13 c18 hr19)<|WQ.val (fun _ _ => (R.as (v := str r19) rfl))<|WQ.nil ?_
     intro w9 H10 hle11 S
     obtain rfl := oi h
     refine WP.ret (Out.one rfl S rfl ?_)
     exact rfl
    ·refine WP.condF rfl hc8<|WP.skip<|WP.s<|WP.s<|WP.g<|WL.m (str p_cutset) rfl ?_
     obtain ⟨r24, hr24, h⟩ := bindE h
     refine W.call S rfl (strings_makeASCIISet_ok S.holds p_cutset hr24) ?_
     rintro v25 w26 H27 hle28 S rfl
     refine WL.m (.tuple ⟨[(.agg (Lib.setCells p_cutset)), (boo true)]⟩) rfl<|WL.w (R.ext rfl rfl)<|WL.w (R.ext rfl rfl)<|W.alloc (List.replicate 256 (boo false)) S zer170 ?_
     intro b29 w30 S
     refine W.store (i := 0) (setc p_cutset) S rfl rfl rfl lay170 (show (Lib.setCells p_cutset).size = 256 by have := setc_len p_cutset; simpa [setc] using this) (setc_one p_cutset) (Nat.le_of_eq (by rw [List.length_replicate])) (splice_all ((setc_len p_cutset).trans (by rw [List.length_replicate]))) ?_
     intro w31 S
     obtain ⟨H32, hle33, hs34, _, S⟩ := S.settle (i := 0) rfl
     replace S : St w0 H0 _ H32 [] := S
     have hA35 : At H32 ⟨b29, 0, none⟩ (setc p_cutset) := ⟨_, _, rfl, hs34, [], by simp⟩
     refine WL.a (boo true) rfl<|WL.e<|WP.s<|WP.g<|WL.m (boo true) rfl<|WL.e<|WP.condT (b := true) rfl rfl<|WP.s<|WP.g<|WL.m (str p_s) rfl ?_
     obtain ⟨r36, hr36, h⟩ := bindE h
     refine W.call S rfl (strings_trimRightASCII_ok S.holds (hG.post S.post) p_s p_cutset hA35 hr36) ?_
     rintro v37 w38 H39 hle40 S rfl
     have hA35 := At.mono hA35 hle40 (by intro h; have := congrArg List.length h; rw [setc_len] at this; cases this)
     obtain ⟨r41, hr41, h⟩ := bindE h
     refine W.call S rfl (strings_trimLeftASCII_ok S.holds (hG.post S.post) r36 p_cutset hA35 hr41) ?_
     rintro v42 w43 H44 hle45 S rfl
     refine WL.a (str r41) rfl<|WL.e ?_
     obtain rfl := oi h
     refine WP.ret (Out.one rfl S rfl ?_)
     exact rfl
theorem ascii_Trim_ok {w0 : World} {H0 : Hp} (hw : Holds w0 H0) (hG : Tryz.Gl w0) (p_s : Str) {r : Str} (h : ascii_Trim p_s = some r) :
  Con Tryz.prog 168 [(str p_s)] w0 H0 (fun H' v => v = (str r)) := by
 refine Con.mk (N := 5) Tryz.func168 rfl rfl (by kernel_rfl) rfl ?_
 have S := St.start hw
 refine WP.s<|WP.g<|WL.a (str []) rfl<|WL.e<|WP.s<|WP.g<|WL.m (str p_s) rfl ?_
 obtain ⟨r1, hr1, h⟩ := bindE h
 refine W.call S rfl (strings_Trim_ok S.holds (hG.post S.post) p_s [32, 9] hr1) ?_
 rintro v2 w3 H4 hle5 S rfl
 refine WL.a (str r1) rfl<|WL.e ?_
 obtain rfl := oi h
 refine WP.ret (Out.one rfl S rfl ?_)
 exact rfl
theorem list_Split_ok {w0 : World} {H0 : Hp} (hw : Holds w0 H0) (hG : Tryz.Gl w0) (p_value : Str) {r : (List Str)} (h : list_Split p_value = some r) :
  Con Tryz.prog 127 [(str p_value)] w0 H0 (fun H' v => Sl (α := Str) H' v r) := by
 refine Con.mk (N := 52) Tryz.func127 rfl rfl (by kernel_rfl) rfl ?_
 have S := St.start hw
 refine WP.s<|WP.g<|WL.a (.slice none 0 0) rfl<|WL.e<|WP.s<|WP.g<|WL.a (.slice none 0 0) rfl<|WL.e<|WP.s<|WP.g<|WL.a (int 0) rfl<|WL.a (int 0) rfl ?_
 refine WL.e<|WP.s<|WP.s<|WP.g<|WL.a (int 0) rfl<|WL.e ?_
 have S := S.addNil 9 1
 obtain ⟨out_14, hr22, h⟩ := bindE h
 refine WP.cut (fun f w => ∃ (H13 : Hp) (v15 : Value), f 3 = v15 ∧ Sl (α := Str) H13 v15 out_14 ∧ St w0 H0 w H13 [.row v15 9 1 out_14.length]) ?_ ?_
 ·refine WP.block ?_
  refine WP.loopM (list_Split_L0 p_value) (fun s f w => match s with | (out_3, state_7, from_9, i_11) => ∃ (H1 : Hp) (v4 : Value), f 0 = (str p_value) ∧ f 3 = v4 ∧ f 4 = (int state_7) ∧ f 5 = (int from_9) ∧ f 6 = (int i_11) ∧ Sl (α := Str) H1 v4 out_3 ∧ St w0 H0 w H1 [.row v4 9 1 out_3.length]) (([] : List Str), 0, 0, 0) out_14 hr22 ?_ ?_
  ·exact ⟨H0, .slice none 0 0, rfl, rfl, rfl, rfl, rfl, Sl.nil, S⟩
  ·intro s f w hI y18 hy19 hy20
   obtain ⟨out_3, state_7, from_9, i_11⟩ := s
   obtain ⟨H1, v4, h2, h6, h8, h10, h12, R5, S⟩ := hI
   refine WP.s<|WP.s<|WP.g<|WL.m (int i_11) h12<|WL.m (str p_value) h2<|WL.w (R.lenS (a := p_value) rfl Tryz.underlying9)<|WL.w (R.leq rfl rfl)<|WL.m (boo (decide (i_11 ≤ (p_value.length : Int)))) rfl ?_
   refine WL.grp 4 [13, 14, 15] 16 (boo ((decide (i_11 ≤ (p_value.length : Int))) && (decide ((out_3.length : Int) < 64)))) ?_ ?_
   ·rcases boolE (decide (i_11 ≤ (p_value.length : Int))) with hb23 | hb23
    ·refine WL.y rfl rfl hb23<|WL.m (v4) h6<|WL.y rfl rfl hb23<|WL.w (R.lenL (α := Str) (xs := out_3) (H := H1) R5 rfl Tryz.underlying23)<|WL.y rfl rfl hb23<|WL.w (R.lss rfl rfl)<|WL.w (R.pickT rfl hb23 rfl) ?_
     exact WL.e ⟨(andT hb23), ag, rfl⟩
    ·refine WL.n rfl rfl hb23<|WL.n rfl rfl hb23<|WL.n rfl rfl hb23<|WL.w (R.pickF rfl hb23 rfl) ?_
     exact WL.e ⟨(andF hb23), ag, rfl⟩
   ·intro us
    refine WL.e ?_
    rcases condE hy19 with ⟨hc25, hy19⟩ | ⟨hc25, hy19⟩
    ·refine WP.condT rfl hc25<|WP.skip<|WP.s<|WP.block<|WP.s<|WP.s<|WP.g<|WL.m (int i_11) h12<|WL.m (str p_value) h2<|WL.w (R.lenS (a := p_value) rfl Tryz.underlying9)<|WL.w (R.lss rfl rfl)<|WL.m (boo (decide (i_11 < (p_value.length : Int)))) rfl ?_
     obtain ⟨b32, hg27, hy19⟩ := bindE hy19
     refine WL.grp 9 [24, 25, 26, 27, 28, 29, 30, 31] 32 (boo b32) ?_ ?_
     ·rcases boolE (decide (i_11 < (p_value.length : Int))) with hb26 | hb26
      ·replace hg27 := condT hg27 hb26
       refine WL.y rfl rfl hb26<|WL.m (int state_7) h8<|WL.y rfl rfl hb26<|WL.w (R.neq rfl rfl)<|WL.y rfl rfl hb26<|WL.m (boo (state_7 != 0)) rfl ?_
       obtain ⟨b31, hg29, hg27⟩ := bindE hg27
       refine WL.grp 5 [27, 28, 29, 30] 31 (boo b31) ?_ ?_
       ·rcases boolE (state_7 != 0) with hb28 | hb28
        ·replace hg29 := condT hg29 hb28
         refine WL.n rfl rfl hb28<|WL.n rfl rfl hb28<|WL.n rfl rfl hb28<|WL.n rfl rfl hb28<|WL.y rfl rfl hb26<|WL.w (R.pickT rfl hb28 rfl) ?_
         exact WL.e ⟨(congrArg boo (oi hg29)), ag, rfl⟩
        ·replace hg29 := condF hg29 hb28
         refine WL.y rfl rfl hb28<|WL.m (str p_value) h2<|WL.y rfl rfl hb28<|WL.m (int i_11) h12<|WL.y rfl rfl hb28 ?_
         obtain ⟨c30, hc30, hg29⟩ := bindE hg29
         refine WL.w (R.idxS rfl rfl Tryz.underlying9 hc30)<|WL.y rfl rfl hb28<|WL.w (R.neq8 (a := c30) (b := 44) rfl rfl)<|WL.y rfl rfl hb26<|WL.w (R.pickF rfl hb28 rfl) ?_
         exact WL.e ⟨(congrArg boo (oi hg29)), ag, rfl⟩
       ·intro us
        refine WL.w (R.pickT rfl hb26 rfl) ?_
        exact WL.e ⟨(congrArg boo (oi hg27)), ag, rfl⟩
      ·replace hg27 := condF hg27 hb26
       refine WL.n rfl rfl hb26<|WL.n rfl rfl hb26<|WL.n rfl rfl hb26<|WL.gund rfl rfl<|WL.gund rfl rfl<|WL.gund rfl rfl<|WL.gund rfl rfl<|WL.n rfl rfl hb26<|WL.w (R.pickF rfl hb26 rfl) ?_
       exact WL.e ⟨(congrArg boo (oi hg27)), ag, rfl⟩
     ·intro us
      refine WL.e ?_
      rcases condE hy19 with ⟨hc33, hy19⟩ | ⟨hc33, hy19⟩
      ·refine WP.condT rfl hc33<|WP.s<|WP.g<|WL.m (int state_7) h8<|WL.m (str p_value) h2<|WL.m (int i_11) h12 ?_
       obtain ⟨c34, hc34, hy19⟩ := bindE hy19
       refine WL.w (R.idxS rfl rfl Tryz.underlying9 hc34) ?_
       obtain ⟨r35, hr35, hy19⟩ := bindE hy19
       refine W.call S rfl (list_step_ok S.holds (hG.post S.post) state_7 c34 hr35) ?_
       rintro v36 w37 H38 hle39 S rfl
       have R5 := Sl.mono R5 hle39
       refine WL.a (int r35) rfl<|WL.e<|WP.exit<|WP.g<|WL.m (int i_11) h12<|WL.w (R.add rfl rfl)<|WL.a (int (wr (i_11 + 1))) rfl<|WL.e ?_
       obtain rfl := oi hy19
       exact ⟨rfl, ⟨H38, v4, h2, h6, rfl, h10, rfl, R5, S⟩⟩
      ·refine WP.condF rfl hc33<|WP.skip<|WP.s<|WP.s<|WP.g<|WL.m (str p_value) h2<|WL.m (int from_9) h10<|WL.m (int i_11) h12 ?_
       obtain ⟨s40, hs40, hy19⟩ := bindE hy19
       refine WL.w (R.subS rfl rfl rfl Tryz.underlying9 hs40) ?_
       obtain ⟨r41, hr41, hy19⟩ := bindE hy19
       refine W.call S rfl (ascii_Trim_ok S.holds (hG.post S.post) s40 hr41) ?_
       rintro v42 w43 H44 hle45 S rfl
       have R5 := Sl.mono R5 hle45
       refine WL.a (str r41) rfl<|WL.e<|WP.s<|WP.g<|WL.m (str r41) rfl<|WL.w (R.neqS (a := r41) (b := []) rfl rfl)<|WL.e ?_
       rcases condE hy19 with ⟨hc46, hy19⟩ | ⟨hc46, hy19⟩
       ·refine WP.condT rfl hc46<|WP.g<|WL.m (v4) h6<|WL.m (str r41) rfl<|W.bslice (α := Str) [(str r41)] ([r41] : List Str) S el23 rfl rfl rfl (by decide) (Go.Eng.encS ⟨rfl, rfl⟩ enc0) ?_
        intro u47 w48 H49 hle50 R51 S
        have R5 := Sl.mono R5 hle50
        obtain ⟨l52, hl52, hy19⟩ := bindE hy19
        refine W.app (α := Str) (i := 1) S el23 rfl rfl rfl R5 R51 hl52 ?_
        intro v53 w54 H55 hle56 R57 S
        have R5 := Sl.mono R5 hle56
        refine WL.a (v53) rfl<|WL.e<|WP.g<|WL.m (int i_11) h12<|WL.w (R.add rfl rfl)<|WL.a (int (wr (i_11 + 1))) rfl<|WL.e<|WP.g<|WL.m (int i_11) h12<|WL.w (R.add rfl rfl)<|WL.a (int (wr (i_11 + 1))) rfl<|WL.e ?_
        obtain rfl := oi hy19
        exact ⟨rfl, ⟨H55, v53, h2, rfl, h8, rfl, rfl, R57, (S.drop _ (.cons _ (.cons_cons _ .slnil)))⟩⟩
       ·refine WP.condF rfl hc46<|WP.skip<|WP.g<|WL.m (int i_11) h12<|WL.w (R.add rfl rfl)<|WL.a (int (wr (i_11 + 1))) rfl<|WL.e<|WP.g<|WL.m (int i_11) h12<|WL.w (R.add rfl rfl)<|WL.a (int (wr (i_11 + 1))) rfl<|WL.e ?_
        obtain rfl := oi hy19
        exact ⟨rfl, ⟨H44, v4, h2, h6, h8, rfl, rfl, R5, S⟩⟩
    ·refine WP.condF rfl hc25<|WP.exit ?_
     obtain rfl := oi hy19
     obtain rfl := hy20
     exact ⟨H1, v4, h6, R5, S⟩
 ·rintro f w ⟨H13, v15, h17, R16, S⟩
  refine WP.s<|WP.g<|WL.m (v15) h17<|WL.a (v15) rfl<|WL.e ?_
  obtain rfl := oi h
  refine WP.ret (Out.one rfl S rfl ?_)
  exact R16
theorem list_All_ok {w0 : World} {H0 : Hp} (hw : Holds w0 H0) (hG : Tryz.Gl w0) (p_l : (List GField)) (p_name : Str) {vp_l : Value} (Rp_l : Sl (α := GField) H0 vp_l p_l) {r : (List Str)} (h : list_All p_l p_name = some r) :
  Con Tryz.prog 82 [vp_l, (str p_name)] w0 H0 (fun H' v => Sl (α := Str) H' v r) := by
 refine Con.mk (N := 26) Tryz.func82 rfl rfl (by kernel_rfl) rfl ?_
 have S := St.start hw
 refine WP.s<|WP.g<|WL.a (.slice none 0 0) rfl<|WL.e<|WP.s<|WP.g<|WL.a (.slice none 0 0) rfl<|WL.e<|WP.s<|WP.s<|WP.g<|WL.m (vp_l) rfl ?_
 refine WL.m (str p_name) rfl ?_
 obtain ⟨r1, hr1, h⟩ := bindE h
 refine W.call S rfl (fieldline_Get_ok S.holds (hG.post S.post) p_l p_name Rp_l hr1) ?_
 rintro v2 w3 H4 hle5 S R6
 refine WL.w (R.lenL (α := Str) (xs := r1) (H := H4) R6 rfl Tryz.underlying23)<|WL.m (int 0) rfl<|WL.e ?_
 have S := S.addNil 9 1
 obtain ⟨out_17, hr25, h⟩ := bindE h
 refine WP.cut (fun f w => ∃ (H16 : Hp) (v18 : Value), f 5 = v18 ∧ Sl (α := Str) H16 v18 out_17 ∧ St w0 H0 w H16 [.row v18 9 1 out_17.length]) ?_ ?_
 ·refine WP.block ?_
  refine WP.loopM (list_All_L0 r1) (fun s f w => match s with | (out_8, y_14) => ∃ (H7 : Hp) (v9 : Value), f 5 = v9 ∧ f 10 = v2 ∧ f 11 = (int (r1.length : Int)) ∧ f 12 = (int y_14) ∧ Sl (α := Str) H7 v9 out_8 ∧ Sl (α := Str) H7 v2 r1 ∧ St w0 H0 w H7 [.row v9 9 1 out_8.length]) (([] : List Str), 0) out_17 hr25 ?_ ?_
  ·exact ⟨H4, .slice none 0 0, rfl, rfl, rfl, rfl, Sl.nil, R6, S⟩
  ·intro s f w hI y21 hy22 hy23
   obtain ⟨out_8, y_14⟩ := s
   obtain ⟨H7, v9, h11, h12, h13, h15, R10, R6, S⟩ := hI
   refine WP.s<|WP.g<|WL.w (R.lss h15 h13)<|WL.e<|WP.s ?_
   rcases condE hy22 with ⟨hc26, hy22⟩ | ⟨hc26, hy22⟩
   ·refine WP.condT rfl hc26<|WP.skip<|WP.s<|WP.block<|WP.s<|WP.g ?_
    obtain ⟨x27, hx27, hy22⟩ := bindE hy22
    refine W.idx (α := Str) R6 h12 h15 el23 hx27 ?_
    rintro a28 _ hA29 rfl
    refine WL.w (R.loadH (v := str x27) S rfl hA29 lay9 rfl)<|WL.a (str x27) rfl<|WL.e<|WP.g<|WL.m (v9) h11<|WL.m (str x27) rfl ?_
    obtain ⟨r30, hr30, hy22⟩ := bindE hy22
    refine W.call S rfl (list_Split_ok S.holds (hG.post S.post) x27 hr30) ?_
    rintro v31 w32 H33 hle34 S R35
    have R10 := Sl.mono R10 hle34
    have R6 := Sl.mono R6 hle34
    obtain ⟨l36, hl36, hy22⟩ := bindE hy22
    refine W.app (α := Str) (i := 0) S el23 rfl rfl rfl R10 R35 hl36 ?_
    intro v37 w38 H39 hle40 R41 S
    have R10 := Sl.mono R10 hle40
    have R6 := Sl.mono R6 hle40
    refine WL.a (v37) rfl<|WL.e<|WP.g<|WL.w (R.add h15 rfl)<|WL.m (int (wr (y_14 + 1))) rfl<|WL.e ?_
    obtain rfl := oi hy22
    exact ⟨rfl, ⟨H39, v37, rfl, h12, h13, rfl, R41, R6, S⟩⟩
   ·refine WP.condF rfl hc26<|WP.exit ?_
    obtain rfl := oi hy22
    obtain rfl := hy23
    exact ⟨H7, v9, h11, R10, S⟩
 ·rintro f w ⟨H16, v18, h20, R19, S⟩
  refine WP.s<|WP.g<|WL.m (v18) h20<|WL.m (v18) h20<|WL.w (R.lenL (α := Str) (xs := out_17) (H := H16) R19 rfl Tryz.underlying23)<|WL.w (R.min rfl rfl) ?_
  obtain ⟨l42, hl42, h⟩ := bindE h
  refine W.subHi (α := Str) R19 rfl rfl el23 hl42 ?_
  intro v43 R44
  refine WL.a (v43) rfl<|WL.e ?_
  obtain rfl := oi h
  refine WP.ret (Out.one rfl S rfl ?_)
  exact R44
theorem strings_Index_ok {w0 : World} {H0 : Hp} (hw : Holds w0 H0) (hG : Tryz.Gl w0) (p_s : Str) (p_substr : Str) {r : Int} (h : strings_Index p_s p_substr = some r) :
  Con Tryz.prog 171 [(str p_s), (str p_substr)] w0 H0 (fun H' v => v = (int r)) := by
 refine Con.mk (N := 8) Tryz.func171 rfl rfl (by kernel_rfl) rfl ?_
 have S := St.start hw
 refine WP.s<|WP.g<|WL.a (int 0) rfl<|WL.e<|WP.s<|WP.g<|WL.m (str p_s) rfl<|WL.m (str p_substr) rfl ?_
 obtain ⟨r1, hr1, h⟩ := bindE h
 refine W.call S rfl (stringslite_Index_ok S.holds p_s p_substr hr1) ?_
 rintro v2 w3 H4 hle5 S rfl
 refine WL.a (int r1) rfl<|WL.e ?_
 obtain rfl := oi h
 refine WP.ret (Out.one rfl S rfl ?_)
 exact rfl
theorem strings_splitSeq_1_okY {w0 ws : World} {H0 Hs : Hp} {L2 : List Ent} (hG : Tryz.Gl w0) {s : Str} {c : UInt8} {b0 b1 b2 l bm TB q t : Nat} {r : Loop} {m : List (Str × Bool)} (E : List (Str × Bool) → Str → List (Str × Bool)) (hl : s.length ≤ 1073741824)
  (hp : r.params = #[t])
  (hY : ∀ (k : Str) (m : List (Str × Bool)) (w : World) (H : Hp) (L : List Ent), St w0 H0 w H (.obj l (.loop r) :: .box bm TB [mapv q] :: .mp q (encm boo m) :: L) →
   RoundIn Fence.wide 0 Tryz.prog l r.fn ((r.params.zip #[str k]).foldl (fun tmps (t, a) => tmps.setIfInBounds t a) r.tmps) r.assign r.body w (fun e w' => e = .returned (.bool true) ∧ St w0 H0 w' H (.obj l (.loop r) :: .box bm TB [mapv q] :: .mp q (encm boo (E m k)) :: L)))
  (S : St w0 H0 ws Hs (.obj l (.loop r) :: .box bm TB [mapv q] :: .mp q (encm boo m) :: .box b0 9 [str [c]] :: .box b1 9 [str s] :: .box b2 3 [int 0] :: L2)) :
  ConS Tryz.prog 169 [.func (.yield l) #[] #[], ptr b0 0, ptr b1 0, ptr b2 0] w0 H0 ws Hs L2 (fun H' v L' => ∃ s', L' = [.obj l (.loop r), .box bm TB [mapv q], .mp q (encm boo ((pieces c s).foldl E m)), .box b0 9 [str [c]], .box b1 9 [str s'], .box b2 3 [int 0]] ∧ v = .tuple #[]) := by
 refine ConS.mk (N := 52) Tryz.func169 rfl rfl (by kernel_rfl) rfl<|WP.s<|WP.s<|WP.g<|WL.w (R.loadB (i := 3) (v := str [c]) S rfl rfl lay9 rfl)<|WL.w (R.lenS (a := [c]) rfl Tryz.underlying9)<|WL.w (v := boo false) (R.ofEq (R.eql (a := 1) (b := 0) rfl rfl) rfl)<|WL.e<|WP.condF (b := false) rfl rfl<|WP.skip<|WP.s ?_
 refine WP.cut (fun f w => ∃ (s' : Str) (m' : List (Str × Bool)) (H : Hp), f 0 = .func (.yield l) #[] #[] ∧ f 2 = ptr b1 0 ∧ Hs.le H ∧ E m' s' = (pieces c s).foldl E m ∧ St w0 H0 w H (.obj l (.loop r) :: .box bm TB [mapv q] :: .mp q (encm boo m') :: .box b0 9 [str [c]] :: .box b1 9 [str s'] :: .box b2 3 [int 0] :: L2)) ?_ ?_
 ·refine WP.block ?_
  refine WP.loopK (fun (x : Str × List (Str × Bool)) f w => ∃ (H : Hp), f 0 = .func (.yield l) #[] #[] ∧ f 1 = ptr b0 0 ∧ f 2 = ptr b1 0 ∧ f 3 = ptr b2 0 ∧ Hs.le H ∧ x.1.length ≤ 1073741824 ∧ (pieces c x.1).foldl E x.2 = (pieces c s).foldl E m ∧
    St w0 H0 w H (.obj l (.loop r) :: .box bm TB [mapv q] :: .mp q (encm boo x.2) :: .box b0 9 [str [c]] :: .box b1 9 [str x.1] :: .box b2 3 [int 0] :: L2)) (fun x => x.1.length) (s, m) ⟨Hs, rfl, rfl, rfl, rfl, Hp.le.refl _, hl, rfl, S⟩ ?_
  rintro ⟨x, y⟩ f w ⟨H, h0, h1, h2, h3, hle, hlx, hE, S⟩
  simp only at hlx hE
  refine WP.block<|WP.s<|WP.g<|WL.w (R.loadB (i := 4) (v := str x) S h2 rfl lay9 rfl)<|WL.w (R.loadB (i := 3) (v := str [c]) S h1 rfl lay9 rfl)<|W.call S rfl (strings_Index_ok S.holds (hG.post S.post) x [c] (r := Lib.indexByte x c) rfl) ?_
  rintro _ w1 H1 hle1 S rfl
  refine WL.a (int (Lib.indexByte x c)) rfl<|WL.e<|WP.s<|WP.s<|WP.g<|WL.m (int (Lib.indexByte x c)) rfl<|WL.w (R.lss (a := Lib.indexByte x c) (b := 0) rfl rfl)<|WL.e ?_
  rcases indexByte_cases x c with ⟨hi, hno⟩ | ⟨a, b, rfl, hno, hi⟩
  ·refine WP.condT (b := decide (Lib.indexByte x c < 0)) rfl (by rw [hi]; rfl)<|WP.exit ?_
   refine ⟨x, y, H1, h0, h2, hle.trans hle1, ?_, S⟩
   rw [← hE, pieces_none c x hno]; rfl
  ·have hla : a.length + 1 + b.length ≤ 1073741824 := by simp only [List.length_append, List.length_cons] at hlx; omega
   refine WP.condF (b := decide (Lib.indexByte (a ++ c :: b) c < 0)) rfl (by rw [hi]; exact decide_eq_false (by omega))<|WP.skip<|WP.s<|WP.g<|WL.w (R.loadB (i := 4) (v := str (a ++ c :: b)) S h2 rfl lay9 rfl)<|WL.w (R.mv (v := int a.length) (by rw [← hi]; rfl))<|WL.w (R.loadB (i := 5) (v := int 0) S h3 rfl lay3 rfl)<|WL.w (v := int a.length) (R.ofEq (R.add rfl rfl) (by rw [Int.add_zero, wr_eq (by omega)]))<|WL.w (R.subShi (b := a) rfl rfl Tryz.underlying9 (xsub_pre a b c))<|WL.a (str a) rfl<|WL.e<|WP.s ?_
   refine WP.s<|WP.regionY [0, 1, 2, 3] rfl<|WY.valw rfl (R.mv (v := .func (.yield l) #[] #[]) h0)<|WY.valw rfl (R.mv (v := str a) rfl)<|WY.yield rfl rfl rfl (S.objAt (i := 0) rfl) (by rw [hp]; rfl) (hY a y w1 H1 _ S) ?_
   intro w2 S
   refine WY.valw rfl (R.not (b := true) rfl)<|WY.nil<|WP.condF (b := false) rfl rfl<|WP.skip<|WP.g<|WL.w (R.loadB (i := 4) (v := str (a ++ c :: b)) S h2 rfl lay9 rfl)<|WL.w (R.mv (v := int a.length) (by rw [← hi]; rfl))<|WL.w (R.loadB (i := 3) (v := str [c]) S h1 rfl lay9 rfl)<|WL.w (R.lenS (a := [c]) rfl Tryz.underlying9)<|WL.w (v := int ((a.length + 1 : Nat) : Int)) (R.ofEq (R.add rfl rfl) (by rw [wr_eq (by simp; omega)]; rfl))<|WL.w (R.subSlo (b := b) rfl rfl Tryz.underlying9 (xsub_post a b c))<|W.store (i := 4) [str b] S h2 rfl rfl lay9 rfl rfl (Nat.le_of_ble_eq_true rfl) rfl ?_
   intro w3 S
   refine WL.e ?_
   refine ⟨(b, E y a), by simp; omega, H1, h0, h1, h2, h3, hle.trans hle1, by simp; omega, ?_, S⟩
   rw [← hE, pieces_some c a b hno]; rfl
 ·rintro f w ⟨s', m', H, h0, h2, hle, hE, S⟩
  refine WP.regionY [0, 1, 2] rfl<|WY.valw rfl (R.mv (v := .func (.yield l) #[] #[]) h0)<|WY.valw rfl (R.loadB (i := 4) (v := str s') S h2 rfl lay9 rfl)<|WY.yield rfl rfl rfl (S.objAt (i := 0) rfl) (by rw [hp]; rfl) (hY s' m' w H _ S) ?_
  intro w2 S
  refine WY.nil<|OutS.zero (L' := [.obj l (.loop r), .box bm TB [mapv q], .mp q (encm boo (E m' s')), .box b0 9 [str [c]], .box b1 9 [str s'], .box b2 3 [int 0]]) (.inr rfl) rfl hle S ?_
  exact ⟨s', by rw [hE], rfl⟩
theorem strings_splitSeq_okM {w0 ws : World} {H0 Hs : Hp} {L2 : List Ent} (S : St w0 H0 ws Hs L2) (s sep : Str) (n : Int) :
  ConS Tryz.prog 128 [str s, str sep, int n] w0 H0 ws Hs L2 (fun H' v L' => ∃ b0 b1 b2 : Nat, L' = [.box b0 9 [str sep], .box b1 9 [str s], .box b2 3 [int n]] ∧ v = .func (.func 169) #[] [ptr b0 0, ptr b1 0, ptr b2 0].toArray) := by
 refine ConS.mk (N := 8) Tryz.func128 rfl rfl (by kernel_rfl) rfl<|WP.s<|WP.g<|W.box [str s] S rfl rfl ?_
 intro b1 w1 S
 refine W.box [str sep] S rfl rfl ?_
 intro b0 w2 S
 refine W.box [int n] S rfl rfl ?_
 intro b2 w3 S
 refine WL.a (.nilFunc) rfl<|WL.e<|WP.s<|WP.g<|WL.w (R.mkFunc (vs := [ptr b0 0, ptr b1 0, ptr b2 0]) rfl)<|WL.a (.func (.func 169) #[] [ptr b0 0, ptr b1 0, ptr b2 0].toArray) rfl<|WL.e ?_
 have S3 := (S.front 2 rfl).front 2 rfl
 refine WP.ret (OutS.one (L' := [.box b0 9 [str sep], .box b1 9 [str s], .box b2 3 [int n]]) rfl (Hp.le.refl _) S3 rfl ?_)
 exact ⟨_, _, _, rfl, rfl⟩
end Go.Proofs
