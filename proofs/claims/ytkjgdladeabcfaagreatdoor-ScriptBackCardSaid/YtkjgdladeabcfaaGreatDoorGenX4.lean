/- A part. -/
import Derived.Test.YtkjgdladeabcfaaGreatDoorEng38
import Derived.Test.YtkjgdladeabcfaaGreatDoorEng40
import Derived.Test.YtkjgdladeabcfaaGreatDoorGenX3
namespace Go.Proofs
set_option maxHeartbeats 4000000
set_option maxRecDepth 10000
open Go.Eng Go.Eng.Pure
set_option linter.unusedVariables false
theorem zBw {u:World} {x:Hp} (hw:Holds u x) (hG:Tryz.Gl u) (c:GConfig) (bl:Str) {r:(Str×Int)} (h:zBm c bl=some r) :
  Con Tryz.prog 15 [(agg [(str c.fName),(int c.fBytes),(int c.fVariants),(int c.fTables),(boo c.fStrict),(boo c.fRefuse)]),(str bl)] u x (fun H' v=>v=(.tuple ⟨[(str r.1),(int r.2)]⟩)):=by
 refine CM 37 Tryz.func15 hw fun S=>?_
 refine Ws<|Wg ?_
 refine W.box [(str c.fName),(int c.fBytes),(int c.fVariants),(int c.fTables),(boo c.fStrict),(boo c.fRefuse)] S rfl rfl ?_
 intro b1 w2 S
 refine A<|A<|We<|Ws<|Ws<|Wg<|M<|Ns<|Lc<|We ?_
 rcases condE h with ⟨bn,h⟩ | ⟨bn,h⟩
 ·refine CT bn ?_
  cases h
 refine CF bn<|Wk<|Ws<|Wg ?_
 refine WL.w (R.loadBN (i:=0) (vs:=[(str c.fName),(int c.fBytes),(int c.fVariants),(int c.fTables),(boo c.fStrict),(boo c.fRefuse)]) S rfl rfl lay45 rfl rfl)<|W.inl (args:=[(agg [(str c.fName),(int c.fBytes),(int c.fVariants),(int c.fTables),(boo c.fStrict),(boo c.fRefuse)])]) rfl (N':=43) Tryz.func20 rfl rfl kr rfl<|Ws<|Wg ?_
 refine W.box [(str c.fName),(int c.fBytes),(int c.fVariants),(int c.fTables),(boo c.fStrict),(boo c.fRefuse)] S rfl rfl ?_
 intro b4 w5 S
 refine A<|A<|We<|Ws<|Wg<|Fb ?_
 refine Lo 0 S<|Fb ?_
 refine Lo 0 S<|Fb ?_
 refine Lo 0 S<|W.inl (args:=[(int c.fBytes),(int c.fVariants),(int c.fTables)]) rfl (N':=36) Tryz.func33 rfl rfl kr rfl ?_
 refine Ws<|Wg<|A<|A<|We<|Ws<|Ws<|Wg<|M<|La<|M ?_
 refine WL.grp 3 [11,12] 13 (boo ((decide (c.fBytes<1))||(decide (100000000<c.fBytes)))) ?_ ?_
 ·rcases boolE (decide (c.fBytes<1)) with aj | aj
  ·refine Gn aj<|Gn aj<|Pt aj ?_
   exact We ⟨(orT aj),ag,rfl⟩
  refine Gy aj<|M<|Gy aj<|Lc<|Pf aj ?_
  exact We ⟨(orF aj),ag,rfl⟩
 intro us
 refine M ?_
 refine WL.grp 3 [15,16] 17 (boo (((decide (c.fBytes<1))||(decide (100000000<c.fBytes)))||(decide (c.fVariants<1)))) ?_ ?_
 ·rcases boolE ((decide (c.fBytes<1))||(decide (100000000<c.fBytes))) with ak | ak
  ·refine Gn ak<|Gn ak<|Pt ak ?_
   exact We ⟨(orT ak),ag,rfl⟩
  refine Gy ak<|M<|Gy ak<|La<|Pf ak ?_
  exact We ⟨(orF ak),ag,rfl⟩
 intro us
 refine M ?_
 refine WL.grp 3 [19,20] 21 (boo ((((decide (c.fBytes<1))||(decide (100000000<c.fBytes)))||(decide (c.fVariants<1)))||(decide (64<c.fVariants)))) ?_ ?_
 ·rcases boolE (((decide (c.fBytes<1))||(decide (100000000<c.fBytes)))||(decide (c.fVariants<1))) with al | al
  ·refine Gn al<|Gn al<|Pt al ?_
   exact We ⟨(orT al),ag,rfl⟩
  refine Gy al<|M<|Gy al<|Lc<|Pf al ?_
  exact We ⟨(orF al),ag,rfl⟩
 intro us
 refine M ?_
 refine WL.grp 3 [23,24] 25 (boo (((((decide (c.fBytes<1))||(decide (100000000<c.fBytes)))||(decide (c.fVariants<1)))||(decide (64<c.fVariants)))||(decide (c.fTables<1)))) ?_ ?_
 ·rcases boolE ((((decide (c.fBytes<1))||(decide (100000000<c.fBytes)))||(decide (c.fVariants<1)))||(decide (64<c.fVariants))) with am | am
  ·refine Gn am<|Gn am<|Pt am ?_
   exact We ⟨(orT am),ag,rfl⟩
  refine Gy am<|M<|Gy am<|La<|Pf am ?_
  exact We ⟨(orF am),ag,rfl⟩
 intro us
 refine M ?_
 refine WL.grp 3 [27,28] 29 (boo ((((((decide (c.fBytes<1))||(decide (100000000<c.fBytes)))||(decide (c.fVariants<1)))||(decide (64<c.fVariants)))||(decide (c.fTables<1)))||(decide (1000<c.fTables)))) ?_ ?_
 ·rcases boolE (((((decide (c.fBytes<1))||(decide (100000000<c.fBytes)))||(decide (c.fVariants<1)))||(decide (64<c.fVariants)))||(decide (c.fTables<1))) with an | an
  ·refine Gn an<|Gn an<|Pt an ?_
   exact We ⟨(orT an),ag,rfl⟩
  refine Gy an<|M<|Gy an<|Lc<|Pf an ?_
  exact We ⟨(orF an),ag,rfl⟩
 intro us
 refine We ?_
 rcases condE h with ⟨bo,h⟩ | ⟨bo,h⟩
 ·refine CT bo ?_
  cases h
 refine CF bo<|Wk<|Ws<|Wg<|M<|M<|M<|W.makeMap S ?_
 intro p dv S
 refine WL.w (R.build [(0,(int c.fBytes)),(1,(int c.fVariants)),(2,(int c.fTables)),(5,(mapv p))] [(int c.fBytes),(int c.fVariants),(int c.fTables),(int 0),(.slice none 0 0),(mapv p)] bp99 zer99 rfl rfl) ?_
 refine W.box [(int c.fBytes),(int c.fVariants),(int c.fTables),(int 0),(.slice none 0 0),(mapv p)] S rfl rfl ?_
 intro o dw S
 refine A<|A<|We ?_
 refine WP.ret (In.two rfl rfl rfl ?_)
 replace S:St u x _ x [.box o 99 [(int c.fBytes),(int c.fVariants),(int c.fTables),(int 0),(.slice none 0 0),(mapv p)],.mp p [],.box b4 45 [(str c.fName),(int c.fBytes),(int c.fVariants),(int c.fTables),(boo c.fStrict),(boo c.fRefuse)]]:=(S.pk [0,1,2])
 refine M ?_
 refine Ex ?_
 refine Ex<|A<|A<|We<|Ws<|Ws<|Wg<|M ?_
 refine WL.w (v:=boo false) (R.ofEq (R.neq rfl rfl) rfl)<|M ?_
 refine Gy rfl<|Fb<|Gy rfl ?_
 refine Lo 2 S<|Gy rfl<|B h fun bg ce h=>W.call S rfl (zBr S.holds (hG.post S.post) c.fName ce) ?_
 rintro dx dy bb dz S rfl
 refine Gy rfl<|No<|Pf rfl<|M ?_
 refine WL.grp 5 [25,26,27,28] 29 (boo ((!bg)||(decide (100<(c.fName.length:Int))))) ?_ ?_
 ·rcases boolE (!bg) with ac | ac
  ·refine Gn ac<|Gn ac<|Gn ac<|Gn ac<|Pt ac ?_
   exact We ⟨(orT ac),ag,rfl⟩
  refine Gy ac<|Fb<|Gy ac ?_
  refine Lo 2 S<|Gy ac<|Ns<|Gy ac<|Lc<|Pf ac ?_
  exact We ⟨(orF ac),ag,rfl⟩
 intro us
 refine M ?_
 refine WL.grp 8 [31,32,33,34,35,36,37] 38 (boo (((!bg)||(decide (100<(c.fName.length:Int))))||(c.fRefuse&&(!c.fStrict)))) ?_ ?_
 ·rcases boolE ((!bg)||(decide (100<(c.fName.length:Int)))) with ab | ab
  ·refine Gn ab<|Gn ab<|Gn ab<|WL.gund rfl rfl<|WL.gund rfl rfl<|WL.gund rfl rfl<|Gn ab<|Pt ab ?_
   exact We ⟨(orT ab),ag,rfl⟩
  refine Gy ab<|Fb<|Gy ab ?_
  refine Lo 2 S<|Gy ab<|M ?_
  refine WL.grp 4 [34,35,36] 37 (boo (c.fRefuse&&(!c.fStrict))) ?_ ?_
  ·rcases boolE c.fRefuse with af | af
   ·refine Gy af<|Fb<|Gy af ?_
    refine Lo 2 S<|Gy af<|No<|Gy ab<|Pt af ?_
    exact We ⟨(andT af),ag,rfl⟩
   refine Gn af<|Gn af<|Gn af<|Gy ab<|Pf af ?_
   exact We ⟨(andF af),ag,rfl⟩
  intro us
  refine Pf ab ?_
  exact We ⟨(orF ab),ag,rfl⟩
 intro us
 refine We ?_
 rcases condE h with ⟨bp,h⟩ | ⟨bp,h⟩
 ·refine CT bp ?_
  cases h
 refine CF bp<|Wk<|Ws<|Wg ?_
 refine WL.w (R.loadBN (i:=2) (vs:=[(str c.fName),(int c.fBytes),(int c.fVariants),(int c.fTables),(boo c.fStrict),(boo c.fRefuse)]) S rfl rfl lay45 rfl rfl)<|M ?_
 refine WL.w (R.build [(0,(agg [(str c.fName),(int c.fBytes),(int c.fVariants),(int c.fTables),(boo c.fStrict),(boo c.fRefuse)])),(1,(ptr o 0))] [(str c.fName),(int c.fBytes),(int c.fVariants),(int c.fTables),(boo c.fStrict),(boo c.fRefuse),(ptr o 0),(int 0),(.pointer none)] bp73 zer73 rfl rfl) ?_
 refine W.box [(str c.fName),(int c.fBytes),(int c.fVariants),(int c.fTables),(boo c.fStrict),(boo c.fRefuse),(ptr o 0),(int 0),(.pointer none)] S rfl rfl ?_
 intro q d0 S
 refine A<|A<|We ?_
 refine WP.ret (In.two rfl rfl rfl ?_)
 replace S:St u x _ bb [.box q 73 [(str c.fName),(int c.fBytes),(int c.fVariants),(int c.fTables),(boo c.fStrict),(boo c.fRefuse),(ptr o 0),(int 0),(.pointer none)],.box o 99 [(int c.fBytes),(int c.fVariants),(int c.fTables),(int 0),(.slice none 0 0),(mapv p)],.mp p []]:=(S.pk [0,1,2])
 refine M ?_
 refine Ex ?_
 refine Ex<|A<|A<|We<|Ws<|Ws<|Wg<|M ?_
 refine WL.w (v:=boo false) (R.ofEq (R.neq rfl rfl) rfl)<|We ?_
 refine WP.condF (b:=false) rfl rfl<|Wk<|Ws<|Wg ?_
 refine W.alloc [(.pointer none),(.slice none 0 0)] S zer33 ?_
 intro z d1 S
 refine We<|Ws ?_
 obtain ⟨bq,br⟩:∃ v:Value,v=.slice none 0 0:=⟨_,rfl⟩
 have cf:Sl (α:=UInt8) bb bq []:=by rw [br]; exact Sl.nil
 replace S:=(show ∀ {w:World},St u x w bb [.box z 33 [(.pointer none),(.slice none 0 0)],.box q 73 [(str c.fName),(int c.fBytes),(int c.fVariants),(int c.fTables),(boo c.fStrict),(boo c.fRefuse),(ptr o 0),(int 0),(.pointer none)],.box o 99 [(int c.fBytes),(int c.fVariants),(int c.fTables),(int 0),(.slice none 0 0),(mapv p)],.mp p []]→St u x w bb [.box z 33 [(.pointer none),bq],.box q 73 [(str c.fName),(int c.fBytes),(int c.fVariants),(int c.fTables),(boo c.fStrict),(boo c.fRefuse),(ptr o 0),(int 0),(.pointer none)],.box o 99 [(int c.fBytes),(int c.fVariants),(int c.fTables),(int 0),(.slice none 0 0),(mapv p)],.mp p []] from fun S=>by rw [br]; exact S) S
 replace S:=St.addNilV br S 5 1
 refine B h fun bc cg h=>WP.cut (fun f w=>∃ (bh:Hp) (a9:Value) (a0:Value),f 8=(ptr z 0)∧(a9=Value.pointer none∨a9=ptr z 0)∧Sl bh a0 bc∧St u x w bh [.row a0 5 1 bc.length,.box z 33 [a9,a0]]) ?_ ?_
 ·refine Wb ?_
  refine WP.loopM (zBJ) (fun s f w=>match s with | (bs,aq,ar,au,av,aw,ax,ay,l,a1,a2,a3,a4,bi)=>∃ (bd:Hp) (ah:Value) (ad:Value) (ai:Value),f 1=(str bs)∧f 6=(ptr q 0)∧f 8=(ptr z 0)∧(ah=Value.pointer none∨ah=ptr z 0)∧Sl bd ad aq∧Sl bd ai bi∧St u x w bd [.row ad 5 1 aq.length,.box z 33 [ah,ad],.box q 73 [(str ar),(int au),(int av),(int aw),(boo ax),(boo ay),(ptr o 0),(int l),(.pointer none)],.box o 99 [(int a1),(int a2),(int a3),(int a4),ai,(mapv p)],.mp p []]) (bl,([]:List UInt8),c.fName,c.fBytes,c.fVariants,c.fTables,c.fStrict,c.fRefuse,0,c.fBytes,c.fVariants,c.fTables,0,([]:List Str)) bc (lfW cg) ?_ ?_
  ·exact ⟨bb,.pointer none,bq,.slice none 0 0,rfl,rfl,rfl,(Or.inl rfl),cf,Sl.nil,S⟩
  intro s f w hI d2 t ch
  obtain ⟨bs,aq,ar,au,av,aw,ax,ay,l,a1,a2,a3,a4,bi⟩:=s
  obtain ⟨bd,ah,ad,ai,ca,bt,bj,az,k,j,S⟩:=hI
  refine Ws<|Ws<|Wg<|M' ca<|Nb<|We ?_
  rcases condE t with ⟨bu,t⟩ | ⟨bu,t⟩
  ·refine CT bu<|Wk<|Wb<|Ws<|Wg<|A<|We<|Ws<|Wg<|M' ca<|B t fun ba ci t=>W.call S rfl (zBH S.holds (hG.post S.post) bs [10] ci) ?_
   rintro d3 d4 cj ck S rfl
   have ⟨k,j⟩:=U2 ck k j
   refine M ?_
   refine Ex ?_
   refine Ex ?_
   refine Ex<|A<|A<|We<|Ws<|Wg<|M<|Nb<|We ?_
   rcases condE t with ⟨bv,t⟩ | ⟨bv,t⟩
   ·refine CT bv<|Wg<|M' bt<|M ?_
    obtain ⟨⟨cl,bk⟩,d,t⟩:=bindE t
    refine W.inl (args:=[(ptr q 0),(str ba.1)]) rfl (N':=96) Tryz.func22 rfl rfl kr rfl (WP.inC (fun f w=>∃ (be:Hp),f 4=(str cl)∧(ah=Value.pointer none∨ah=ptr z 0)∧Sl be ad aq∧Sl be ai bi∧St u x w be [.row ad 5 1 aq.length,.box z 33 [ah,ad],.box q 73 [(str ar),(int au),(int av),(int aw),(boo ax),(boo ay),(ptr o 0),(int bk),(.pointer none)],.box o 99 [(int a1),(int a2),(int a3),(int a4),ai,(mapv p)],.mp p []]) ?_ ?_)
    ·refine Ws<|Wg<|A<|We<|Ws<|Wg<|M<|B d fun ae cm d=>W.call S rfl (zBH S.holds (hG.post S.post) ba.1 [32] cm) ?_
     rintro d5 d6 d7 cn S rfl
     have ⟨k,j⟩:=U2 cn k j
     refine M ?_
     refine Ex ?_
     refine Ex ?_
     refine Ex<|A<|A<|A<|We<|Ws<|Wg<|M<|B d fun cb co d=>W.call S rfl (zAw S.holds (hG.post S.post) ae.2.1 co) ?_
     rintro d8 d9 ea cp S rfl
     have ⟨k,j⟩:=U2 cp k j
     refine M ?_
     refine Ex ?_
     refine Ex<|A<|A<|We<|Ws<|Wg<|M<|B d fun aa cq d=>W.call S rfl (zBg S.holds (hG.post S.post) ae.2.1 cq) ?_
     rintro eb ec cr ct S rfl
     have ⟨k,j⟩:=U2 ct k j
     refine M ?_
     refine Ex ?_
     refine Ex<|A<|A<|We<|Ws<|Wb<|Ws<|Wg<|M<|Na ?_
     refine M ?_
     refine WL.grp 2 [33] 34 (boo ((ae.1==[99,108,105,101,110,116])&&cb.2)) ?_ ?_
     ·rcases boolE (ae.1==[99,108,105,101,110,116]) with a5 | a5
      ·refine Gy a5<|M<|Pt a5 ?_
       exact We ⟨(andT a5),ag,rfl⟩
      refine Gn a5<|Pf a5 ?_
      exact We ⟨(andF a5),ag,rfl⟩
     intro us
     refine A<|We ?_
     rcases condE d with ⟨bw,d⟩ | ⟨bw,d⟩
     ·refine CT bw ?_
      cases d
     refine CF bw<|Ws<|Wg<|M<|Na<|M ?_
     refine WL.grp 2 [45] 46 (boo ((ae.1==[111,114,105,103,105,110])&&cb.2)) ?_ ?_
     ·rcases boolE (ae.1==[111,114,105,103,105,110]) with a6 | a6
      ·refine Gy a6<|M<|Pt a6 ?_
       exact We ⟨(andT a6),ag,rfl⟩
      refine Gn a6<|Pf a6 ?_
      exact We ⟨(andF a6),ag,rfl⟩
     intro us
     refine A<|We ?_
     rcases condE d with ⟨bx,d⟩ | ⟨bx,d⟩
     ·refine CT bx ?_
      cases d
     refine CF bx<|Ws<|Wg<|M<|Na<|M ?_
     refine WL.grp 3 [57,58] 59 (boo ((ba.1==[102,97,105,108])||(ba.1==[116,105,109,101,111,117,116]))) ?_ ?_
     ·rcases boolE (ba.1==[102,97,105,108]) with ao | ao
      ·refine Gn ao<|Gn ao<|Pt ao ?_
       exact We ⟨(orT ao),ag,rfl⟩
      refine Gy ao<|M<|Gy ao<|Na<|Pf ao ?_
      exact We ⟨(orF ao),ag,rfl⟩
     intro us
     refine A<|We ?_
     rcases condE d with ⟨bz,d⟩ | ⟨bz,d⟩
     ·refine CT bz<|Ws<|Wg<|M<|M<|Na<|W.inl (args:=[(ptr q 0),(boo (ba.1==[116,105,109,101,111,117,116]))]) rfl (N':=33) Tryz.func40 rfl rfl kr rfl<|Ws<|Wg ?_
      refine W.alloc [(str []),(str [])] S zer78 ?_
      intro ed ee S
      refine A<|We<|Ws<|Ws<|Wg<|M<|W.inl (args:=[(ptr q 0)]) rfl (N':=12) Tryz.func59 rfl rfl kr rfl<|Ws<|Wg<|A<|We<|Ws ?_
      refine Wg<|M ?_
      refine WL.w (v:=boo true) (R.ofEq (R.neqPN rfl rfl Tryz.underlying52) rfl)<|M<|Gy rfl<|M<|Gy rfl<|Nn<|Gy rfl<|Fb<|Gy rfl ?_
      refine Lo 3 S ?_
      refine Gy rfl ?_
      refine WL.w (v:=boo true) (R.ofEq (R.neqPN rfl rfl Tryz.underlying68) rfl)<|Pt rfl<|A<|We ?_
      refine WP.ret (In.one rfl rfl ?_)
      refine WL.w (v:=boo false) (R.ofEq (R.not rfl) rfl)<|M<|Gy rfl<|M<|Gy rfl<|Nn<|Gy rfl<|Fb<|Gy rfl ?_
      refine Lo 3 S<|Gy rfl ?_
      refine WL.w (v:=boo true) (R.ofEq (R.eqlPN rfl rfl Tryz.underlying71) rfl) ?_
      refine Pf rfl<|We<|WP.condT (b:=true) rfl rfl<|Ws<|Wg ?_
      refine WL.w (R.build [] [(str []),(str [])] bp78 zer78 rfl rfl) ?_
      refine W.store (i:=0) [(str []),(str [])] S rfl rfl rfl lay78 rfl rfl (Nat.le_of_ble_eq_true rfl) rfl ?_
      intro ef S
      refine A<|We ?_
      refine WP.ret (In.two rfl (Res.cellB (i:=0) (cs:=[(str []),(str [])]) S rfl rfl lay78 rfl rfl) rfl ?_)
      replace S:St u x _ cr [.row ad 5 1 aq.length,.box z 33 [ah,ad],.box q 73 [(str ar),(int au),(int av),(int aw),(boo ax),(boo ay),(ptr o 0),(int l),(.pointer none)],.box o 99 [(int a1),(int a2),(int a3),(int a4),ai,(mapv p)],.mp p []]:=(S.pk [1,2,3,4,5])
      refine Ex ?_
      refine Ex<|B d fun eg cu d=>W.call S rfl (zBo S.holds (hG.post S.post) (⟨[],[]⟩:GOutput) 12 cu) ?_
      rintro eh ei cv cw S rfl
      have ⟨k,j⟩:=U2 cw k j
      refine A<|We ?_
      cases oi d
      refine WP.ret ?_
      exact ⟨.inl rfl,⟨cv,rfl,az,k,j,S⟩⟩
     refine CF bz<|Ws<|Wg<|M<|Na<|M ?_
     refine WL.grp 2 [71] 72 (boo ((ae.1==[116,105,99,107])&&ae.2.2)) ?_ ?_
     ·rcases boolE (ae.1==[116,105,99,107]) with a7 | a7
      ·refine Gy a7<|M<|Pt a7 ?_
       exact We ⟨(andT a7),ag,rfl⟩
      refine Gn a7<|Pf a7 ?_
      exact We ⟨(andF a7),ag,rfl⟩
     intro us
     refine M ?_
     refine WL.grp 2 [74] 75 (boo (((ae.1==[116,105,99,107])&&ae.2.2)&&aa.2)) ?_ ?_
     ·rcases boolE ((ae.1==[116,105,99,107])&&ae.2.2) with a8 | a8
      ·refine Gy a8<|M<|Pt a8 ?_
       exact We ⟨(andT a8),ag,rfl⟩
      refine Gn a8<|Pf a8 ?_
      exact We ⟨(andF a8),ag,rfl⟩
     intro us
     refine A<|We ?_
     rcases condE d with ⟨b0,d⟩ | ⟨b0,d⟩
     ·refine CT b0<|Ws<|Ws<|Wg<|M<|M<|W.inl (args:=[(ptr q 0),(int aa.1)]) rfl (N':=26) Tryz.func41 rfl rfl kr rfl<|Ws<|Wg<|A<|We<|Ws ?_
      refine Wb<|Ws<|Wg<|M<|W.inl (args:=[(ptr q 0)]) rfl (N':=12) Tryz.func59 rfl rfl kr rfl<|Ws<|Wg<|A<|We<|Ws<|Wg<|M ?_
      refine WL.w (v:=boo true) (R.ofEq (R.neqPN rfl rfl Tryz.underlying52) rfl)<|M<|Gy rfl<|M<|Gy rfl<|Nn<|Gy rfl<|Fb<|Gy rfl ?_
      refine Lo 2 S<|Gy rfl ?_
      refine WL.w (v:=boo true) (R.ofEq (R.neqPN rfl rfl Tryz.underlying68) rfl) ?_
      refine Pt rfl<|A<|We ?_
      refine WP.ret (In.one rfl rfl ?_)
      refine WL.w (v:=boo false) (R.ofEq (R.not rfl) rfl)<|A<|We<|WP.condF (b:=false) rfl rfl<|Ws<|Wg<|M<|La<|A<|We ?_
      rcases condE d with ⟨b2,d⟩ | ⟨b2,d⟩
      ·refine CT b2 ?_
       cases d
      refine CF b2<|Wk<|Ws<|WP.quietTail 14 S kr kr<|QM<|QNn<|QFb ?_
      refine QB 2 (int l)<|QM<|QM<|QNn<|QFb ?_
      refine QB 2 (int l)<|QLh<|QNi<|QLg<|QNn<|QFb<|WQ.nil ?_
      intro ej cx cy S
      have ⟨k,j⟩:=U2 cy k j
      refine W.store (i:=2) [(str ar),(int au),(int av),(int aw),(boo ax),(boo ay),(ptr o 0),(int (wr (l+(if (wr (1099511627776 - l))<aa.1 then (wr (1099511627776 - l)) else aa.1)))),(.pointer none)] S rfl rfl rfl lay2 rfl rfl (Nat.le_of_ble_eq_true rfl) rfl ?_
      intro ek S
      refine We<|Ws<|Wg<|A<|We ?_
      refine WP.ret (In.one rfl rfl ?_)
      refine A<|We<|Ws<|Wg<|M ?_
      refine WL.w (v:=boo false) (R.ofEq (R.neq rfl rfl) rfl)<|We<|WP.condF (b:=false) rfl rfl<|Wk<|Ws<|Wg<|M ?_
      refine W.inl (args:=[(ptr q 0)]) rfl (N':=10) Tryz.func44 rfl rfl kr rfl<|Ws<|Wg<|A<|We<|Ws<|Ws<|Wg<|M<|W.inl (args:=[(ptr q 0)]) rfl (N':=12) Tryz.func59 rfl rfl kr rfl<|Ws<|Wg ?_
      refine A<|We<|Ws<|Wg<|M ?_
      refine WL.w (v:=boo true) (R.ofEq (R.neqPN rfl rfl Tryz.underlying52) rfl)<|M<|Gy rfl<|M<|Gy rfl<|Nn<|Gy rfl ?_
      refine Fb<|Gy rfl ?_
      refine Lo 2 S<|Gy rfl ?_
      refine WL.w (v:=boo true) (R.ofEq (R.neqPN rfl rfl Tryz.underlying68) rfl)<|Pt rfl<|A<|We ?_
      refine WP.ret (In.one rfl rfl ?_)
      refine WL.w (v:=boo false) (R.ofEq (R.not rfl) rfl)<|We<|WP.condF (b:=false) rfl rfl<|Wk<|Ws<|Wg<|M<|Nn<|Fb ?_
      refine Lo 2 S<|A<|We ?_
      refine WP.ret (In.one rfl rfl ?_)
      refine W.inl (args:=[(int (wr (l+(if (wr (1099511627776 - l))<aa.1 then (wr (1099511627776 - l)) else aa.1)))),(int 10)]) rfl (N':=8) Tryz.func43 rfl rfl kr rfl<|Ws<|Wg<|A<|We<|Ws<|Wg<|M<|M<|W.inl (args:=[(int (wr (l+(if (wr (1099511627776 - l))<aa.1 then (wr (1099511627776 - l)) else aa.1)))),(int 10)]) rfl (N':=54) Tryz.func76 rfl rfl kr rfl<|Ws<|Wg ?_
      refine A<|We<|Ws<|Ws<|Wg<|M ?_
      refine WL.w (v:=boo true) (R.ofEq (R.eql rfl rfl) rfl)<|We<|WP.condT (b:=true) rfl rfl<|Ws<|Ws<|Wg ?_
      refine M<|Lb<|M ?_
      refine WL.grp 3 [15,16] 17 (boo ((decide (0≤(wr (l+(if (wr (1099511627776 - l))<aa.1 then (wr (1099511627776 - l)) else aa.1)))))&&(decide ((wr (l+(if (wr (1099511627776 - l))<aa.1 then (wr (1099511627776 - l)) else aa.1)))<100)))) ?_ ?_
      ·rcases boolE (decide (0≤(wr (l+(if (wr (1099511627776 - l))<aa.1 then (wr (1099511627776 - l)) else aa.1))))) with ap | ap
       ·refine Gy ap<|M<|Gy ap<|La<|Pt ap ?_
        exact We ⟨(andT ap),ag,rfl⟩
       refine Gn ap<|Gn ap<|Pf ap ?_
       exact We ⟨(andF ap),ag,rfl⟩
      intro us
      refine We ?_
      rcases condE d with ⟨b3,d⟩ | ⟨b3,d⟩
      ·refine CT b3<|Ws<|Wg<|M<|W.inl (args:=[(int (wr (l+(if (wr (1099511627776 - l))<aa.1 then (wr (1099511627776 - l)) else aa.1))))]) rfl (N':=15) Tryz.func137 rfl rfl kr rfl<|Ws<|Wg<|A<|We<|Ws<|Ws<|Wg ?_
       refine M<|La<|We ?_
       rcases condE d with ⟨b5,d⟩ | ⟨b5,d⟩
       ·refine CT b5<|Ws<|Wg<|M<|M<|Lg<|B d fun el cz d=>Jb cz<|A<|We ?_
        refine WP.ret (In.one rfl rfl ?_)
        refine A<|We ?_
        refine WP.ret (In.one rfl rfl ?_)
        refine A<|We ?_
        refine WP.ret (In.one rfl rfl ?_)
        refine B d fun em c0 d=>Je c0<|A<|We ?_
        cases oi d
        refine WP.ret ?_
        exact ⟨.inl rfl,⟨cx,rfl,az,k,j,S⟩⟩
       refine CF b5 ?_
       cases d
      refine CF b3 ?_
      cases d
     refine CF b0<|Ws<|Wg<|M<|Na<|A<|We ?_
     rcases condE d with ⟨b6,d⟩ | ⟨b6,d⟩
     ·refine CT b6<|Ws<|Wg<|W.bslice (α:=Str) [(str [107,101,121,115])] ([[107,101,121,115]]:List Str) S el87 rfl rfl rfl (by decide) (Go.Eng.encS ⟨rfl,rfl⟩ enc0) ?_
      intro en eo ep c1 b7 S
      have ⟨k,j⟩:=U2 c1 k j
      refine M<|W.inl (args:=[(ptr q 0)]) rfl (N':=11) Tryz.func46 rfl rfl kr rfl<|Ws<|Wg<|A<|We<|Ws<|Ws<|Wg<|M<|W.inl (args:=[(ptr q 0)]) rfl (N':=12) Tryz.func59 rfl rfl kr rfl<|Ws ?_
      refine Wg<|A<|We<|Ws<|Wg<|M ?_
      refine WL.w (v:=boo true) (R.ofEq (R.neqPN rfl rfl Tryz.underlying52) rfl)<|M<|Gy rfl<|M<|Gy rfl<|Nn ?_
      refine Gy rfl<|Fb<|Gy rfl ?_
      refine Lo 3 S<|Gy rfl ?_
      refine WL.w (v:=boo true) (R.ofEq (R.neqPN rfl rfl Tryz.underlying68) rfl)<|Pt rfl<|A<|We ?_
      refine WP.ret (In.one rfl rfl ?_)
      refine WL.w (v:=boo false) (R.ofEq (R.not rfl) rfl)<|We<|WP.condF (b:=false) rfl rfl<|Wk<|Ws<|Wg<|M<|Nn<|Fb ?_
      refine Lo 3 S<|W.inl (args:=[(ptr o 0)]) rfl (N':=11) Tryz.func78 rfl rfl kr rfl<|Ws ?_
      refine Wg<|A<|We<|Ws<|Ws<|Wg<|M<|W.inl (args:=[(ptr o 0)]) rfl (N':=12) Tryz.func142 rfl rfl kr rfl<|Ws<|Wg<|A<|We ?_
      refine Ws<|Wg<|M ?_
      refine WL.w (v:=boo true) (R.ofEq (R.neqPN rfl rfl Tryz.underlying68) rfl)<|M<|Gy rfl<|M<|Gy rfl<|Nn<|Gy rfl<|Fb<|Gy rfl ?_
      refine Lo 4 S<|Gy rfl ?_
      refine WL.w (v:=boo true) (R.ofEq (R.neqMN rfl rfl Tryz.underlying97) rfl)<|Pt rfl<|A<|We ?_
      refine WP.ret (In.one rfl rfl ?_)
      refine WL.w (v:=boo false) (R.ofEq (R.not rfl) rfl)<|We<|WP.condF (b:=false) rfl rfl<|Wk<|Ws<|Wg<|M<|Nn<|Fb ?_
      refine Lo 4 S<|B d fun eq c2 d=>W.call S rfl (zAv S.holds (hG.post S.post) bi j c2) ?_
      rintro er es et c3 S c4
      have ⟨j,k,b7⟩:=U3 c3 j k b7
      refine A<|We ?_
      refine WP.ret (In.one rfl rfl ?_)
      refine A<|We ?_
      refine WP.ret (In.one rfl rfl ?_)
      refine B d fun c5 c6 d=>W.app (α:=Str) (i:=0) S el87 rfl rfl rfl b7 c4 c6 ?_
      intro eu ew ex c7 c8 S
      have ⟨k,j⟩:=U2 c7 k j
      refine B d fun ey c9 d=>W.call S rfl (zBx S.holds c5 [32] c8 c9) ?_
      rintro ez e0 da db S rfl
      have ⟨k,j⟩:=U2 db k j
      refine A<|We ?_
      cases oi d
      refine WP.ret ?_
      exact ⟨.inl rfl,⟨da,rfl,az,k,j,(S.pk [1,2,3,4,5])⟩⟩
     refine CF b6<|Wk<|Ws<|Wg<|B d fun e1 dc d=>W.call S rfl (zA5 S.holds (hG.post S.post) 1 dc) ?_
     rintro e2 e3 dd de S rfl
     have ⟨k,j⟩:=U2 de k j
     refine A<|We ?_
     cases oi d
     refine WP.ret ?_
     exact ⟨.inl rfl,⟨dd,rfl,az,k,j,S⟩⟩
    rintro f w ⟨be,df,az,k,j,S⟩
    refine InR.one rfl df<|B t fun dg dh t=>Je dh ?_
    replace S:=S.front 1 rfl
    replace S:St u x _ be [.box z 33 [ah,ad],.row ad 5 1 aq.length,.box q 73 [(str ar),(int au),(int av),(int aw),(boo ax),(boo ay),(ptr o 0),(int bk),(.pointer none)],.box o 99 [(int a1),(int a2),(int a3),(int a4),ai,(mapv p)],.mp p []]:=S
    refine B t fun cc di t=>W.callS (mapC bj (mapC rfl mapN)) (zAD hG dg aq S k az di) ?_
    rintro e4 e5 b8 e6 dj S ⟨b9,bf,rfl,rfl,dk,dl⟩
    replace S:St u x _ b8 [.box z 33 [b9,bf],.row bf 5 1 cc.2.2.length,.box q 73 [(str ar),(int au),(int av),(int aw),(boo ax),(boo ay),(ptr o 0),(int bk),(.pointer none)],.box o 99 [(int a1),(int a2),(int a3),(int a4),ai,(mapv p)],.mp p []]:=S
    replace S:=S.front 4 rfl
    replace S:=S.front 4 rfl
    replace S:=S.front 4 rfl
    replace S:=S.front 3 rfl
    replace S:=S.front 4 rfl
    replace S:St u x _ b8 [.row bf 5 1 cc.2.2.length,.box z 33 [b9,bf],.box q 73 [(str ar),(int au),(int av),(int aw),(boo ax),(boo ay),(ptr o 0),(int bk),(.pointer none)],.box o 99 [(int a1),(int a2),(int a3),(int a4),ai,(mapv p)],.mp p []]:=S
    have j:=j.up dj
    refine We ?_
    obtain rfl:=oi t
    exact ⟨rfl,⟨b8,b9,bf,ai,rfl,bt,bj,dk,dl,j,S⟩⟩
   refine CF bv<|Wk ?_
   obtain rfl:=oi t
   exact ⟨rfl,⟨cj,ah,ad,ai,rfl,bt,bj,az,k,j,S⟩⟩
  refine CF bu<|Wx ?_
  obtain rfl:=oi t
  obtain rfl:=ch
  exact ⟨bd,ah,ad,bj,az,k,(S.pk [0,1])⟩
 rintro f w ⟨bh,a9,a0,dm,dn,dp,S⟩
 refine Ws<|Wg ?_
 replace S:=S.front 1 rfl
 replace S:St u x _ bh [.box z 33 [a9,a0],.row a0 5 1 bc.length]:=S
 refine B h fun e7 dq h=>W.callS (mapC dm mapN) (zAT hG bc S dp dn dq) ?_
 rintro e8 e9 dr fa fb S ⟨rfl,rfl⟩
 replace S:St u x _ dr [.box z 33 [a9,a0]]:=S
 refine A<|A<|We ?_
 obtain rfl:=oi h
 refine WP.ret (Out.two rfl S rfl rfl ?_)
 exact rfl
theorem zAZ {c ws:World} {f Hs:Hp} {j:List Ent} (hG:Tryz.Gl c) (k:UInt8) (s0_buf:(List UInt8)) {d:Value} {va0:Value} {b:Nat} (S:St c f ws Hs (.box b 33 [va0,d] :: .row d 5 1 s0_buf.length :: j)) (R0_1:Sl Hs d s0_buf) (aa:va0=Value.pointer none∨va0=ptr b 0) {r:(Unit×(List UInt8))} (h:zAK k s0_buf=some r) :
  ConS Tryz.prog 13 [(ptr b 0),(byt k)] c f ws Hs j (fun H' v L'=>∃ l o:Value,L'=[.box b 33 [l,o],.row o 5 1 r.2.length]∧v=.nilIface∧(l=Value.pointer none∨l=ptr b 0)∧Sl H' o r.2):=by
 refine ConS.mk (N:=17) Tryz.func13 rfl rfl kr rfl<|Ws<|Wg<|A<|We<|Ws<|Wg<|M ?_
 replace S:=S.front 1 rfl
 replace S:=S.front 1 rfl
 replace S:St c f _ Hs (.box b 33 [va0,d] :: .row d 5 1 s0_buf.length :: j):=S
 refine B h fun r1 ab h=>W.callS rfl (zAQ hG s0_buf S R0_1 aa ab) ?_
 rintro v2 w3 H4 L6 ad S ⟨p,u,rfl,rfl,ae,q⟩
 replace S:St c f _ H4 (.box b 33 [p,u] :: .row u 5 1 s0_buf.length :: j):=S
 refine We<|Ws<|Wg<|M<|M<|Nn<|Fb ?_
 refine Lo 0 S<|M<|W.bslice (α:=UInt8) [(byt k)] ([k]:List UInt8) S el27 rfl rfl rfl (by decide) (Go.Eng.encS ⟨rfl,rfl⟩ enc0) ?_
 intro ao ap aq x af S
 have q:=q.up x
 refine B h fun ah ai h=>W.app (α:=UInt8) (i:=2) S el27 rfl rfl rfl q af ai ?_
 intro t ar au aj z S
 refine Nn<|Fb ?_
 refine W.storeSl (α:=UInt8) (i:=1) [p,t] S z rfl rfl rfl lay27 (Nat.le_of_ble_eq_true rfl) rfl ?_
 intro av S
 refine We<|Ws<|Wg<|A<|We ?_
 obtain rfl:=oi h
 refine WP.ret (OutS.one (L':=[.box b 33 [p,t],.row t 5 1 ah.length]) rfl ((ad.trans x).trans aj) (S.pt 3 [1,2]) rfl ?_)
 exact ⟨_,_,rfl,rfl,ae,z⟩
end Go.Proofs
