/- A part. -/
import Derived.Test.YtljjaiijlaeoeaaGreatDoorEng38
import Derived.Test.YtljjaiijlaeoeaaGreatDoorEng36
import Derived.Test.YtljjaiijlaeoeaaGreatDoorGenP22
namespace Go.Proofs
set_option maxHeartbeats 4000000
set_option maxRecDepth 10000
open Go.Eng Go.Eng.Pure
set_option linter.unusedVariables false
theorem zJ5 {l:World} {o:Hp} (hw:Holds l o) (hG:Tryz.Gl l) (c:GConfig) {r:Bool} (h:zJz c=some r) :
  Cb Tryz.prog 5 [(agg [(str c.fName),(int c.fBytes),(int c.fVariants),(int c.fTables),(boo c.fStrict),(boo c.fRefuse)])] l o r:=by
 refine CM 56 Tryz.func5 hw fun S=>?_
 refine Ws<|Wg ?_
 refine W.box [(str c.fName),(int c.fBytes),(int c.fVariants),(int c.fTables),(boo c.fStrict),(boo c.fRefuse)] S rfl rfl ?_
 intro b1 w2 S
 refine A<|We<|Ws<|Ws<|Wg<|Fb ?_
 refine Lo 0 S<|Ns<|Lc<|We ?_
 rcases condE h with ⟨au,h⟩ | ⟨au,h⟩
 ·refine CT au<|Ws<|Wg<|A<|We ?_
  exact WP.ret (Rb h S)
 refine CF au<|Wk<|Ws<|Wg ?_
 refine WL.w (R.loadBN (i:=0) (vs:=[(str c.fName),(int c.fBytes),(int c.fVariants),(int c.fTables),(boo c.fStrict),(boo c.fRefuse)]) S rfl rfl lay38 rfl rfl)<|W.inl (args:=[(agg [(str c.fName),(int c.fBytes),(int c.fVariants),(int c.fTables),(boo c.fStrict),(boo c.fRefuse)])]) rfl (N':=43) Tryz.func13 rfl rfl kr rfl<|Ws<|Wg ?_
 refine W.box [(str c.fName),(int c.fBytes),(int c.fVariants),(int c.fTables),(boo c.fStrict),(boo c.fRefuse)] S rfl rfl ?_
 intro b4 w5 S
 refine A<|A<|We<|Ws<|Wg<|Fb ?_
 refine Lo 0 S<|Fb ?_
 refine Lo 0 S<|Fb ?_
 refine Lo 0 S<|W.inl (args:=[(int c.fBytes),(int c.fVariants),(int c.fTables)]) rfl (N':=36) Tryz.func36 rfl rfl kr rfl ?_
 refine Ws<|Wg<|A<|A<|We<|Ws<|Ws<|Wg<|M<|La<|M ?_
 refine WL.grp 3 [11,12] 13 (boo ((decide (c.fBytes<1))||(decide (100000000<c.fBytes)))) ?_ ?_
 ·rcases boolE (decide (c.fBytes<1)) with z | z
  ·refine Gn z<|Gn z<|Pt z ?_
   exact We ⟨(orT z),ag,rfl⟩
  refine Gy z<|M<|Gy z<|Lc<|Pf z ?_
  exact We ⟨(orF z),ag,rfl⟩
 intro us
 refine M ?_
 refine WL.grp 3 [15,16] 17 (boo (((decide (c.fBytes<1))||(decide (100000000<c.fBytes)))||(decide (c.fVariants<1)))) ?_ ?_
 ·rcases boolE ((decide (c.fBytes<1))||(decide (100000000<c.fBytes))) with aa | aa
  ·refine Gn aa<|Gn aa<|Pt aa ?_
   exact We ⟨(orT aa),ag,rfl⟩
  refine Gy aa<|M<|Gy aa<|La<|Pf aa ?_
  exact We ⟨(orF aa),ag,rfl⟩
 intro us
 refine M ?_
 refine WL.grp 3 [19,20] 21 (boo ((((decide (c.fBytes<1))||(decide (100000000<c.fBytes)))||(decide (c.fVariants<1)))||(decide (64<c.fVariants)))) ?_ ?_
 ·rcases boolE (((decide (c.fBytes<1))||(decide (100000000<c.fBytes)))||(decide (c.fVariants<1))) with ab | ab
  ·refine Gn ab<|Gn ab<|Pt ab ?_
   exact We ⟨(orT ab),ag,rfl⟩
  refine Gy ab<|M<|Gy ab<|Lc<|Pf ab ?_
  exact We ⟨(orF ab),ag,rfl⟩
 intro us
 refine M ?_
 refine WL.grp 3 [23,24] 25 (boo (((((decide (c.fBytes<1))||(decide (100000000<c.fBytes)))||(decide (c.fVariants<1)))||(decide (64<c.fVariants)))||(decide (c.fTables<1)))) ?_ ?_
 ·rcases boolE ((((decide (c.fBytes<1))||(decide (100000000<c.fBytes)))||(decide (c.fVariants<1)))||(decide (64<c.fVariants))) with ac | ac
  ·refine Gn ac<|Gn ac<|Pt ac ?_
   exact We ⟨(orT ac),ag,rfl⟩
  refine Gy ac<|M<|Gy ac<|La<|Pf ac ?_
  exact We ⟨(orF ac),ag,rfl⟩
 intro us
 refine M ?_
 refine WL.grp 3 [27,28] 29 (boo ((((((decide (c.fBytes<1))||(decide (100000000<c.fBytes)))||(decide (c.fVariants<1)))||(decide (64<c.fVariants)))||(decide (c.fTables<1)))||(decide (1000<c.fTables)))) ?_ ?_
 ·rcases boolE (((((decide (c.fBytes<1))||(decide (100000000<c.fBytes)))||(decide (c.fVariants<1)))||(decide (64<c.fVariants)))||(decide (c.fTables<1))) with ad | ad
  ·refine Gn ad<|Gn ad<|Pt ad ?_
   exact We ⟨(orT ad),ag,rfl⟩
  refine Gy ad<|M<|Gy ad<|Lc<|Pf ad ?_
  exact We ⟨(orF ad),ag,rfl⟩
 intro us
 refine We ?_
 rcases condE h with ⟨av,h⟩ | ⟨av,h⟩
 ·refine CT av<|Ws<|Wg<|A<|A<|We ?_
  refine WP.ret (In.two rfl rfl rfl ?_)
  refine M ?_
  refine Ex ?_
  refine Ex<|A<|A<|We<|Ws<|Ws<|Wg<|M ?_
  refine WL.w (v:=boo true) (R.ofEq (R.neq rfl rfl) rfl)<|M ?_
  refine Gn rfl<|Gn rfl<|Gn rfl<|Gn rfl<|Pt rfl<|M<|Gn rfl<|Gn rfl<|Gn rfl<|Gn rfl<|Pt rfl<|M ?_
  refine Gn rfl<|Gn rfl<|Gn rfl<|WL.gund rfl rfl<|WL.gund rfl rfl<|WL.gund rfl rfl<|Gn rfl<|Pt rfl<|We<|WP.condT (b:=true) rfl rfl<|Ws<|Wg ?_
  refine A<|A<|We ?_
  refine WP.ret (In.two rfl rfl rfl ?_)
  replace S:St l o _ o [.box b1 38 [(str c.fName),(int c.fBytes),(int c.fVariants),(int c.fTables),(boo c.fStrict),(boo c.fRefuse)]]:=(S.pk [1])
  refine M ?_
  refine Ex ?_
  refine Ex<|A<|A<|We<|Ws<|Ws<|Wg ?_
  refine WL.w (R.loadBN (i:=0) (vs:=[(str c.fName),(int c.fBytes),(int c.fVariants),(int c.fTables),(boo c.fStrict),(boo c.fRefuse)]) S rfl rfl lay38 rfl rfl)<|B h fun ce ba h=>W.call S rfl (zJy S.holds (hG.post S.post) c ba) ?_
  rintro cf cg ch ci S rfl
  refine No<|We ?_
  rcases condE h with ⟨aw,h⟩ | ⟨aw,h⟩
  ·refine CT aw<|Ws<|Wg<|M ?_
   refine WL.w (v:=boo true) (R.ofEq (R.eqlPN rfl rfl Tryz.underlying34) rfl)<|M<|Gy rfl<|M<|Gy rfl ?_
   refine WL.w (v:=boo true) (R.ofEq (R.eql rfl rfl) rfl)<|Pt rfl<|M ?_
   refine Gy rfl<|B h fun cj bb h=>W.call S rfl (zAR S.holds (hG.post S.post)  bb) ?_
   rintro ck cl cm cn S rfl
   refine Pt rfl<|A<|We ?_
   exact WP.ret (Rb h S)
  refine CF aw<|Wk<|Ws<|Wg<|M ?_
  refine WL.w (v:=boo false) (R.ofEq (R.neqPN rfl rfl Tryz.underlying34) rfl)<|M<|Gn rfl<|Gn rfl<|Pf rfl<|M<|Gn rfl ?_
  refine Gn rfl<|Gn rfl<|Pf rfl<|M<|Gn rfl<|Gn rfl<|Gn rfl<|Pf rfl<|M<|Gn rfl<|Gn rfl<|Gn rfl ?_
  refine Pf rfl<|M<|Gn rfl<|Gn rfl<|Gn rfl<|Gn rfl<|Pf rfl<|M<|Gn rfl<|Pf rfl<|A<|We ?_
  exact WP.ret (Rb h S)
 refine CF av<|Wk<|Ws<|Wg<|M<|M<|M<|W.makeMap S ?_
 intro j co S
 refine WL.w (R.build [(0,(int c.fBytes)),(1,(int c.fVariants)),(2,(int c.fTables)),(5,(mapv j))] [(int c.fBytes),(int c.fVariants),(int c.fTables),(int 0),(.slice none 0 0),(mapv j)] bp136 zJu rfl rfl) ?_
 refine W.box [(int c.fBytes),(int c.fVariants),(int c.fTables),(int 0),(.slice none 0 0),(mapv j)] S rfl rfl ?_
 intro d cp S
 refine A<|A<|We ?_
 refine WP.ret (In.two rfl rfl rfl ?_)
 refine M ?_
 refine Ex ?_
 refine Ex<|A<|A<|We<|Ws<|Ws<|Wg<|M ?_
 refine WL.w (v:=boo false) (R.ofEq (R.neq rfl rfl) rfl)<|M ?_
 refine Gy rfl<|Fb<|Gy rfl ?_
 refine Lo 2 S<|Gy rfl<|B h fun am bc h=>W.call S rfl (zA0 S.holds (hG.post S.post) c.fName bc) ?_
 rintro cq cr a4 cs S rfl
 refine Gy rfl<|No<|Pf rfl<|M ?_
 refine WL.grp 5 [25,26,27,28] 29 (boo ((!am)||(decide (100<(c.fName.length:Int))))) ?_ ?_
 ·rcases boolE (!am) with q | q
  ·refine Gn q<|Gn q<|Gn q<|Gn q<|Pt q ?_
   exact We ⟨(orT q),ag,rfl⟩
  refine Gy q<|Fb<|Gy q ?_
  refine Lo 2 S<|Gy q<|Ns<|Gy q<|Lc<|Pf q ?_
  exact We ⟨(orF q),ag,rfl⟩
 intro us
 refine M ?_
 refine WL.grp 8 [31,32,33,34,35,36,37] 38 (boo (((!am)||(decide (100<(c.fName.length:Int))))||(c.fRefuse&&(!c.fStrict)))) ?_ ?_
 ·rcases boolE ((!am)||(decide (100<(c.fName.length:Int)))) with p | p
  ·refine Gn p<|Gn p<|Gn p<|WL.gund rfl rfl<|WL.gund rfl rfl<|WL.gund rfl rfl<|Gn p<|Pt p ?_
   exact We ⟨(orT p),ag,rfl⟩
  refine Gy p<|Fb<|Gy p ?_
  refine Lo 2 S<|Gy p<|M ?_
  refine WL.grp 4 [34,35,36] 37 (boo (c.fRefuse&&(!c.fStrict))) ?_ ?_
  ·rcases boolE c.fRefuse with u | u
   ·refine Gy u<|Fb<|Gy u ?_
    refine Lo 2 S<|Gy u<|No<|Gy p<|Pt u ?_
    exact We ⟨(andT u),ag,rfl⟩
   refine Gn u<|Gn u<|Gn u<|Gy p<|Pf u ?_
   exact We ⟨(andF u),ag,rfl⟩
  intro us
  refine Pf p ?_
  exact We ⟨(orF p),ag,rfl⟩
 intro us
 refine We ?_
 rcases condE h with ⟨ax,h⟩ | ⟨ax,h⟩
 ·refine CT ax<|Ws<|Wg<|A<|A<|We ?_
  refine WP.ret (In.two rfl rfl rfl ?_)
  replace S:St l o _ a4 [.box b1 38 [(str c.fName),(int c.fBytes),(int c.fVariants),(int c.fTables),(boo c.fStrict),(boo c.fRefuse)]]:=(S.pk [3])
  refine M ?_
  refine Ex ?_
  refine Ex<|A<|A<|We<|Ws<|Ws<|Wg ?_
  refine WL.w (R.loadBN (i:=0) (vs:=[(str c.fName),(int c.fBytes),(int c.fVariants),(int c.fTables),(boo c.fStrict),(boo c.fRefuse)]) S rfl rfl lay38 rfl rfl)<|B h fun ct bd h=>W.call S rfl (zJy S.holds (hG.post S.post) c bd) ?_
  rintro cu cv cw cx S rfl
  refine No<|We ?_
  rcases condE h with ⟨ay,h⟩ | ⟨ay,h⟩
  ·refine CT ay<|Ws<|Wg<|M ?_
   refine WL.w (v:=boo true) (R.ofEq (R.eqlPN rfl rfl Tryz.underlying34) rfl)<|M<|Gy rfl<|M<|Gy rfl ?_
   refine WL.w (v:=boo true) (R.ofEq (R.eql rfl rfl) rfl)<|Pt rfl<|M ?_
   refine Gy rfl<|B h fun cy be h=>W.call S rfl (zAR S.holds (hG.post S.post)  be) ?_
   rintro cz c0 c1 c2 S rfl
   refine Pt rfl<|A<|We ?_
   exact WP.ret (Rb h S)
  refine CF ay<|Wk<|Ws<|Wg<|M ?_
  refine WL.w (v:=boo false) (R.ofEq (R.neqPN rfl rfl Tryz.underlying34) rfl)<|M<|Gn rfl<|Gn rfl<|Pf rfl<|M<|Gn rfl ?_
  refine Gn rfl<|Gn rfl<|Pf rfl<|M<|Gn rfl<|Gn rfl<|Gn rfl<|Pf rfl<|M<|Gn rfl<|Gn rfl<|Gn rfl ?_
  refine Pf rfl<|M<|Gn rfl<|Gn rfl<|Gn rfl<|Gn rfl<|Pf rfl<|M<|Gn rfl<|Pf rfl<|A<|We ?_
  exact WP.ret (Rb h S)
 refine CF ax<|Wk<|Ws<|Wg ?_
 refine WL.w (R.loadBN (i:=2) (vs:=[(str c.fName),(int c.fBytes),(int c.fVariants),(int c.fTables),(boo c.fStrict),(boo c.fRefuse)]) S rfl rfl lay38 rfl rfl)<|M ?_
 refine WL.w (R.build [(0,(agg [(str c.fName),(int c.fBytes),(int c.fVariants),(int c.fTables),(boo c.fStrict),(boo c.fRefuse)])),(1,(ptr d 0))] [(str c.fName),(int c.fBytes),(int c.fVariants),(int c.fTables),(boo c.fStrict),(boo c.fRefuse),(ptr d 0),(int 0),(.pointer none)] bp54 zer54 rfl rfl) ?_
 refine W.box [(str c.fName),(int c.fBytes),(int c.fVariants),(int c.fTables),(boo c.fStrict),(boo c.fRefuse),(ptr d 0),(int 0),(.pointer none)] S rfl rfl ?_
 intro k c3 S
 refine A<|A<|We ?_
 refine WP.ret (In.two rfl rfl rfl ?_)
 replace S:St l o _ a4 [.box k 54 [(str c.fName),(int c.fBytes),(int c.fVariants),(int c.fTables),(boo c.fStrict),(boo c.fRefuse),(ptr d 0),(int 0),(.pointer none)],.box d 136 [(int c.fBytes),(int c.fVariants),(int c.fTables),(int 0),(.slice none 0 0),(mapv j)],.mp j [],.box b1 38 [(str c.fName),(int c.fBytes),(int c.fVariants),(int c.fTables),(boo c.fStrict),(boo c.fRefuse)]]:=(S.pk [0,1,2,4])
 refine M ?_
 refine Ex ?_
 refine Ex<|A<|A<|We<|Ws<|Ws<|Wg ?_
 refine WL.w (R.loadBN (i:=3) (vs:=[(str c.fName),(int c.fBytes),(int c.fVariants),(int c.fTables),(boo c.fStrict),(boo c.fRefuse)]) S rfl rfl lay38 rfl rfl)<|B h fun c4 bf h=>W.call S rfl (zJy S.holds (hG.post S.post) c bf) ?_
 rintro c5 c6 a5 c7 S rfl
 refine No<|We ?_
 rcases condE h with ⟨az,h⟩ | ⟨az,h⟩
 ·refine CT az<|Ws<|Wg<|M ?_
  refine WL.w (v:=boo false) (R.ofEq (R.eqlPN rfl rfl Tryz.underlying34) rfl)<|M<|Gn rfl<|Gn rfl<|Pf rfl<|M<|Gn rfl<|Pf rfl ?_
  refine A<|We ?_
  exact WP.ret (Rb h S)
 refine CF az<|Wk<|Ws<|Wg<|M ?_
 refine WL.w (v:=boo true) (R.ofEq (R.neqPN rfl rfl Tryz.underlying34) rfl)<|M<|Gy rfl<|M<|Gy rfl ?_
 refine WL.w (v:=boo true) (R.ofEq (R.eql rfl rfl) rfl)<|Pt rfl ?_
 refine M<|Gy rfl<|M<|Gy rfl<|W.inl (args:=[(ptr k 0)]) rfl (N':=12) Tryz.func18 rfl rfl kr rfl<|Ws<|Wg<|A<|We<|Ws<|Wg<|M ?_
 refine W.inl (args:=[(ptr k 0)]) rfl (N':=12) Tryz.func38 rfl rfl kr rfl<|Ws<|Wg<|A<|We<|Ws<|Wg<|M ?_
 refine WL.w (v:=boo true) (R.ofEq (R.neqPN rfl rfl Tryz.underlying34) rfl)<|M<|Gy rfl<|M ?_
 refine Gy rfl<|Nn<|Gy rfl<|Fb<|Gy rfl ?_
 refine Lo 0 S<|Gy rfl ?_
 refine WL.w (v:=boo true) (R.ofEq (R.neqPN rfl rfl Tryz.underlying51) rfl)<|Pt rfl<|A<|We ?_
 refine WP.ret (In.one rfl rfl ?_)
 replace S:St l o _ a5 [.box k 54 [(str c.fName),(int c.fBytes),(int c.fVariants),(int c.fTables),(boo c.fStrict),(boo c.fRefuse),(ptr d 0),(int 0),(.pointer none)],.box d 136 [(int c.fBytes),(int c.fVariants),(int c.fTables),(int 0),(.slice none 0 0),(mapv j)],.mp j []]:=(S.pk [0,1,2])
 refine M<|Gy rfl<|M<|Gy rfl<|Nn<|Gy rfl<|Fb<|Gy rfl ?_
 refine Lo 0 S<|Gy rfl ?_
 refine WL.w (v:=boo false) (R.ofEq (R.neqPN rfl rfl Tryz.underlying52) rfl)<|Pt rfl ?_
 refine A<|We ?_
 refine WP.ret (In.one rfl rfl ?_)
 refine Gy rfl ?_
 refine WL.w (v:=boo true) (R.ofEq (R.not rfl) rfl)<|Pt rfl<|M<|Gy rfl<|M<|Gy rfl<|B h fun a6 bg h=>W.inl (args:=[(ptr k 0)]) rfl (N':=10) Tryz.func16 rfl rfl kr rfl (WP.inC (fun f w=>∃ (ai:Hp),f 2=(int a6)∧St l o w ai [.box k 54 [(str c.fName),(int c.fBytes),(int c.fVariants),(int c.fTables),(boo c.fStrict),(boo c.fRefuse),(ptr d 0),(int 0),(.pointer none)],.box d 136 [(int c.fBytes),(int c.fVariants),(int c.fTables),(int 0),(.slice none 0 0),(mapv j)],.mp j []]) ?_ ?_)
 ·refine Ws<|Wg<|A<|We<|Ws<|Ws<|Wg<|M<|W.inl (args:=[(ptr k 0)]) rfl (N':=12) Tryz.func38 rfl rfl kr rfl<|Ws<|Wg<|A ?_
  refine We<|Ws<|Wg<|M ?_
  refine WL.w (v:=boo true) (R.ofEq (R.neqPN rfl rfl Tryz.underlying34) rfl)<|M<|Gy rfl<|M<|Gy rfl<|Nn<|Gy rfl<|Fb ?_
  refine Gy rfl ?_
  refine Lo 0 S<|Gy rfl ?_
  refine WL.w (v:=boo true) (R.ofEq (R.neqPN rfl rfl Tryz.underlying51) rfl)<|Pt rfl<|A<|We ?_
  refine WP.ret (In.one rfl rfl ?_)
  refine WL.w (v:=boo false) (R.ofEq (R.not rfl) rfl)<|We<|WP.condF (b:=false) rfl rfl<|Wk<|Ws<|Wg<|M<|Nn<|Fb ?_
  refine Lo 0 S<|A<|We ?_
  obtain rfl:=oi bg
  refine WP.ret ?_
  exact ⟨.inl rfl,⟨a5,rfl,S⟩⟩
 rintro f w ⟨ai,bh,S⟩
 refine InR.one rfl bh<|Gy rfl<|Le<|Pt rfl<|M<|B h fun a7 ae h=>WL.grpw 4 [43,44,45] 46 (boo a7) (fun w=>∃ H':Hp,ai.le H'∧St l o w H' [.box k 54 [(str c.fName),(int c.fBytes),(int c.fVariants),(int c.fTables),(boo c.fStrict),(boo c.fRefuse),(ptr d 0),(int 0),(.pointer none)],.box d 136 [(int c.fBytes),(int c.fVariants),(int c.fTables),(int 0),(.slice none 0 0),(mapv j)],.mp j []]) ?_ ?_
 ·rcases boolE (a6==0) with x | x
  ·replace ae:=condT ae x
   refine Gy x<|M<|Gy x<|B ae fun bi a0 ae=>W.inl (args:=[(ptr k 0)]) rfl (N':=11) Tryz.func19 rfl rfl kr rfl (WP.inC (fun f w=>∃ (an:Hp),f 2=(int bi)∧Hp.le ai an∧St l o w an [.box k 54 [(str c.fName),(int c.fBytes),(int c.fVariants),(int c.fTables),(boo c.fStrict),(boo c.fRefuse),(ptr d 0),(int 0),(.pointer none)],.box d 136 [(int c.fBytes),(int c.fVariants),(int c.fTables),(int 0),(.slice none 0 0),(mapv j)],.mp j []]) ?_ ?_)
   ·refine Ws<|Wg<|A<|We<|Ws<|Ws<|Wg<|M<|W.inl (args:=[(ptr k 0)]) rfl (N':=12) Tryz.func38 rfl rfl kr rfl<|Ws<|Wg<|A ?_
    refine We<|Ws<|Wg<|M ?_
    refine WL.w (v:=boo true) (R.ofEq (R.neqPN rfl rfl Tryz.underlying34) rfl)<|M<|Gy rfl<|M<|Gy rfl<|Nn<|Gy rfl<|Fb ?_
    refine Gy rfl ?_
    refine Lo 0 S<|Gy rfl ?_
    refine WL.w (v:=boo true) (R.ofEq (R.neqPN rfl rfl Tryz.underlying51) rfl)<|Pt rfl<|A<|We ?_
    refine WP.ret (In.one rfl rfl ?_)
    refine WL.w (v:=boo false) (R.ofEq (R.not rfl) rfl)<|We<|WP.condF (b:=false) rfl rfl<|Wk<|Ws<|Wg<|M<|Nn<|Fb ?_
    refine Lo 0 S<|B a0 fun bj bk a0=>W.inl (args:=[(ptr d 0)]) rfl (N':=10) Tryz.func41 rfl rfl kr rfl (WP.inC (fun f w=>∃ (ao:Hp),f 2=(int bj)∧Hp.le ai ao∧St l o w ao [.box k 54 [(str c.fName),(int c.fBytes),(int c.fVariants),(int c.fTables),(boo c.fStrict),(boo c.fRefuse),(ptr d 0),(int 0),(.pointer none)],.box d 136 [(int c.fBytes),(int c.fVariants),(int c.fTables),(int 0),(.slice none 0 0),(mapv j)],.mp j []]) ?_ ?_)
    ·refine Ws<|Wg<|A<|We<|Ws<|Ws<|Wg<|M<|W.inl (args:=[(ptr d 0)]) rfl (N':=12) Tryz.func78 rfl rfl kr rfl<|Ws<|Wg<|A ?_
     refine We<|Ws<|Wg<|M ?_
     refine WL.w (v:=boo true) (R.ofEq (R.neqPN rfl rfl Tryz.underlying51) rfl)<|M<|Gy rfl<|M<|Gy rfl<|Nn<|Gy rfl<|Fb ?_
     refine Gy rfl ?_
     refine Lo 1 S<|Gy rfl ?_
     refine WL.w (v:=boo true) (R.ofEq (R.neqMN rfl rfl Tryz.underlying134) rfl)<|Pt rfl<|A<|We ?_
     refine WP.ret (In.one rfl rfl ?_)
     refine WL.w (v:=boo false) (R.ofEq (R.not rfl) rfl)<|We<|WP.condF (b:=false) rfl rfl<|Wk<|Ws<|Wg<|M<|Nn<|Fb ?_
     refine Lo 1 S<|A<|We ?_
     obtain rfl:=oi bk
     refine WP.ret ?_
     exact ⟨.inl rfl,⟨ai,rfl,lr,S⟩⟩
    rintro f w ⟨ao,bn,bo,S⟩
    refine InR.one rfl bn<|A<|We ?_
    obtain rfl:=oi a0
    refine WP.ret ?_
    exact ⟨.inl rfl,⟨ao,rfl,bo,S⟩⟩
   rintro f w ⟨an,bp,bq,S⟩
   refine InR.one rfl bp<|Gy x<|Le<|Pt x ?_
   exact We ⟨(ob ae),ag,⟨an,bq,S⟩⟩
  replace ae:=condF ae x
  refine Gn x<|Gn x<|Gn x<|Pf x ?_
  exact We ⟨(ob ae),ag,⟨ai,lr,S⟩⟩
 intro us c8 ⟨ap,c9,S⟩
 refine M<|B h fun a8 af h=>WL.grpw 5 [48,49,50,51] 52 (boo a8) (fun w=>∃ H':Hp,ap.le H'∧St l o w H' [.box k 54 [(str c.fName),(int c.fBytes),(int c.fVariants),(int c.fTables),(boo c.fStrict),(boo c.fRefuse),(ptr d 0),(int 0),(.pointer none)],.box d 136 [(int c.fBytes),(int c.fVariants),(int c.fTables),(int 0),(.slice none 0 0),(mapv j)],.mp j []]) ?_ ?_
 ·rcases boolE a7 with t | t
  ·replace af:=condT af t
   refine Gy t<|M<|Gy t<|B af fun br a1 af=>W.inl (args:=[(ptr k 0)]) rfl (N':=11) Tryz.func20 rfl rfl kr rfl (WP.inC (fun f w=>∃ (ak:Hp) (a2:Value),f 2=a2∧Sl ak a2 br∧Hp.le ap ak∧St l o w ak [.box k 54 [(str c.fName),(int c.fBytes),(int c.fVariants),(int c.fTables),(boo c.fStrict),(boo c.fRefuse),(ptr d 0),(int 0),(.pointer none)],.box d 136 [(int c.fBytes),(int c.fVariants),(int c.fTables),(int 0),(.slice none 0 0),(mapv j)],.mp j []]) ?_ ?_)
   ·refine Ws<|Wg<|A<|We<|Ws<|Ws<|Wg<|M<|W.inl (args:=[(ptr k 0)]) rfl (N':=12) Tryz.func38 rfl rfl kr rfl<|Ws<|Wg<|A ?_
    refine We<|Ws<|Wg<|M ?_
    refine WL.w (v:=boo true) (R.ofEq (R.neqPN rfl rfl Tryz.underlying34) rfl)<|M<|Gy rfl<|M<|Gy rfl<|Nn<|Gy rfl<|Fb ?_
    refine Gy rfl ?_
    refine Lo 0 S<|Gy rfl ?_
    refine WL.w (v:=boo true) (R.ofEq (R.neqPN rfl rfl Tryz.underlying51) rfl)<|Pt rfl<|A<|We ?_
    refine WP.ret (In.one rfl rfl ?_)
    refine WL.w (v:=boo false) (R.ofEq (R.not rfl) rfl)<|We<|WP.condF (b:=false) rfl rfl<|Wk<|Ws<|Wg<|M<|Nn<|Fb ?_
    refine Lo 0 S<|B a1 fun bs a3 a1=>W.inl (args:=[(ptr d 0)]) rfl (N':=11) Tryz.func42 rfl rfl kr rfl (WP.inC (fun f w=>∃ (al:Hp) (aq:Value),f 2=aq∧Sl al aq bs∧Hp.le ap al∧St l o w al [.box k 54 [(str c.fName),(int c.fBytes),(int c.fVariants),(int c.fTables),(boo c.fStrict),(boo c.fRefuse),(ptr d 0),(int 0),(.pointer none)],.box d 136 [(int c.fBytes),(int c.fVariants),(int c.fTables),(int 0),(.slice none 0 0),(mapv j)],.mp j []]) ?_ ?_)
    ·refine Ws<|Wg<|A<|We<|Ws<|Ws<|Wg<|M<|W.inl (args:=[(ptr d 0)]) rfl (N':=12) Tryz.func78 rfl rfl kr rfl<|Ws<|Wg<|A ?_
     refine We<|Ws<|Wg<|M ?_
     refine WL.w (v:=boo true) (R.ofEq (R.neqPN rfl rfl Tryz.underlying51) rfl)<|M<|Gy rfl<|M<|Gy rfl<|Nn<|Gy rfl<|Fb ?_
     refine Gy rfl ?_
     refine Lo 1 S<|Gy rfl ?_
     refine WL.w (v:=boo true) (R.ofEq (R.neqMN rfl rfl Tryz.underlying134) rfl)<|Pt rfl<|A<|We ?_
     refine WP.ret (In.one rfl rfl ?_)
     refine WL.w (v:=boo false) (R.ofEq (R.not rfl) rfl)<|We<|WP.condF (b:=false) rfl rfl<|Wk<|Ws<|Wg<|M<|Nn<|Fb ?_
     refine Lo 1 S<|B a3 fun da bt a3=>W.call S rfl (zAA S.holds (hG.post S.post) ([]:List Str) Sl.nil bt) ?_
     rintro bu db bv bw S bx
     refine A<|We ?_
     obtain rfl:=oi a3
     refine WP.ret ?_
     exact ⟨.inl rfl,⟨bv,bu,rfl,bx,bw,S⟩⟩
    rintro f w ⟨al,aq,bz,b0,b2,S⟩
    refine InR.one rfl bz<|A<|We ?_
    obtain rfl:=oi a1
    refine WP.ret ?_
    exact ⟨.inl rfl,⟨al,aq,rfl,b0,b2,S⟩⟩
   rintro f w ⟨ak,a2,b3,b5,b6,S⟩
   refine InR.one rfl b3<|Gy t<|Nq b5<|Gy t<|Le<|Pt t ?_
   exact We ⟨(ob af),ag,⟨ak,b6,S⟩⟩
  replace af:=condF af t
  refine Gn t<|Gn t<|Gn t<|Gn t<|Pf t ?_
  exact We ⟨(ob af),ag,⟨ap,lr,S⟩⟩
 intro us dc ⟨a9,dd,S⟩
 refine M<|B h fun b7 ah h=>WL.grpw 2 [54] 55 (boo b7) (fun w=>∃ H':Hp,a9.le H'∧St l o w H' [.box k 54 [(str c.fName),(int c.fBytes),(int c.fVariants),(int c.fTables),(boo c.fStrict),(boo c.fRefuse),(ptr d 0),(int 0),(.pointer none)],.box d 136 [(int c.fBytes),(int c.fVariants),(int c.fTables),(int 0),(.slice none 0 0),(mapv j)],.mp j []]) ?_ ?_
 ·rcases boolE a8 with aj | aj
  ·replace ah:=condT ah aj
   refine Gy aj<|B ah fun de b8 ah=>W.call S rfl (zAR S.holds (hG.post S.post)  b8) ?_
   rintro df dg b9 ca S rfl
   refine Pt aj ?_
   exact We ⟨(ob ah),ag,⟨b9,ca,S⟩⟩
  replace ah:=condF ah aj
  refine Gn aj<|Pf aj ?_
  exact We ⟨(ob ah),ag,⟨a9,lr,S⟩⟩
 intro us dh ⟨di,dj,S⟩
 refine A<|We ?_
 exact WP.ret (Rb h S)
end Go.Proofs
