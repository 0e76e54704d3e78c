/- A part of the proof of laws of the seat: written by program over the translation. -/
import Derived.Test.YtljjaiijlaeoeaaGreatDoorEng38
import Derived.Test.YtljjaiijlaeoeaaGreatDoorEng36
import Derived.Test.YtljjaiijlaeoeaaGreatDoorGenP20
namespace Go.Proofs
set_option maxHeartbeats 4000000
set_option maxRecDepth 10000
open Go.Eng Go.Eng.Pure
set_option linter.unusedVariables false
theorem zJJ {w0:World} {H0:Hp} (hw:Holds w0 H0) (hG:Tryz.Gl w0) (al:(List Int)) {aj:Value} (j:Sl (α:=Int) H0 aj al) {r:Bool} (h:zFe al=some r) :
  Con Tryz.prog 4 [aj] w0 H0 (fun H' v=>v=(boo r)):=by
 refine Con.mk (N:=69) Tryz.func4 rfl rfl kr rfl ?_
 have S:=St.start hw
 refine Ws<|Wg<|A<|We<|Ws<|Ws<|Wg<|M<|Nq j<|Lc<|We ?_
 rcases condE h with ⟨a9,h⟩ | ⟨a9,h⟩
 ·refine CT a9<|Ws<|Wg<|A<|We ?_
  obtain rfl:=oi h
  refine WP.ret (Out.one rfl S rfl ?_)
  exact rfl
 refine CF a9<|Wk<|Ws<|Wg<|B h fun c bx h=>W.call S rfl (zOD S.holds (hG.post S.post)  bx) ?_
 rintro v3 w4 H5 bz S rfl
 have j:=Sl.mono j bz
 refine W.inl (args:=[(agg [(str c.fName),(int c.fBytes),(int c.fVariants),(int c.fTables),(boo c.fStrict),(boo c.fRefuse)])]) rfl (N':=43) Tryz.func13 rfl rfl kr rfl<|Ws<|Wg ?_
 refine W.box [(str c.fName),(int c.fBytes),(int c.fVariants),(int c.fTables),(boo c.fStrict),(boo c.fRefuse)] S rfl rfl ?_
 intro b7 w8 S
 refine A<|A<|We<|Ws<|Wg<|Fb ?_
 refine Lo 0 S<|Fb ?_
 refine Lo 0 S<|Fb ?_
 refine Lo 0 S<|W.inl (args:=[(int c.fBytes),(int c.fVariants),(int c.fTables)]) rfl (N':=36) Tryz.func36 rfl rfl kr rfl ?_
 refine Ws<|Wg<|A<|A<|We<|Ws<|Ws<|Wg<|M<|La<|M ?_
 refine WL.grp 3 [11,12] 13 (boo ((decide (c.fBytes<1))||(decide (100000000<c.fBytes)))) ?_ ?_
 ·rcases boolE (decide (c.fBytes<1)) with ac | ac
  ·refine Gn ac<|Gn ac<|Pt ac ?_
   exact We ⟨(orT ac),ag,rfl⟩
  refine Gy ac<|M<|Gy ac<|Lc<|Pf ac ?_
  exact We ⟨(orF ac),ag,rfl⟩
 intro us
 refine M ?_
 refine WL.grp 3 [15,16] 17 (boo (((decide (c.fBytes<1))||(decide (100000000<c.fBytes)))||(decide (c.fVariants<1)))) ?_ ?_
 ·rcases boolE ((decide (c.fBytes<1))||(decide (100000000<c.fBytes))) with ad | ad
  ·refine Gn ad<|Gn ad<|Pt ad ?_
   exact We ⟨(orT ad),ag,rfl⟩
  refine Gy ad<|M<|Gy ad<|La<|Pf ad ?_
  exact We ⟨(orF ad),ag,rfl⟩
 intro us
 refine M ?_
 refine WL.grp 3 [19,20] 21 (boo ((((decide (c.fBytes<1))||(decide (100000000<c.fBytes)))||(decide (c.fVariants<1)))||(decide (64<c.fVariants)))) ?_ ?_
 ·rcases boolE (((decide (c.fBytes<1))||(decide (100000000<c.fBytes)))||(decide (c.fVariants<1))) with ae | ae
  ·refine Gn ae<|Gn ae<|Pt ae ?_
   exact We ⟨(orT ae),ag,rfl⟩
  refine Gy ae<|M<|Gy ae<|Lc<|Pf ae ?_
  exact We ⟨(orF ae),ag,rfl⟩
 intro us
 refine M ?_
 refine WL.grp 3 [23,24] 25 (boo (((((decide (c.fBytes<1))||(decide (100000000<c.fBytes)))||(decide (c.fVariants<1)))||(decide (64<c.fVariants)))||(decide (c.fTables<1)))) ?_ ?_
 ·rcases boolE ((((decide (c.fBytes<1))||(decide (100000000<c.fBytes)))||(decide (c.fVariants<1)))||(decide (64<c.fVariants))) with af | af
  ·refine Gn af<|Gn af<|Pt af ?_
   exact We ⟨(orT af),ag,rfl⟩
  refine Gy af<|M<|Gy af<|La<|Pf af ?_
  exact We ⟨(orF af),ag,rfl⟩
 intro us
 refine M ?_
 refine WL.grp 3 [27,28] 29 (boo ((((((decide (c.fBytes<1))||(decide (100000000<c.fBytes)))||(decide (c.fVariants<1)))||(decide (64<c.fVariants)))||(decide (c.fTables<1)))||(decide (1000<c.fTables)))) ?_ ?_
 ·rcases boolE (((((decide (c.fBytes<1))||(decide (100000000<c.fBytes)))||(decide (c.fVariants<1)))||(decide (64<c.fVariants)))||(decide (c.fTables<1))) with ah | ah
  ·refine Gn ah<|Gn ah<|Pt ah ?_
   exact We ⟨(orT ah),ag,rfl⟩
  refine Gy ah<|M<|Gy ah<|Lc<|Pf ah ?_
  exact We ⟨(orF ah),ag,rfl⟩
 intro us
 refine We ?_
 rcases condE h with ⟨ba,h⟩ | ⟨ba,h⟩
 ·refine CT ba ?_
  cases h
 refine CF ba<|Wk<|Ws<|Wg<|M<|M<|M<|W.makeMap S ?_
 intro p cp S
 refine WL.w (R.build [(0,(int c.fBytes)),(1,(int c.fVariants)),(2,(int c.fTables)),(5,(mapv p))] [(int c.fBytes),(int c.fVariants),(int c.fTables),(int 0),(.slice none 0 0),(mapv p)] bp136 zMj rfl rfl) ?_
 refine W.box [(int c.fBytes),(int c.fVariants),(int c.fTables),(int 0),(.slice none 0 0),(mapv p)] S rfl rfl ?_
 intro k cq S
 refine A<|A<|We ?_
 refine WP.ret (In.two rfl rfl rfl ?_)
 refine M ?_
 refine Ex ?_
 refine Ex<|A<|A<|We<|Ws<|Ws<|Wg<|M ?_
 refine WL.w (v:=boo false) (R.ofEq (R.neq rfl rfl) rfl)<|M ?_
 refine Gy rfl<|Fb<|Gy rfl ?_
 refine Lo 2 S<|Gy rfl<|B h fun a8 b0 h=>W.call S rfl (zNU S.holds (hG.post S.post) c.fName b0) ?_
 rintro cr cs bq b1 S rfl
 have j:=Sl.mono j b1
 refine Gy rfl<|No<|Pf rfl<|M ?_
 refine WL.grp 5 [25,26,27,28] 29 (boo ((!a8)||(decide (100<(c.fName.length:Int))))) ?_ ?_
 ·rcases boolE (!a8) with q | q
  ·refine Gn q<|Gn q<|Gn q<|Gn q<|Pt q ?_
   exact We ⟨(orT q),ag,rfl⟩
  refine Gy q<|Fb<|Gy q ?_
  refine Lo 2 S<|Gy q<|Ns<|Gy q<|Lc<|Pf q ?_
  exact We ⟨(orF q),ag,rfl⟩
 intro us
 refine M ?_
 refine WL.grp 8 [31,32,33,34,35,36,37] 38 (boo (((!a8)||(decide (100<(c.fName.length:Int))))||(c.fRefuse&&(!c.fStrict)))) ?_ ?_
 ·rcases boolE ((!a8)||(decide (100<(c.fName.length:Int)))) with l | l
  ·refine Gn l<|Gn l<|Gn l<|WL.gund rfl rfl<|WL.gund rfl rfl<|WL.gund rfl rfl<|Gn l<|Pt l ?_
   exact We ⟨(orT l),ag,rfl⟩
  refine Gy l<|Fb<|Gy l ?_
  refine Lo 2 S<|Gy l<|M ?_
  refine WL.grp 4 [34,35,36] 37 (boo (c.fRefuse&&(!c.fStrict))) ?_ ?_
  ·rcases boolE c.fRefuse with t | t
   ·refine Gy t<|Fb<|Gy t ?_
    refine Lo 2 S<|Gy t<|No<|Gy l<|Pt t ?_
    exact We ⟨(andT t),ag,rfl⟩
   refine Gn t<|Gn t<|Gn t<|Gy l<|Pf t ?_
   exact We ⟨(andF t),ag,rfl⟩
  intro us
  refine Pf l ?_
  exact We ⟨(orF l),ag,rfl⟩
 intro us
 refine We ?_
 rcases condE h with ⟨bb,h⟩ | ⟨bb,h⟩
 ·refine CT bb ?_
  cases h
 refine CF bb<|Wk<|Ws<|Wg ?_
 refine WL.w (R.loadBN (i:=2) (vs:=[(str c.fName),(int c.fBytes),(int c.fVariants),(int c.fTables),(boo c.fStrict),(boo c.fRefuse)]) S rfl rfl lay38 rfl rfl)<|M ?_
 refine WL.w (R.build [(0,(agg [(str c.fName),(int c.fBytes),(int c.fVariants),(int c.fTables),(boo c.fStrict),(boo c.fRefuse)])),(1,(ptr k 0))] [(str c.fName),(int c.fBytes),(int c.fVariants),(int c.fTables),(boo c.fStrict),(boo c.fRefuse),(ptr k 0),(int 0),(.pointer none)] bp54 zer54 rfl rfl) ?_
 refine W.box [(str c.fName),(int c.fBytes),(int c.fVariants),(int c.fTables),(boo c.fStrict),(boo c.fRefuse),(ptr k 0),(int 0),(.pointer none)] S rfl rfl ?_
 intro u ct S
 refine A<|A<|We ?_
 refine WP.ret (In.two rfl rfl rfl ?_)
 replace S:St w0 H0 _ bq [.box u 54 [(str c.fName),(int c.fBytes),(int c.fVariants),(int c.fTables),(boo c.fStrict),(boo c.fRefuse),(ptr k 0),(int 0),(.pointer none)],.box k 136 [(int c.fBytes),(int c.fVariants),(int c.fTables),(int 0),(.slice none 0 0),(mapv p)],.mp p []]:=(S.drop _ (.cons_cons _ (.cons_cons _ (.cons_cons _ (.cons _ .slnil)))))
 refine M ?_
 refine Ex ?_
 refine Ex<|A<|A<|We<|Ws<|Ws<|Wg<|M ?_
 refine WL.w (v:=boo false) (R.ofEq (R.neq rfl rfl) rfl)<|M ?_
 refine Gy rfl<|M<|Gy rfl ?_
 refine WL.w (v:=boo false) (R.ofEq (R.eqlPN rfl rfl Tryz.underlying34) rfl)<|Pf rfl<|We<|WP.condF (b:=false) rfl rfl<|Wk<|Ws<|Wg<|A<|We ?_
 refine Ws<|Ws<|Wg<|A<|We<|B h fun bc b2 h=>WP.cut (fun f w=>match bc with | .inl _=>∃ (br:Hp),St w0 H0 w br [] | .inr _=>False) ?_ ?_
 ·refine Wb ?_
  refine WP.loopM (zAm al) (fun s f w=>match s with | (bs,bd,aq,ar,au,av,aw,ax,am,a0,a1,a2,a3,a4)=>∃ (ay:Hp) (z:Value),f 0=aj∧f 3=(ptr u 0)∧f 5=(int bs)∧f 6=(int bd)∧Sl (α:=Int) ay aj al∧Sl (α:=Str) ay z a4∧St w0 H0 w ay [.box u 54 [(str aq),(int ar),(int au),(int av),(boo aw),(boo ax),(ptr k 0),(int am),(.pointer none)],.box k 136 [(int a0),(int a1),(int a2),(int a3),z,(mapv p)],.mp p []]) (0,0,c.fName,c.fBytes,c.fVariants,c.fTables,c.fStrict,c.fRefuse,0,c.fBytes,c.fVariants,c.fTables,0,([]:List Str)) bc b2 ?_ ?_
  ·exact ⟨bq,.slice none 0 0,rfl,rfl,rfl,rfl,j,Sl.nil,S⟩
  intro s f w hI cu d be
  obtain ⟨bs,bd,aq,ar,au,av,aw,ax,am,a0,a1,a2,a3,a4⟩:=s
  obtain ⟨ay,z,an,bf,bg,ao,j,x,S⟩:=hI
  refine Ws<|Ws<|Wg<|M' ao<|M' an<|Nq j<|La<|We ?_
  rcases condE d with ⟨bh,d⟩ | ⟨bh,d⟩
  ·refine CT bh<|Wk<|Ws<|Wb<|Ws<|Wg<|M' bf<|M' an<|M' ao<|B d fun bi b3 d=>W.idx (α:=Int) j rfl rfl el33 b3 ?_
   rintro cv _ b4 rfl
   refine Lq S b4 ?_
   obtain ⟨⟨ak,bj⟩,a5,d⟩:=bindE d
   refine W.inl (args:=[(ptr u 0),(int bi)]) rfl (N':=26) Tryz.func15 rfl rfl kr rfl (WP.inC (fun f w=>∃ (az:Hp),f 4=(int ak)∧Sl (α:=Str) az z a4∧Sl (α:=Int) az aj al∧St w0 H0 w az [.box u 54 [(str aq),(int ar),(int au),(int av),(boo aw),(boo ax),(ptr k 0),(int bj),(.pointer none)],.box k 136 [(int a0),(int a1),(int a2),(int a3),z,(mapv p)],.mp p []]) ?_ ?_)
   ·refine Ws<|Wg<|A<|We<|Ws<|Wb<|Ws<|Wg<|M<|W.inl (args:=[(ptr u 0)]) rfl (N':=12) Tryz.func38 rfl rfl kr rfl<|Ws<|Wg ?_
    refine A<|We<|Ws<|Wg<|M ?_
    refine WL.w (v:=boo true) (R.ofEq (R.neqPN rfl rfl Tryz.underlying34) rfl)<|M<|Gy rfl<|M<|Gy rfl<|Nn<|Gy rfl ?_
    refine Fb<|Gy rfl ?_
    refine Lo 0 S<|Gy rfl ?_
    refine WL.w (v:=boo true) (R.ofEq (R.neqPN rfl rfl Tryz.underlying51) rfl)<|Pt rfl<|A<|We ?_
    refine WP.ret (In.one rfl rfl ?_)
    refine WL.w (v:=boo false) (R.ofEq (R.not rfl) rfl)<|A<|We<|WP.condF (b:=false) rfl rfl<|Ws<|Wg<|M<|La<|A<|We ?_
    rcases condE a5 with ⟨bk,a5⟩ | ⟨bk,a5⟩
    ·refine CT bk<|Ws<|Wg<|A<|We ?_
     cases oi a5
     refine WP.ret ?_
     exact ⟨.inl rfl,⟨ay,rfl,x,j,S⟩⟩
    refine CF bk<|Wk<|Ws<|WP.quietTail 14 S kr kr<|QM<|QNn<|QFb ?_
    refine WQ.val (fun w hw=>by obtain ⟨_,hq,S⟩:=hw; exact (R.loadB (i:=0) (v:=int am) S rfl rfl lay2 rfl))<|QM<|QM<|QNn<|QFb ?_
    refine WQ.val (fun w hw=>by obtain ⟨_,hq,S⟩:=hw; exact (R.loadB (i:=0) (v:=int am) S rfl rfl lay2 rfl))<|QLh<|QNi<|QLg<|QNn<|QFb<|WQ.nil ?_
    intro cw b5 bt S
    have x:=Sl.mono x bt
    have j:=Sl.mono j bt
    refine W.store (i:=0) [(str aq),(int ar),(int au),(int av),(boo aw),(boo ax),(ptr k 0),(int (wr (am+(if (wr (1099511627776 - am))<bi then (wr (1099511627776 - am)) else bi)))),(.pointer none)] S rfl rfl rfl lay2 rfl rfl (Nat.le_of_ble_eq_true rfl) rfl ?_
    intro cx S
    refine We<|Ws<|Wg<|A<|We ?_
    cases oi a5
    refine WP.ret ?_
    exact ⟨.inl rfl,⟨b5,rfl,x,j,S⟩⟩
   rintro f w ⟨az,b6,x,j,S⟩
   refine InR.one rfl b6<|A<|We<|Ws<|Ws<|Wg<|M<|Le<|M' an<|M' ao<|B d fun bu b7 d=>W.idx (α:=Int) j rfl rfl el33 b7 ?_
   rintro cy _ b8 rfl
   refine Lq S b8<|La<|Nh<|M ?_
   refine WL.grp 7 [43,44,45,46,47,48] 49 (boo (((ak==10) !=(decide (bu<0)))||((ak !=0)&&(ak !=10)))) ?_ ?_
   ·rcases boolE ((ak==10) !=(decide (bu<0))) with o | o
    ·refine Gn o<|Gn o<|Gn o<|WL.gund rfl rfl<|WL.gund rfl rfl<|Gn o<|Pt o ?_
     exact We ⟨(orT o),ag,rfl⟩
    refine Gy o<|M<|Gy o<|Lf<|Gy o<|M ?_
    refine WL.grp 3 [46,47] 48 (boo ((ak !=0)&&(ak !=10))) ?_ ?_
    ·rcases boolE (ak !=0) with ai | ai
     ·refine Gy ai<|M<|Gy ai<|Lf<|Gy o<|Pt ai ?_
      exact We ⟨(andT ai),ag,rfl⟩
     refine Gn ai<|Gn ai<|Gy o<|Pf ai ?_
     exact We ⟨(andF ai),ag,rfl⟩
    intro us
    refine Pf o ?_
    exact We ⟨(orF o),ag,rfl⟩
   intro us
   refine We ?_
   rcases condE d with ⟨bn,d⟩ | ⟨bn,d⟩
   ·refine CT bn<|Ws<|Wg<|A<|We ?_
    obtain rfl:=oi d
    obtain rfl:=be
    obtain rfl:=oi h
    refine WP.ret (Out.one rfl S rfl ?_)
    exact rfl
   refine CF bn<|Wk<|Ws<|Ws<|Wg<|M' an<|M' ao<|B d fun cz b9 d=>W.idx (α:=Int) j rfl rfl el33 b9 ?_
   rintro c0 _ ca rfl
   refine Lq S ca<|Lc<|We<|B d fun cb ap d=>WP.cut (fun f w=>∃ (a6:Hp),f 0=aj∧f 3=(ptr u 0)∧f 5=(int cb)∧f 6=(int bd)∧Sl (α:=Int) a6 aj al∧Sl (α:=Str) a6 z a4∧St w0 H0 w a6 [.box u 54 [(str aq),(int ar),(int au),(int av),(boo aw),(boo ax),(ptr k 0),(int bj),(.pointer none)],.box k 136 [(int a0),(int a1),(int a2),(int a3),z,(mapv p)],.mp p []]) ?_ ?_
   ·rcases condE ap with ⟨bo,ap⟩ | ⟨bo,ap⟩
    ·refine CT bo<|Wg<|M' bg<|M' an<|M' ao<|B ap fun c1 cc ap=>W.idx (α:=Int) j rfl rfl el33 cc ?_
     rintro c2 _ cd rfl
     refine Lq S cd<|M' bg<|Lh<|Ni<|Lg<|A<|We ?_
     obtain rfl:=oi ap
     exact ⟨az,an,bf,rfl,ao,j,x,S⟩
    refine CF bo<|Wk ?_
    obtain rfl:=oi ap
    exact ⟨az,an,bf,bg,ao,j,x,S⟩
   rintro f w ⟨a6,ce,bv,bw,cf,j,x,S⟩
   refine Ws<|Wg<|M' bv<|B d fun cg ch d=>W.inl (args:=[(ptr u 0)]) rfl (N':=10) Tryz.func16 rfl rfl kr rfl (WP.inC (fun f w=>∃ (a7:Hp),f 2=(int cg)∧Sl (α:=Str) a7 z a4∧Sl (α:=Int) a7 aj al∧St w0 H0 w a7 [.box u 54 [(str aq),(int ar),(int au),(int av),(boo aw),(boo ax),(ptr k 0),(int bj),(.pointer none)],.box k 136 [(int a0),(int a1),(int a2),(int a3),z,(mapv p)],.mp p []]) ?_ ?_)
   ·refine Ws<|Wg<|A<|We<|Ws<|Ws<|Wg<|M<|W.inl (args:=[(ptr u 0)]) rfl (N':=12) Tryz.func38 rfl rfl kr rfl<|Ws<|Wg<|A ?_
    refine We<|Ws<|Wg<|M ?_
    refine WL.w (v:=boo true) (R.ofEq (R.neqPN rfl rfl Tryz.underlying34) rfl)<|M<|Gy rfl<|M<|Gy rfl<|Nn<|Gy rfl<|Fb ?_
    refine Gy rfl ?_
    refine Lo 0 S<|Gy rfl ?_
    refine WL.w (v:=boo true) (R.ofEq (R.neqPN rfl rfl Tryz.underlying51) rfl)<|Pt rfl<|A<|We ?_
    refine WP.ret (In.one rfl rfl ?_)
    refine WL.w (v:=boo false) (R.ofEq (R.not rfl) rfl)<|We<|WP.condF (b:=false) rfl rfl<|Wk<|Ws<|Wg<|M<|Nn<|Fb ?_
    refine Lo 0 S<|A<|We ?_
    obtain rfl:=oi ch
    refine WP.ret ?_
    exact ⟨.inl rfl,⟨a6,rfl,x,j,S⟩⟩
   rintro f w ⟨a7,ci,x,j,S⟩
   refine InR.one rfl ci<|M' bw<|Lf<|We ?_
   rcases condE d with ⟨bp,d⟩ | ⟨bp,d⟩
   ·refine CT bp<|Ws<|Wg<|A<|We ?_
    obtain rfl:=oi d
    obtain rfl:=be
    obtain rfl:=oi h
    refine WP.ret (Out.one rfl S rfl ?_)
    exact rfl
   refine CF bp<|Wk<|Wg<|M' cf<|Lg<|A<|We ?_
   obtain rfl:=oi d
   exact ⟨rfl,⟨a7,z,ce,bv,bw,rfl,j,x,S⟩⟩
  refine CF bh<|Wx ?_
  obtain rfl:=oi d
  obtain rfl:=be
  exact ⟨ay,(S.drop _ (.cons _ (.cons _ (.cons _ .slnil))))⟩
 intro f w hM
 rcases bc with _ | e
 ·obtain ⟨br,S⟩:=hM
  refine Ws<|Wg<|B h fun c3 cj h=>W.call S rfl (zJ9 S.holds (hG.post S.post)  cj) ?_
  rintro c4 c5 c6 c7 S rfl
  refine A<|We ?_
  obtain rfl:=oi h
  refine WP.ret (Out.one rfl S rfl ?_)
  exact rfl
 exact hM.elim
end Go.Proofs
