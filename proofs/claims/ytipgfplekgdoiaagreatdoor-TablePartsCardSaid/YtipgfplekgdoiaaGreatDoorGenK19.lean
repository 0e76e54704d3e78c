/- A part. -/
import Derived.Test.YtipgfplekgdoiaaGreatDoorEng38
import Derived.Test.YtipgfplekgdoiaaGreatDoorEng36
import Derived.Test.YtipgfplekgdoiaaGreatDoorGenK18
namespace Go.Proofs
set_option maxHeartbeats 4000000
set_option maxRecDepth 10000
open Go.Eng Go.Eng.Pure
set_option linter.unusedVariables false
theorem zJg {p:World} {d:Hp} (hw:Holds p d) (f:GTable) (q:(List GField)) (z:Bool) {t:Value} {u:Value} {l:Value} (b:Sl d t f.fAxes) (c:Sl d u f.fEntries) (j:Sl d l q) {r:(Int×Bool)} (h:zFq f q z=some r) :
  Con Tryz.prog 11 [(agg [t,u]),l,(boo z)] p d (fun H' v=>v=(.tuple ⟨[(int r.1),(boo r.2)]⟩)):=by
 refine CM 32 Tryz.func11 hw fun S=>?_
 refine Ws<|Wg ?_
 refine W.box [t,u] S rfl rfl ?_
 intro b1 w2 S
 refine W.box [l] S rfl (congrArg Array.toList (Sl.cellsOne j)) ?_
 intro x w4 S
 refine A<|A<|We<|Ws<|Ws<|Wg<|Fb ?_
 refine Lo 1 S<|Nq b<|Le<|We ?_
 rcases condE h with ⟨ab,h⟩ | ⟨ab,h⟩
 ·refine CT ab<|Ws<|Wg<|Fb ?_
  refine Lo 1 S ?_
  obtain ⟨H6,aq,ar,_,S⟩:=S.settle (i:=0) rfl
  replace S:St p d _ H6 [.box b1 25 [t,u]]:=S
  have au:At H6 ⟨x,0,none⟩ [l]:=⟨_,_,rfl,ar,[],by simp⟩
  have ⟨b,c,j⟩:=U3 aq b c j
  refine WL.w (R.mkFunc (vs:=[(.pointer (some ⟨x,0,none⟩))]) rfl)<|B h fun a6 av h=>W.call S rfl (zGN S.holds f.fEntries (fun k=>zFW k q) c (fun hle hw k=>fun ac ad ae af r h=>zJG hw k q ac ad ae af (At.mono au hle (by simp)) (j.up hle) h) av) ?_
  rintro a7 a8 a9 aw S rfl
  have ⟨b,c,j⟩:=U3 aw b c j
  refine A<|A<|We ?_
  obtain rfl:=oi h
  refine WP.ret (Out.two rfl S rfl rfl ?_)
  exact rfl
 refine CF ab<|Wk<|Ws<|Wg<|Fb ?_
 refine Lo 1 S ?_
 refine Lo 0 S<|M<|B h fun an ax h=>W.call S rfl (zH6 S.holds f.fAxes q z b j ax) ?_
 rintro ba bb bc ay S ⟨ah,rfl,o⟩
 have ⟨b,c⟩:=U2 ay b c
 refine M ?_
 refine Ex ?_
 refine Ex ?_
 refine W.alloc [(.slice none 0 0)] S zer34 ?_
 intro ai bd S
 refine W.storeSl (α:=Str) (i:=0) [ah] S o rfl rfl rfl lay34 (Nat.le_of_ble_eq_true rfl) rfl ?_
 intro be S
 refine A<|We<|Ws<|Ws<|Wg<|M<|No<|We ?_
 rcases condE h with ⟨aj,h⟩ | ⟨aj,h⟩
 ·refine CT aj<|Ws<|Wg<|A<|A<|We ?_
  obtain rfl:=oi h
  refine WP.ret (Out.two rfl S rfl rfl ?_)
  exact rfl
 refine CF aj<|Wk<|Ws<|Wg<|Fb ?_
 refine Lo 2 S ?_
 obtain ⟨ao,az,a0,_,S⟩:=S.settle (i:=2) rfl
 replace S:St p d _ ao [.box ai 34 [ah],.box x 26 [l]]:=S
 have ak:At ao ⟨b1,0,none⟩ [t,u]:=⟨_,_,rfl,a0,[],by simp⟩
 have ⟨b,c,o⟩:=U3 az b c o
 obtain ⟨ap,al,a1,_,S⟩:=S.settle (i:=0) rfl
 replace S:St p d _ ap [.box x 26 [l]]:=S
 have a2:At ap ⟨ai,0,none⟩ [ah]:=⟨_,_,rfl,a1,[],by simp⟩
 have ⟨b,c⟩:=U2 al b c
 have ak:=At.mono ak al (by simp)
 have o:=o.up al
 refine WL.w (R.mkFunc (vs:=[(.pointer (some ⟨b1,0,none⟩)),(.pointer (some ⟨ai,0,none⟩))]) rfl)<|B h fun bf a3 h=>W.call S rfl (zGN S.holds f.fEntries (fun k=>zFQ k f an.1) c (fun hle hw k=>fun ac ad ae af r h=>zJE hw k f an.1 ac ad ae af (At.mono ak hle (by simp)) (b.up hle) (c.up hle) (At.mono a2 hle (by simp)) (o.up hle) h) a3) ?_
 rintro bg bh bi bj S rfl
 refine A<|A<|We ?_
 obtain rfl:=oi h
 refine WP.ret (Out.two rfl S rfl rfl ?_)
 exact rfl
theorem zJK {w0:World} {H0:Hp} (hw:Holds w0 H0) {r:Bool} (h:zF9=some r) :
  Cb Tryz.prog 13 [] w0 H0 r:=by
 refine CM 51 Tryz.func13 hw fun S=>?_
 refine Ws<|Wg<|A<|We<|Ws<|Wg<|W.bslice (α:=Str) [(str [101,110]),(str [102,114])] ([[101,110],[102,114]]:List Str) S el34 rfl rfl rfl (by decide) (Go.Eng.encS ⟨rfl,rfl⟩ (Go.Eng.encS ⟨rfl,rfl⟩ enc0)) ?_
 intro u1 w2 H3 bn R5 S
 refine WL.w (R.build [(0,(str [97,99,99,101,112,116,45,108,97,110,103,117,97,103,101])),(1,u1)] [(str [97,99,99,101,112,116,45,108,97,110,103,117,97,103,101]),u1] bp68 zer68 rfl (by obtain ⟨_,_,rfl,_⟩:=R5; rfl))<|W.bslice (α:=GAxis) [(agg [(str [97,99,99,101,112,116,45,108,97,110,103,117,97,103,101]),u1])] ([(⟨[97,99,99,101,112,116,45,108,97,110,103,117,97,103,101],([[101,110],[102,114]]:List Str)⟩:GAxis)]:List GAxis) S el22 rfl rfl rfl (by decide) (Go.Eng.encS ⟨rfl,_,rfl,R5⟩ enc0) ?_
 intro u6 w7 H8 bq c S
 refine A<|We<|Ws<|Wg ?_
 refine WL.w (R.build [] [(.slice none 0 0),(.slice none 0 0)] bp25 zer25 rfl rfl)<|W.bslice (α:=Str) [(str [101,110])] ([[101,110]]:List Str) S el34 rfl rfl rfl (by decide) (Go.Eng.encS ⟨rfl,rfl⟩ enc0) ?_
 intro ao br bs ax z S
 have c:=c.up ax
 refine W.bslice (α:=Str) [(str [102,114])] ([[102,114]]:List Str) S el34 rfl rfl rfl (by decide) (Go.Eng.encS ⟨rfl,rfl⟩ enc0) ?_
 intro ap bt bu ay af S
 have ⟨c,z⟩:=U2 ay c z
 refine W.bslice (α:=(List Str)) [ao,ap] ([([[101,110]]:List Str),([[102,114]]:List Str)]:List (List Str)) S el33 rfl rfl rfl (by decide) (Go.Eng.encS ⟨(by rw [Sl.cellsOne z]; rfl),_,(by rw [Sl.cellsOne z]),z⟩ (Go.Eng.encS ⟨(by rw [Sl.cellsOne af]; rfl),_,(by rw [Sl.cellsOne af]),af⟩ enc0)) ?_
 intro ah bv bw az aq S
 have c:=c.up az
 refine WL.w (R.build [(0,ah),(5,(str [49]))] [ah,(.slice none 0 0),(.slice none 0 0),(str []),(.slice none 0 0),(str [49]),(int 0),(int 0)] bp36 zer36 rfl (by obtain ⟨_,_,rfl,_⟩:=aq; rfl))<|M<|B h fun a0 a1 h=>W.call S rfl (zII S.holds (⟨([]:List GAxis),([]:List GEntry)⟩:GTable) (⟨([([[101,110]]:List Str),([[102,114]]:List Str)]:List (List Str)),([]:List Str),([]:List Str),[],([]:List GField),[49],0,0⟩:GEntry) ([(⟨[97,99,99,101,112,116,45,108,97,110,103,117,97,103,101],([[101,110],[102,114]]:List Str)⟩:GAxis)]:List GAxis) 5 Sl.nil Sl.nil aq Sl.nil Sl.nil Sl.nil c a1) ?_
 rintro bx bz b0 a2 S ⟨ai,aj,rfl,t,u⟩
 have c:=c.up a2
 refine W.alloc [(.slice none 0 0),(.slice none 0 0)] S zer25 ?_
 intro a3 b1 S
 refine W.store (i:=0) [ai,aj] S rfl rfl rfl lay25 rfl (AllOne.all (l:=[ai,aj]) (.cons (Sl.oneC t) (.cons (Sl.oneC u) .nil))) (Nat.le_of_ble_eq_true rfl) rfl ?_
 intro b2 S
 refine We<|Ws<|Wg ?_
 refine WL.w (R.loadBN (i:=0) (vs:=[ai,aj]) S rfl rfl lay25 rfl rfl)<|W.bslice (α:=Str) [(str [102,114])] ([[102,114]]:List Str) S el34 rfl rfl rfl (by decide) (Go.Eng.encS ⟨rfl,rfl⟩ enc0) ?_
 intro ar b3 b4 a4 ak S
 have ⟨c,t,u⟩:=U3 a4 c t u
 refine W.bslice (α:=(List Str)) [ar] ([([[102,114]]:List Str)]:List (List Str)) S el33 rfl rfl rfl (by decide) (Go.Eng.encS ⟨(by rw [Sl.cellsOne ak]; rfl),_,(by rw [Sl.cellsOne ak]),ak⟩ enc0) ?_
 intro al b5 b6 a5 au S
 have ⟨c,t,u⟩:=U3 a5 c t u
 refine WL.w (R.build [(0,al),(5,(str [50]))] [al,(.slice none 0 0),(.slice none 0 0),(str []),(.slice none 0 0),(str [50]),(int 0),(int 0)] bp36 zer36 rfl (by obtain ⟨_,_,rfl,_⟩:=au; rfl))<|M<|B h fun am a6 h=>W.call S rfl (zII S.holds a0 (⟨([([[102,114]]:List Str)]:List (List Str)),([]:List Str),([]:List Str),[],([]:List GField),[50],0,0⟩:GEntry) ([(⟨[97,99,99,101,112,116,45,108,97,110,103,117,97,103,101],([[101,110],[102,114]]:List Str)⟩:GAxis)]:List GAxis) 5 t u au Sl.nil Sl.nil Sl.nil c a6) ?_
 rintro b7 b8 b9 ca S ⟨aa,ab,rfl,p,d⟩
 refine W.store (i:=2) [aa,ab] S rfl rfl rfl lay25 rfl (AllOne.all (l:=[aa,ab]) (.cons (Sl.oneC p) (.cons (Sl.oneC d) .nil))) (Nat.le_of_ble_eq_true rfl) rfl ?_
 intro cb S
 refine We<|Ws<|Wg ?_
 refine WL.w (R.loadBN (i:=2) (vs:=[aa,ab]) S rfl rfl lay25 rfl rfl) ?_
 refine WL.w (R.build [(0,(str [65,99,99,101,112,116,45,76,97,110,103,117,97,103,101])),(1,(str [101,110]))] [(str [65,99,99,101,112,116,45,76,97,110,103,117,97,103,101]),(str [101,110])] bp64 zer64 rfl rfl)<|W.bslice (α:=GField) [(agg [(str [65,99,99,101,112,116,45,76,97,110,103,117,97,103,101]),(str [101,110])])] ([(⟨[65,99,99,101,112,116,45,76,97,110,103,117,97,103,101],[101,110]⟩:GField)]:List GField) S el26 rfl rfl rfl (by decide) (Go.Eng.encS ⟨rfl,rfl⟩ enc0) ?_
 intro a7 cc cd a8 a9 S
 have ⟨p,d⟩:=U2 a8 p d
 refine B h fun v ba h=>W.call S rfl (zJg S.holds am ([(⟨[65,99,99,101,112,116,45,76,97,110,103,117,97,103,101],[101,110]⟩:GField)]:List GField) true p d a9 ba) ?_
 rintro ce cf av bb S rfl
 have ⟨p,d⟩:=U2 bb p d
 refine M ?_
 refine Ex ?_
 refine Ex<|A<|A<|We<|Ws<|Wg<|Fb ?_
 refine Lo 3 S<|Nq d<|Le ?_
 refine M<|B h fun x k h=>WL.grp 7 [33,34,35,36,37,38] 39 (boo x) ?_ ?_
 ·rcases boolE ((am.fEntries.length:Int)==1) with b | b
  ·replace k:=condT k b
   refine Gy b<|Fb<|Gy b ?_
   refine Lo 3 S<|Gy b<|B k fun cg bc k=>W.idx (α:=GEntry) d rfl rfl el23 bc ?_
   rintro ch _ bd ⟨ci,cj,ck,cl,rfl,cm,cn,co,cp⟩
   refine Gy b<|Fc ?_
   have be:=At.add bd 5 (by simp)
   refine Gy b ?_
   refine Lq S be<|Gy b<|Na<|Pt b ?_
   exact We ⟨(ob k),ag,rfl⟩
  replace k:=condF k b
  refine Gn b<|Gn b<|Gn b<|Gn b<|Gn b<|Gn b<|Pf b ?_
  exact We ⟨(ob k),ag,rfl⟩
 intro us
 refine M ?_
 refine WL.grp 3 [41,42] 43 (boo (x&&(v.1==(-1)))) ?_ ?_
 ·rcases boolE x with f | f
  ·refine Gy f<|M<|Gy f<|Le<|Pt f ?_
   exact We ⟨(andT f),ag,rfl⟩
  refine Gn f<|Gn f<|Pf f ?_
  exact We ⟨(andF f),ag,rfl⟩
 intro us
 refine M ?_
 refine WL.grp 2 [45] 46 (boo ((x&&(v.1==(-1)))&&v.2)) ?_ ?_
 ·rcases boolE (x&&(v.1==(-1))) with q | q
  ·refine Gy q<|M<|Pt q ?_
   exact We ⟨(andT q),ag,rfl⟩
  refine Gn q<|Pf q ?_
  exact We ⟨(andF q),ag,rfl⟩
 intro us
 refine M<|B h fun bf o h=>WL.grpw 3 [48,49] 50 (boo bf) (fun w=>∃ H':Hp,av.le H'∧St w0 H0 w H' [.row a7 64 2 ([(⟨[65,99,99,101,112,116,45,76,97,110,103,117,97,103,101],[101,110]⟩:GField)]:List GField).length,.row al 34 1 ([([[102,114]]:List Str)]:List (List Str)).length,.row ar 9 1 ([[102,114]]:List Str).length,.box a3 25 [aa,ab],.row ah 34 1 ([([[101,110]]:List Str),([[102,114]]:List Str)]:List (List Str)).length,.row ap 9 1 ([[102,114]]:List Str).length,.row ao 9 1 ([[101,110]]:List Str).length,.row u6 68 2 ([(⟨[97,99,99,101,112,116,45,108,97,110,103,117,97,103,101],([[101,110],[102,114]]:List Str)⟩:GAxis)]:List GAxis).length,.row u1 9 1 ([[101,110],[102,114]]:List Str).length]) ?_ ?_
 ·rcases boolE ((x&&(v.1==(-1)))&&v.2) with j | j
  ·replace o:=condT o j
   refine Gy j ?_
   refine WL.w (R.loadBN (i:=3) (vs:=[aa,ab]) S rfl rfl lay25 rfl rfl)<|Gy j<|B o fun cq bg o=>W.call S rfl (zFb S.holds am 5 p d bg) ?_
   rintro cr cs bh bi S rfl
   refine Pt j ?_
   exact We ⟨(ob o),ag,⟨bh,bi,S⟩⟩
  replace o:=condF o j
  refine Gn j<|Gn j<|Pf j ?_
  exact We ⟨(ob o),ag,⟨av,lr,S⟩⟩
 intro us ct ⟨cu,cv,S⟩
 refine A<|We ?_
 exact WP.ret (Rb h S)
theorem zHM {w0:World} {H0:Hp} (hw:Holds w0 H0) (o:GTable) (t:Int) (x:Int) {k:Value} {l:Value} (b:Sl H0 k o.fAxes) (c:Sl H0 l o.fEntries) {r:Bool} (h:zEf o t x=some r) :
  Cb Tryz.prog 6 [(agg [k,l]),(int t),(int x)] w0 H0 r:=by
 refine CM 36 Tryz.func6 hw fun S=>?_
 refine Ws<|Wg ?_
 refine W.box [k,l] S rfl rfl ?_
 intro b1 w2 S
 refine A<|We<|Ws<|Ws<|Wg ?_
 refine WL.w (R.loadBN (i:=0) (vs:=[k,l]) S rfl rfl lay25 rfl rfl)<|B h fun r3 bw h=>W.call S rfl (zJs S.holds o b c bw) ?_
 rintro v4 w5 H6 bx S rfl
 have ⟨b,c⟩:=U2 bx b c
 refine No<|We ?_
 rcases condE h with ⟨a4,h⟩ | ⟨a4,h⟩
 ·refine CT a4<|Ws<|Wg<|A<|We ?_
  exact WP.ret (Rb h S)
 refine CF a4<|Wk<|Ws<|B h fun r9 aw h=>B h fun ax ay h=>B h fun ao az h=>B h fun z p h=>B h fun aa q h=>B h fun ab u h=>WP.cut (fun f w=>∃ (bj:Hp),f 6=(boo ab)∧St w0 H0 w bj []) ?_ ?_
 ·refine WP.drawC (Cl w0 H0 H6 [.box b1 25 [k,l]]) kr 27 rfl (bm 27 0) rfl ?_
  have S:=S.drew
  rcases boolE ao with d | d
  ·replace p:=condT p d
   refine B p fun cy a5 p=>B p fun cz a6 p=>?_
   rcases boolE z with j | j
   ·replace q:=condT q j
    refine B q fun c0 bk q=>B q fun c1 bn q=>?_
    rcases boolE aa with af | af
    ·replace u:=condT u af
     refine B u fun c2 bz u=>?_
     refine Ct 0 27 1 rfl (fun w hw=>by obtain ⟨_,hq,S⟩:=hw; exact (R.loadBN (i:=0) (vs:=[k,l]) S rfl rfl lay25 rfl rfl)) ?_
     refine Ct 1 27 3 rfl (fun _ _=>(R.mv (v:=int t) rfl)) ?_
     refine Ct 3 27 11 rfl (fun w hw=>by obtain ⟨_,hq,S⟩:=hw; exact (R.loadBN (i:=0) (vs:=[k,l]) S rfl rfl lay25 rfl rfl)) ?_
     refine Ct 4 27 27 rfl (fun _ _=>(R.mv (v:=int t) rfl)) ?_
     refine Cx [2] ⟨H6,lr,S⟩ (all1 ?_)
     refine Nx 27 31 rfl<|W.call S rfl (zDV S.holds o t b c aw) ?_
     rintro c3 c4 b0 ac S ⟨c5,c6,rfl,a7,a8⟩
     have ⟨b,c⟩:=U2 ac b c
     refine We ?_
     refine Cx [5] ⟨b0,ac,S⟩ (all1 ?_)
     refine Nx 27 63 rfl<|W.call S rfl (zDx S.holds o t b c ay) ?_
     rintro c7 c8 b2 ad S ⟨c9,da,rfl,b3,b4⟩
     have ⟨b,c,a7,a8⟩:=U4 ad b c a7 a8
     refine We ?_
     refine Cx [6] ⟨b2,(ac.trans ad),S⟩ (all1 ?_)
     refine Nx 27 127 rfl<|W.call S rfl (zCB S.holds r9 ax a7 a8 b3 b4 az) ?_
     rintro db dc b5 ah S rfl
     have ⟨b,c⟩:=U2 ah b c
     refine We ?_
     refine Ct 7 27 255 rfl (fun _ _=>(R.mv (v:=boo ao) rfl)) ?_
     refine WC.takeY (i:=8) (bm 27 511) rfl rfl rfl d kr kr kr rfl (fun w hw=>by obtain ⟨_,hq,S⟩:=hw; exact (R.loadBN (i:=0) (vs:=[k,l]) S rfl rfl lay25 rfl rfl)) ?_
     refine WC.takeY (i:=10) (bm 27 1535) rfl rfl rfl d kr kr kr rfl (fun w hw=>by obtain ⟨_,hq,S⟩:=hw; exact (R.loadBN (i:=0) (vs:=[k,l]) S rfl rfl lay25 rfl rfl)) ?_
     refine Cx [9] ⟨b5,((ac.trans ad).trans ah),S⟩ (all1 ?_)
     refine Nx 27 2047 rfl<|Gy d<|W.call S rfl (zF4 S.holds o b c a5) ?_
     rintro dd de b6 ak S rfl
     have ⟨b,c⟩:=U2 ak b c
     refine We ?_
     refine Cx [11] ⟨b6,(((ac.trans ad).trans ah).trans ak),S⟩ (all1 ?_)
     refine Nx 27 4095 rfl<|Gy d<|W.call S rfl (zDp S.holds o b c a6) ?_
     rintro df dh b7 ap S rfl
     have ⟨b,c⟩:=U2 ap b c
     refine We ?_
     refine WC.takeY (i:=12) (bm 27 8191) rfl rfl rfl d kr kr kr rfl (fun _ _=>(R.eql rfl rfl)) ?_
     refine WC.take (i:=13) (v:=boo z) (bm 27 16383) rfl kr kr kr rfl (fun _ _=>(R.ofEq (R.pickT rfl d rfl) (ob p))) ?_
     refine Ct 14 27 32767 rfl (fun _ _=>(R.mv (v:=boo z) rfl)) ?_
     refine WC.takeY (i:=15) (bm 27 65535) rfl rfl rfl j kr kr kr rfl (fun w hw=>by obtain ⟨_,hq,S⟩:=hw; exact (R.loadBN (i:=0) (vs:=[k,l]) S rfl rfl lay25 rfl rfl)) ?_
     refine WC.takeY (i:=16) (bm 27 131071) rfl rfl rfl j kr kr kr rfl (fun _ _=>(R.mv (v:=int x) rfl)) ?_
     refine WC.takeY (i:=18) (bm 27 393215) rfl rfl rfl j kr kr kr rfl (fun w hw=>by obtain ⟨_,hq,S⟩:=hw; exact (R.loadBN (i:=0) (vs:=[k,l]) S rfl rfl lay25 rfl rfl)) ?_
     refine WC.takeY (i:=19) (bm 27 917503) rfl rfl rfl j kr kr kr rfl (fun _ _=>(R.mv (v:=int x) rfl)) ?_
     refine Cx [17] ⟨b7,((((ac.trans ad).trans ah).trans ak).trans ap),S⟩ (all1 ?_)
     refine Nx 27 1048575 rfl<|Gy j<|W.call S rfl (zFb S.holds o x b c bk) ?_
     rintro di dj b8 a0 S rfl
     have ⟨b,c⟩:=U2 a0 b c
     refine We ?_
     refine Cx [20] ⟨b8,(((((ac.trans ad).trans ah).trans ak).trans ap).trans a0),S⟩ (all1 ?_)
     refine Nx 27 2097151 rfl<|Gy j<|W.call S rfl (zHC S.holds o x b c bn) ?_
     rintro dk dl b9 a9 S rfl
     have ⟨b,c⟩:=U2 a9 b c
     refine We ?_
     refine WC.takeY (i:=21) (bm 27 4194303) rfl rfl rfl j kr kr kr rfl (fun _ _=>(R.eqlB rfl rfl Tryz.underlying4)) ?_
     refine WC.take (i:=22) (v:=boo aa) (bm 27 8388607) rfl kr kr kr rfl (fun _ _=>(R.ofEq (R.pickT rfl j rfl) (ob q))) ?_
     refine Ct 23 27 16777215 rfl (fun _ _=>(R.mv (v:=boo aa) rfl)) ?_
     refine Cx [24] ⟨b9,((((((ac.trans ad).trans ah).trans ak).trans ap).trans a0).trans a9),S⟩ (all1 ?_)
     refine Nx 27 33554431 rfl<|Gy af<|W.call S rfl (zJK S.holds  bz) ?_
     rintro dm dn bo bp S rfl
     have ⟨b,c⟩:=U2 bp b c
     refine We ?_
     refine WC.take (i:=25) (v:=boo ab) (bm 27 67108863) rfl kr kr kr rfl (fun _ _=>(R.ofEq (R.pickT rfl af rfl) (ob u))) ?_
     refine Ct 26 27 134217727 rfl (fun _ _=>(R.as (v:=boo ab) rfl))<|WC.done ⟨bo,(((((((ac.trans ad).trans ah).trans ak).trans ap).trans a0).trans a9).trans bp),S⟩ kr ?_
     exact ⟨bo,rfl,(S.pk [])⟩
    replace u:=condF u af
    refine Ct 0 27 1 rfl (fun w hw=>by obtain ⟨_,hq,S⟩:=hw; exact (R.loadBN (i:=0) (vs:=[k,l]) S rfl rfl lay25 rfl rfl)) ?_
    refine Ct 1 27 3 rfl (fun _ _=>(R.mv (v:=int t) rfl)) ?_
    refine Ct 3 27 11 rfl (fun w hw=>by obtain ⟨_,hq,S⟩:=hw; exact (R.loadBN (i:=0) (vs:=[k,l]) S rfl rfl lay25 rfl rfl)) ?_
    refine Ct 4 27 27 rfl (fun _ _=>(R.mv (v:=int t) rfl)) ?_
    refine Cx [2] ⟨H6,lr,S⟩ (all1 ?_)
    refine Nx 27 31 rfl<|W.call S rfl (zDV S.holds o t b c aw) ?_
    rintro dp dq ca ae S ⟨dr,ds,rfl,ba,bb⟩
    have ⟨b,c⟩:=U2 ae b c
    refine We ?_
    refine Cx [5] ⟨ca,ae,S⟩ (all1 ?_)
    refine Nx 27 63 rfl<|W.call S rfl (zDx S.holds o t b c ay) ?_
    rintro dt du cb ai S ⟨dw,dx,rfl,cc,cd⟩
    have ⟨b,c,ba,bb⟩:=U4 ai b c ba bb
    refine We ?_
    refine Cx [6] ⟨cb,(ae.trans ai),S⟩ (all1 ?_)
    refine Nx 27 127 rfl<|W.call S rfl (zCB S.holds r9 ax ba bb cc cd az) ?_
    rintro dy dz ce al S rfl
    have ⟨b,c⟩:=U2 al b c
    refine We ?_
    refine Ct 7 27 255 rfl (fun _ _=>(R.mv (v:=boo ao) rfl)) ?_
    refine WC.takeY (i:=8) (bm 27 511) rfl rfl rfl d kr kr kr rfl (fun w hw=>by obtain ⟨_,hq,S⟩:=hw; exact (R.loadBN (i:=0) (vs:=[k,l]) S rfl rfl lay25 rfl rfl)) ?_
    refine WC.takeY (i:=10) (bm 27 1535) rfl rfl rfl d kr kr kr rfl (fun w hw=>by obtain ⟨_,hq,S⟩:=hw; exact (R.loadBN (i:=0) (vs:=[k,l]) S rfl rfl lay25 rfl rfl)) ?_
    refine Cx [9] ⟨ce,((ae.trans ai).trans al),S⟩ (all1 ?_)
    refine Nx 27 2047 rfl<|Gy d<|W.call S rfl (zF4 S.holds o b c a5) ?_
    rintro d0 d1 cf aq S rfl
    have ⟨b,c⟩:=U2 aq b c
    refine We ?_
    refine Cx [11] ⟨cf,(((ae.trans ai).trans al).trans aq),S⟩ (all1 ?_)
    refine Nx 27 4095 rfl<|Gy d<|W.call S rfl (zDp S.holds o b c a6) ?_
    rintro d2 d3 cg a1 S rfl
    have ⟨b,c⟩:=U2 a1 b c
    refine We ?_
    refine WC.takeY (i:=12) (bm 27 8191) rfl rfl rfl d kr kr kr rfl (fun _ _=>(R.eql rfl rfl)) ?_
    refine WC.take (i:=13) (v:=boo z) (bm 27 16383) rfl kr kr kr rfl (fun _ _=>(R.ofEq (R.pickT rfl d rfl) (ob p))) ?_
    refine Ct 14 27 32767 rfl (fun _ _=>(R.mv (v:=boo z) rfl)) ?_
    refine WC.takeY (i:=15) (bm 27 65535) rfl rfl rfl j kr kr kr rfl (fun w hw=>by obtain ⟨_,hq,S⟩:=hw; exact (R.loadBN (i:=0) (vs:=[k,l]) S rfl rfl lay25 rfl rfl)) ?_
    refine WC.takeY (i:=16) (bm 27 131071) rfl rfl rfl j kr kr kr rfl (fun _ _=>(R.mv (v:=int x) rfl)) ?_
    refine WC.takeY (i:=18) (bm 27 393215) rfl rfl rfl j kr kr kr rfl (fun w hw=>by obtain ⟨_,hq,S⟩:=hw; exact (R.loadBN (i:=0) (vs:=[k,l]) S rfl rfl lay25 rfl rfl)) ?_
    refine WC.takeY (i:=19) (bm 27 917503) rfl rfl rfl j kr kr kr rfl (fun _ _=>(R.mv (v:=int x) rfl)) ?_
    refine Cx [17] ⟨cg,((((ae.trans ai).trans al).trans aq).trans a1),S⟩ (all1 ?_)
    refine Nx 27 1048575 rfl<|Gy j<|W.call S rfl (zFb S.holds o x b c bk) ?_
    rintro d4 d5 ch bc S rfl
    have ⟨b,c⟩:=U2 bc b c
    refine We ?_
    refine Cx [20] ⟨ch,(((((ae.trans ai).trans al).trans aq).trans a1).trans bc),S⟩ (all1 ?_)
    refine Nx 27 2097151 rfl<|Gy j<|W.call S rfl (zHC S.holds o x b c bn) ?_
    rintro d6 d7 bq br S rfl
    have ⟨b,c⟩:=U2 br b c
    refine We ?_
    refine WC.takeY (i:=21) (bm 27 4194303) rfl rfl rfl j kr kr kr rfl (fun _ _=>(R.eqlB rfl rfl Tryz.underlying4)) ?_
    refine WC.take (i:=22) (v:=boo aa) (bm 27 8388607) rfl kr kr kr rfl (fun _ _=>(R.ofEq (R.pickT rfl j rfl) (ob q))) ?_
    refine Ct 23 27 16777215 rfl (fun _ _=>(R.mv (v:=boo aa) rfl))<|WC.takeN (i:=24) (bm 27 33554431) rfl rfl rfl af kr kr kr rfl ?_
    refine WC.take (i:=25) (v:=boo ab) (bm 27 67108863) rfl kr kr kr rfl (fun _ _=>(R.ofEq (R.pickF rfl af rfl) (ob u))) ?_
    refine Ct 26 27 134217727 rfl (fun _ _=>(R.as (v:=boo ab) rfl))<|WC.done ⟨bq,((((((ae.trans ai).trans al).trans aq).trans a1).trans bc).trans br),S⟩ kr ?_
    exact ⟨bq,rfl,(S.pk [])⟩
   replace q:=condF q j
   replace u:=condF u (oi q).symm
   refine Ct 0 27 1 rfl (fun w hw=>by obtain ⟨_,hq,S⟩:=hw; exact (R.loadBN (i:=0) (vs:=[k,l]) S rfl rfl lay25 rfl rfl)) ?_
   refine Ct 1 27 3 rfl (fun _ _=>(R.mv (v:=int t) rfl)) ?_
   refine Ct 3 27 11 rfl (fun w hw=>by obtain ⟨_,hq,S⟩:=hw; exact (R.loadBN (i:=0) (vs:=[k,l]) S rfl rfl lay25 rfl rfl)) ?_
   refine Ct 4 27 27 rfl (fun _ _=>(R.mv (v:=int t) rfl)) ?_
   refine Cx [2] ⟨H6,lr,S⟩ (all1 ?_)
   refine Nx 27 31 rfl<|W.call S rfl (zDV S.holds o t b c aw) ?_
   rintro d8 d9 ci am S ⟨ea,eb,rfl,bd,be⟩
   have ⟨b,c⟩:=U2 am b c
   refine We ?_
   refine Cx [5] ⟨ci,am,S⟩ (all1 ?_)
   refine Nx 27 63 rfl<|W.call S rfl (zDx S.holds o t b c ay) ?_
   rintro ec ed cj ar S ⟨ee,ef,rfl,ck,cl⟩
   have ⟨b,c,bd,be⟩:=U4 ar b c bd be
   refine We ?_
   refine Cx [6] ⟨cj,(am.trans ar),S⟩ (all1 ?_)
   refine Nx 27 127 rfl<|W.call S rfl (zCB S.holds r9 ax bd be ck cl az) ?_
   rintro eg eh cm a2 S rfl
   have ⟨b,c⟩:=U2 a2 b c
   refine We ?_
   refine Ct 7 27 255 rfl (fun _ _=>(R.mv (v:=boo ao) rfl)) ?_
   refine WC.takeY (i:=8) (bm 27 511) rfl rfl rfl d kr kr kr rfl (fun w hw=>by obtain ⟨_,hq,S⟩:=hw; exact (R.loadBN (i:=0) (vs:=[k,l]) S rfl rfl lay25 rfl rfl)) ?_
   refine WC.takeY (i:=10) (bm 27 1535) rfl rfl rfl d kr kr kr rfl (fun w hw=>by obtain ⟨_,hq,S⟩:=hw; exact (R.loadBN (i:=0) (vs:=[k,l]) S rfl rfl lay25 rfl rfl)) ?_
   refine Cx [9] ⟨cm,((am.trans ar).trans a2),S⟩ (all1 ?_)
   refine Nx 27 2047 rfl<|Gy d<|W.call S rfl (zF4 S.holds o b c a5) ?_
   rintro ei ej cn bf S rfl
   have ⟨b,c⟩:=U2 bf b c
   refine We ?_
   refine Cx [11] ⟨cn,(((am.trans ar).trans a2).trans bf),S⟩ (all1 ?_)
   refine Nx 27 4095 rfl<|Gy d<|W.call S rfl (zDp S.holds o b c a6) ?_
   rintro ek el bs bt S rfl
   have ⟨b,c⟩:=U2 bt b c
   refine We ?_
   refine WC.takeY (i:=12) (bm 27 8191) rfl rfl rfl d kr kr kr rfl (fun _ _=>(R.eql rfl rfl)) ?_
   refine WC.take (i:=13) (v:=boo z) (bm 27 16383) rfl kr kr kr rfl (fun _ _=>(R.ofEq (R.pickT rfl d rfl) (ob p))) ?_
   refine Ct 14 27 32767 rfl (fun _ _=>(R.mv (v:=boo z) rfl))<|WC.takeN (i:=15) (bm 27 65535) rfl rfl rfl j kr kr kr rfl<|WC.takeN (i:=16) (bm 27 131071) rfl rfl rfl j kr kr kr rfl<|WC.takeN (i:=17) (bm 27 262143) rfl rfl rfl j kr kr kr rfl<|WC.takeN (i:=18) (bm 27 524287) rfl rfl rfl j kr kr kr rfl<|WC.takeN (i:=19) (bm 27 1048575) rfl rfl rfl j kr kr kr rfl<|WC.takeN (i:=20) (bm 27 2097151) rfl rfl rfl j kr kr kr rfl<|WC.takeN (i:=21) (bm 27 4194303) rfl rfl rfl j kr kr kr rfl ?_
   refine WC.take (i:=22) (v:=boo aa) (bm 27 8388607) rfl kr kr kr rfl (fun _ _=>(R.ofEq (R.pickF rfl j rfl) (ob q))) ?_
   refine Ct 23 27 16777215 rfl (fun _ _=>(R.mv (v:=boo aa) rfl))<|WC.takeN (i:=24) (bm 27 33554431) rfl rfl rfl (oi q).symm kr kr kr rfl ?_
   refine WC.take (i:=25) (v:=boo ab) (bm 27 67108863) rfl kr kr kr rfl (fun _ _=>(R.ofEq (R.pickF rfl (oi q).symm rfl) (ob u))) ?_
   refine Ct 26 27 134217727 rfl (fun _ _=>(R.as (v:=boo ab) rfl))<|WC.done ⟨bs,((((am.trans ar).trans a2).trans bf).trans bt),S⟩ kr ?_
   exact ⟨bs,rfl,(S.pk [])⟩
  replace p:=condF p d
  replace q:=condF q (oi p).symm
  replace u:=condF u (oi q).symm
  refine Ct 0 27 1 rfl (fun w hw=>by obtain ⟨_,hq,S⟩:=hw; exact (R.loadBN (i:=0) (vs:=[k,l]) S rfl rfl lay25 rfl rfl)) ?_
  refine Ct 1 27 3 rfl (fun _ _=>(R.mv (v:=int t) rfl)) ?_
  refine Ct 3 27 11 rfl (fun w hw=>by obtain ⟨_,hq,S⟩:=hw; exact (R.loadBN (i:=0) (vs:=[k,l]) S rfl rfl lay25 rfl rfl)) ?_
  refine Ct 4 27 27 rfl (fun _ _=>(R.mv (v:=int t) rfl)) ?_
  refine Cx [2] ⟨H6,lr,S⟩ (all1 ?_)
  refine Nx 27 31 rfl<|W.call S rfl (zDV S.holds o t b c aw) ?_
  rintro em en co a3 S ⟨eo,ep,rfl,bg,bh⟩
  have ⟨b,c⟩:=U2 a3 b c
  refine We ?_
  refine Cx [5] ⟨co,a3,S⟩ (all1 ?_)
  refine Nx 27 63 rfl<|W.call S rfl (zDx S.holds o t b c ay) ?_
  rintro eq er cp bi S ⟨es,et,rfl,cq,cr⟩
  have ⟨bg,bh⟩:=U2 bi bg bh
  refine We ?_
  refine Cx [6] ⟨cp,(a3.trans bi),S⟩ (all1 ?_)
  refine Nx 27 127 rfl<|W.call S rfl (zCB S.holds r9 ax bg bh cq cr az) ?_
  rintro eu ew bu cs S rfl
  refine We ?_
  refine Ct 7 27 255 rfl (fun _ _=>(R.mv (v:=boo ao) rfl))<|WC.takeN (i:=8) (bm 27 511) rfl rfl rfl d kr kr kr rfl<|WC.takeN (i:=9) (bm 27 1023) rfl rfl rfl d kr kr kr rfl<|WC.takeN (i:=10) (bm 27 2047) rfl rfl rfl d kr kr kr rfl<|WC.takeN (i:=11) (bm 27 4095) rfl rfl rfl d kr kr kr rfl<|WC.takeN (i:=12) (bm 27 8191) rfl rfl rfl d kr kr kr rfl ?_
  refine WC.take (i:=13) (v:=boo z) (bm 27 16383) rfl kr kr kr rfl (fun _ _=>(R.ofEq (R.pickF rfl d rfl) (ob p))) ?_
  refine Ct 14 27 32767 rfl (fun _ _=>(R.mv (v:=boo z) rfl))<|WC.takeN (i:=15) (bm 27 65535) rfl rfl rfl (oi p).symm kr kr kr rfl<|WC.takeN (i:=16) (bm 27 131071) rfl rfl rfl (oi p).symm kr kr kr rfl<|WC.takeN (i:=17) (bm 27 262143) rfl rfl rfl (oi p).symm kr kr kr rfl ?_
  refine WC.takeN (i:=18) (bm 27 524287) rfl rfl rfl (oi p).symm kr kr kr rfl<|WC.takeN (i:=19) (bm 27 1048575) rfl rfl rfl (oi p).symm kr kr kr rfl<|WC.takeN (i:=20) (bm 27 2097151) rfl rfl rfl (oi p).symm kr kr kr rfl<|WC.takeN (i:=21) (bm 27 4194303) rfl rfl rfl (oi p).symm kr kr kr rfl ?_
  refine WC.take (i:=22) (v:=boo aa) (bm 27 8388607) rfl kr kr kr rfl (fun _ _=>(R.ofEq (R.pickF rfl (oi p).symm rfl) (ob q))) ?_
  refine Ct 23 27 16777215 rfl (fun _ _=>(R.mv (v:=boo aa) rfl))<|WC.takeN (i:=24) (bm 27 33554431) rfl rfl rfl (oi q).symm kr kr kr rfl ?_
  refine WC.take (i:=25) (v:=boo ab) (bm 27 67108863) rfl kr kr kr rfl (fun _ _=>(R.ofEq (R.pickF rfl (oi q).symm rfl) (ob u))) ?_
  refine Ct 26 27 134217727 rfl (fun _ _=>(R.as (v:=boo ab) rfl))<|WC.done ⟨bu,((a3.trans bi).trans cs),S⟩ kr ?_
  exact ⟨bu,rfl,(S.pk [])⟩
 rintro f w ⟨bj,ct,S⟩
 obtain rfl:=oi h
 refine WP.ret (Out.one rfl S ct ?_)
 exact rfl
end Go.Proofs
