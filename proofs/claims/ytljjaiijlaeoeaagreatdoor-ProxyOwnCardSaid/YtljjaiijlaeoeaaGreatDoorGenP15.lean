/- A part. -/
import Derived.Test.YtljjaiijlaeoeaaGreatDoorEng38
import Derived.Test.YtljjaiijlaeoeaaGreatDoorEng36
import Derived.Test.YtljjaiijlaeoeaaGreatDoorGenP14
namespace Go.Proofs
set_option maxHeartbeats 4000000
set_option maxRecDepth 10000
open Go.Eng Go.Eng.Pure
set_option linter.unusedVariables false
theorem zFj {r:World} {z:Hp} (hw:Holds r z) (hG:Tryz.Gl r) {d:GConfig} {q:Nat} {k:Nat} {o:Nat} {au:Hp} {w:World} (S:St r z w au [.box q 54 [(str d.fName),(int d.fBytes),(int d.fVariants),(int d.fTables),(boo d.fStrict),(boo d.fRefuse),(ptr k 0),(int 0),(.pointer none)],.box k 136 [(int d.fBytes),(int d.fVariants),(int d.fTables),(int 0),(.slice none 0 0),(mapv o)],.mp o []]) {aa:Str} {c:(GRequest×GURI×Unit)} {ab:Str} (h:zC3 d=some (aa,c,ab)) {K:Value→World→Prop}
  (hK:∀ (ac:Nat) (j:Value) (t:Nat) (Hz:Hp),au.le Hz→Sl Hz j c.1.fFields→∀ w',St r z w' Hz [.box ac 111 [(str c.1.fMethod),(str c.1.fTarget),(int c.1.fMinor),j,(str c.1.fBody),(str c.2.1.fHost),(int c.2.1.fPort),(str c.2.1.fPath),(str c.2.1.fQuery),(boo c.2.1.fHasQuery),(str ab),(int 0),(boo false),(int 0),(.slice none 0 0),(.slice none 0 0),(.slice none 0 0),(str []),(.slice none 0 0),(str []),(int 0),(int 0)],.box t 56 [(str []),(str aa)],.box q 54 [(str d.fName),(int d.fBytes),(int d.fVariants),(int d.fTables),(boo d.fStrict),(boo d.fRefuse),(ptr k 0),(int 0),(ptr ac 0)],.box k 136 [(int d.fBytes),(int d.fVariants),(int d.fTables),(int 0),(.slice none 0 0),(mapv o)],.mp o []]→K (.tuple ⟨[(agg [(str []),(str aa)]),(int 0)]⟩) w') :
  CallK Tryz.prog 26 [(ptr q 0),(str [71,69,84,32,47,97,32,72,84,84,80,47,49,46,49,13,10,72,111,115,116,58,32,104,13,10,13,10])] w K:=by
 unfold zC3 at h
 refine zAi (N':=160) Tryz.func26 rfl rfl kr rfl<|Ws<|Wg ?_
 refine W.alloc [(str []),(str [])] S zer56 ?_
 intro t br S
 refine A<|We<|Ws<|Ws<|Wg<|M<|W.inl (args:=[(ptr q 0)]) rfl (N':=12) Tryz.func38 rfl rfl kr rfl<|Ws<|Wg<|A<|We<|Ws ?_
 refine Wg<|M ?_
 refine WL.w (v:=boo true) (R.ofEq (R.neqPN rfl rfl Tryz.underlying34) rfl)<|M<|Gy rfl<|M<|Gy rfl<|Nn<|Gy rfl<|Fb<|Gy rfl ?_
 refine Lo 1 S ?_
 refine Gy rfl ?_
 refine WL.w (v:=boo true) (R.ofEq (R.neqPN rfl rfl Tryz.underlying51) rfl)<|Pt rfl<|A<|We ?_
 refine WP.ret (In.one rfl rfl ?_)
 refine WL.w (v:=boo false) (R.ofEq (R.not rfl) rfl)<|M<|Gy rfl<|M<|Gy rfl<|Nn<|Gy rfl<|Fb<|Gy rfl ?_
 refine Lo 1 S<|Gy rfl ?_
 refine WL.w (v:=boo false) (R.ofEq (R.neqPN rfl rfl Tryz.underlying52) rfl) ?_
 refine Pf rfl<|We<|WP.condF (b:=false) rfl rfl<|Wk<|Ws<|Wg<|M<|B h fun c bd h=>W.call S rfl (zFZ S.holds (hG.post S.post) [71,69,84,32,47,97,32,72,84,84,80,47,49,46,49,13,10,72,111,115,116,58,32,104,13,10,13,10] bd) ?_
 rintro bs bt be a4 S ⟨j,rfl,p⟩
 refine M ?_
 refine Ex ?_
 refine Ex ?_
 refine Ex ?_
 refine W.alloc [(str []),(str []),(int 0),(.slice none 0 0),(str [])] S zer94 ?_
 intro ai bu S
 refine W.alloc [(str []),(int 0),(str []),(str []),(boo false)] S zer96 ?_
 intro aj bv S
 refine W.store (i:=1) [(str c.1.fMethod),(str c.1.fTarget),(int c.1.fMinor),j,(str c.1.fBody)] S rfl rfl rfl lay94 rfl (AllOne.all (l:=[(str c.1.fMethod),(str c.1.fTarget),(int c.1.fMinor),j,(str c.1.fBody)]) (.cons rfl (.cons rfl (.cons rfl (.cons (Sl.oneC p) (.cons rfl .nil)))))) (Nat.le_of_ble_eq_true rfl) rfl ?_
 intro bw S
 refine W.store (i:=0) [(str c.2.1.fHost),(int c.2.1.fPort),(str c.2.1.fPath),(str c.2.1.fQuery),(boo c.2.1.fHasQuery)] S rfl rfl rfl lay96 rfl rfl (Nat.le_of_ble_eq_true rfl) rfl ?_
 intro bx S
 refine A<|We<|Ws<|Wg ?_
 refine W.alloc [(int 0),.nilIface] S zJA ?_
 intro bf bz S
 refine We<|Ws<|Ws<|Wg<|M ?_
 refine WL.w (R.mkI Tryz.underlying104 rfl)<|W.inl (args:=[.nilIface,(.iface 104 (ptr bf 0))]) rfl (N':=42) Tryz.func49 rfl rfl kr rfl<|Ws<|Wg<|A<|We<|Ws ?_
 refine Ws<|Wg<|M ?_
 refine WL.w (R.eqlNI rfl rfl Tryz.underlying98)<|We<|WP.condT (b:=true) rfl rfl<|Ws<|Wg<|A<|We ?_
 refine WP.ret (In.one rfl rfl ?_)
 replace S:St r z _ be [.box aj 96 [(str c.2.1.fHost),(int c.2.1.fPort),(str c.2.1.fPath),(str c.2.1.fQuery),(boo c.2.1.fHasQuery)],.box ai 94 [(str c.1.fMethod),(str c.1.fTarget),(int c.1.fMinor),j,(str c.1.fBody)],.box t 56 [(str []),(str [])],.box q 54 [(str d.fName),(int d.fBytes),(int d.fVariants),(int d.fTables),(boo d.fStrict),(boo d.fRefuse),(ptr k 0),(int 0),(.pointer none)],.box k 136 [(int d.fBytes),(int d.fVariants),(int d.fTables),(int 0),(.slice none 0 0),(mapv o)],.mp o []]:=(S.pk [1,2,3,4,5,6])
 refine We<|WP.condF (b:=false) rfl rfl<|Wk<|Ws<|Wg ?_
 refine WL.w (R.loadBN (i:=0) (vs:=[(str c.2.1.fHost),(int c.2.1.fPort),(str c.2.1.fPath),(str c.2.1.fQuery),(boo c.2.1.fHasQuery)]) S rfl rfl lay96 rfl rfl)<|B h fun ab bg h=>W.call S rfl (zFK S.holds (hG.post S.post) c.2.1 bg) ?_
 rintro b0 b1 b2 av S rfl
 have p:=p.up av
 refine A<|We<|Ws<|Wg<|M<|Nn<|Fb ?_
 refine Lo 3 S<|M<|B h fun am bh h=>callK rfl (zFu hw (hG) S p bh ?_)
 intro ad ae b3 b4 an a5 u x p b5 S
 replace S:St r z _ an [.box aj 96 [(str c.2.1.fHost),(int c.2.1.fPort),(str c.2.1.fPath),(str c.2.1.fQuery),(boo c.2.1.fHasQuery)],.box ai 94 [(str c.1.fMethod),(str c.1.fTarget),(int c.1.fMinor),j,(str c.1.fBody)],.box t 56 [(str []),(str [])],.box q 54 [(str d.fName),(int d.fBytes),(int d.fVariants),(int d.fTables),(boo d.fStrict),(boo d.fRefuse),(ptr k 0),(int 0),(.pointer none)],.box k 136 [(int d.fBytes),(int d.fVariants),(int d.fTables),(int 0),(.slice none 0 0),(mapv o)],.mp o []]:=(S.pk [2,3,4,5,6,7])
 refine M ?_
 refine Ex ?_
 refine Ex ?_
 refine W.alloc [(.slice none 0 0),(.slice none 0 0)] S zer62 ?_
 intro a6 b6 S
 refine W.store (i:=0) [ad,ae] S rfl rfl rfl lay62 rfl (AllOne.all (l:=[ad,ae]) (.cons (Sl.oneC u) (.cons (Sl.oneC x) .nil))) (Nat.le_of_ble_eq_true rfl) rfl ?_
 intro b7 S
 refine A<|We<|Ws<|B h fun af a7 h=>WP.cut (fun f w=>∃ (ah:Hp) (aw:Nat),f 0=(ptr q 0)∧f 4=(ptr t 0)∧f 6=(ptr ai 0)∧f 7=(ptr aj 0)∧f 10=(str ab)∧f 13=(ptr aw 0)∧Sl ah ad am.fAxes∧Sl ah ae am.fEntries∧Sl ah j c.1.fFields∧Hp.le au ah∧St r z w ah [.box aw 108 [(int af.fKind),(int af.fIndex)],.box a6 62 [ad,ae],.box aj 96 [(str c.2.1.fHost),(int c.2.1.fPort),(str c.2.1.fPath),(str c.2.1.fQuery),(boo c.2.1.fHasQuery)],.box ai 94 [(str c.1.fMethod),(str c.1.fTarget),(int c.1.fMinor),j,(str c.1.fBody)],.box t 56 [(str []),(str [])],.box q 54 [(str d.fName),(int d.fBytes),(int d.fVariants),(int d.fTables),(boo d.fStrict),(boo d.fRefuse),(ptr k 0),(int 0),(.pointer none)],.box k 136 [(int d.fBytes),(int d.fVariants),(int d.fTables),(int 0),(.slice none 0 0),(mapv o)],.mp o []]) ?_ ?_
 ·refine WP.drawC (Cl r z an [.box a6 62 [ad,ae],.box aj 96 [(str c.2.1.fHost),(int c.2.1.fPort),(str c.2.1.fPath),(str c.2.1.fQuery),(boo c.2.1.fHasQuery)],.box ai 94 [(str c.1.fMethod),(str c.1.fTarget),(int c.1.fMinor),j,(str c.1.fBody)],.box t 56 [(str []),(str [])],.box q 54 [(str d.fName),(int d.fBytes),(int d.fVariants),(int d.fTables),(boo d.fStrict),(boo d.fRefuse),(ptr k 0),(int 0),(.pointer none)],.box k 136 [(int d.fBytes),(int d.fVariants),(int d.fTables),(int 0),(.slice none 0 0),(mapv o)],.mp o []]) kr 13 rfl (bm 13 0) rfl ?_
  have S:=S.drew
  refine Ct 0 13 1 rfl (fun w hw=>by obtain ⟨_,hq,S⟩:=hw; exact (R.loadBN (i:=0) (vs:=[ad,ae]) S rfl rfl lay62 rfl rfl)) ?_
  refine Ct 1 13 3 rfl (fun w hw=>by obtain ⟨_,hq,S⟩:=hw; exact (R.loadBN (i:=2) (vs:=[(str c.1.fMethod),(str c.1.fTarget),(int c.1.fMinor),j,(str c.1.fBody)]) S rfl rfl lay94 rfl rfl)) ?_
  refine Ct 2 13 7 rfl (fun _ _=>(R.mv (v:=ptr q 0) rfl)) ?_
  refine Ct 3 13 15 rfl (fun _ _=>(R.nilCheckB rfl)) ?_
  refine Ct 4 13 31 rfl (fun _ _=>(R.fieldB rfl zG0)) ?_
  refine Ct 5 13 63 rfl (fun w hw=>by obtain ⟨_,hq,S⟩:=hw; exact (R.loadB (i:=4) (v:=int 0) S rfl rfl lay2 rfl)) ?_
  refine Ct 6 13 127 rfl (fun _ _=>(R.mv (v:=ptr q 0) rfl)) ?_
  refine Ct 7 13 255 rfl (fun _ _=>(R.nilCheckB rfl)) ?_
  refine Ct 8 13 511 rfl (fun _ _=>(R.fieldB rfl zG9)) ?_
  refine Ct 9 13 1023 rfl (fun w hw=>by obtain ⟨_,hq,S⟩:=hw; exact (R.loadBN (i:=4) (vs:=[(str d.fName),(int d.fBytes),(int d.fVariants),(int d.fTables),(boo d.fStrict),(boo d.fRefuse)]) S rfl rfl lay38 rfl rfl)) ?_
  refine Cx [10,11] ⟨an,lr,S⟩ (allS ?_ (all1 ?_))
  ·refine Nx 13 2047 rfl<|W.call S rfl (zBQ S.holds (hG.post S.post) am c.1 0 d u x p a7) ?_
   rintro b8 b9 ao ak S rfl
   have ⟨u,x,p⟩:=U3 ak u x p
   refine We ?_
   refine Cx [11] ⟨ao,ak,S⟩ (all1 ?_)
   refine Nx 13 4095 rfl ?_
   refine W.alloc [(int 0),(int 0)] S zGq ?_
   intro bi ca S
   refine We ?_
   refine Cx [12] ⟨ao,ak,(S.pk [1,2,3,4,5,6,7])⟩ (all1 ?_)
   refine Nx 13 8191 rfl ?_
   refine W.store (i:=0) [(int af.fKind),(int af.fIndex)] S rfl rfl rfl zFO rfl rfl (Nat.le_of_ble_eq_true rfl) rfl ?_
   intro cb S
   refine We<|WC.done ⟨ao,ak,(S.pk [1,2,3,4,5,6,7])⟩ kr ?_
   exact ⟨ao,bi,rfl,rfl,rfl,rfl,rfl,rfl,u,x,p,(((a4.trans av).trans a5).trans ak),S⟩
  refine Nx 13 3071 rfl ?_
  refine W.alloc [(int 0),(int 0)] S zGq ?_
  intro bj cc S
  refine We ?_
  refine Cx [10] ⟨an,lr,(S.pk [1,2,3,4,5,6,7])⟩ (all1 ?_)
  refine Nx 13 4095 rfl<|W.call S rfl (zBQ S.holds (hG.post S.post) am c.1 0 d u x p a7) ?_
  rintro cd ce ax ap S rfl
  have ⟨u,x,p⟩:=U3 ap u x p
  refine We ?_
  refine Cx [12] ⟨ax,ap,(S.pk [1,2,3,4,5,6,7])⟩ (all1 ?_)
  refine Nx 13 8191 rfl ?_
  refine W.store (i:=0) [(int af.fKind),(int af.fIndex)] S rfl rfl rfl zFO rfl rfl (Nat.le_of_ble_eq_true rfl) rfl ?_
  intro cf S
  refine We<|WC.done ⟨ax,ap,(S.pk [1,2,3,4,5,6,7])⟩ kr ?_
  exact ⟨ax,bj,rfl,rfl,rfl,rfl,rfl,rfl,u,x,p,(((a4.trans av).trans a5).trans ap),S⟩
 rintro f w ⟨ah,aw,ay,a8,a9,ba,bk,bn,aq,ar,al,bo,S⟩
 refine Ws<|WP.quietTail 8 S kr kr ?_
 refine WQ.val (fun w hw=>by obtain ⟨_,hq,S⟩:=hw; exact (R.loadBN (i:=3) (vs:=[(str c.1.fMethod),(str c.1.fTarget),(int c.1.fMinor),j,(str c.1.fBody)]) S a9 rfl lay94 rfl rfl)) ?_
 refine WQ.val (fun w hw=>by obtain ⟨_,hq,S⟩:=hw; exact (R.loadBN (i:=2) (vs:=[(str c.2.1.fHost),(int c.2.1.fPort),(str c.2.1.fPath),(str c.2.1.fQuery),(boo c.2.1.fHasQuery)]) S ba rfl lay96 rfl rfl))<|QM' bk<|QM' ay<|QNn<|QFb ?_
 refine QB 5 (int 0) ?_
 refine WQ.val (fun _ _=>(R.build [(0,(agg [(str c.1.fMethod),(str c.1.fTarget),(int c.1.fMinor),j,(str c.1.fBody)])),(1,(agg [(str c.2.1.fHost),(int c.2.1.fPort),(str c.2.1.fPath),(str c.2.1.fQuery),(boo c.2.1.fHasQuery)])),(2,(str ab)),(3,(int 0))] [(str c.1.fMethod),(str c.1.fTarget),(int c.1.fMinor),j,(str c.1.fBody),(str c.2.1.fHost),(int c.2.1.fPort),(str c.2.1.fPath),(str c.2.1.fQuery),(boo c.2.1.fHasQuery),(str ab),(int 0),(boo false),(int 0),(.slice none 0 0),(.slice none 0 0),(.slice none 0 0),(str []),(.slice none 0 0),(str []),(int 0),(int 0)] bp111 zJF kr kr))<|WQ.nil ?_
 intro cg ch bb S
 have ⟨al,aq,ar⟩:=U3 bb al aq ar
 refine W.box [(str c.1.fMethod),(str c.1.fTarget),(int c.1.fMinor),j,(str c.1.fBody),(str c.2.1.fHost),(int c.2.1.fPort),(str c.2.1.fPath),(str c.2.1.fQuery),(boo c.2.1.fHasQuery),(str ab),(int 0),(boo false),(int 0),(.slice none 0 0),(.slice none 0 0),(.slice none 0 0),(str []),(.slice none 0 0),(str []),(int 0),(int 0)] S rfl rfl ?_
 intro ac ci S
 refine A<|We<|Ws<|Ws<|Wg<|Fb' bn ?_
 refine Lo 1 S<|We<|Wb<|Ws<|Wg<|Le ?_
 refine A<|We ?_
 rcases condE h with ⟨az,h⟩ | ⟨az,h⟩
 ·refine CT az ?_
  cases h
 refine CF az<|Ws<|Wg<|Le<|A<|We ?_
 rcases condE h with ⟨a0,h⟩ | ⟨a0,h⟩
 ·refine CT a0 ?_
  cases h
 refine CF a0<|Ws<|Wg<|Le<|A<|We ?_
 rcases condE h with ⟨a1,h⟩ | ⟨a1,h⟩
 ·refine CT a1 ?_
  cases h
 refine CF a1<|Ws<|Wg<|Le<|A<|We ?_
 rcases condE h with ⟨a2,h⟩ | ⟨a2,h⟩
 ·refine CT a2 ?_
  cases h
 refine CF a2<|Wk<|Ws<|Wg<|M' ay ?_
 refine WL.w (R.loadBN (i:=4) (vs:=[(str c.1.fMethod),(str c.1.fTarget),(int c.1.fMinor),j,(str c.1.fBody)]) S a9 rfl lay94 rfl rfl) ?_
 refine WL.w (R.loadBN (i:=3) (vs:=[(str c.2.1.fHost),(int c.2.1.fPort),(str c.2.1.fPath),(str c.2.1.fQuery),(boo c.2.1.fHasQuery)]) S ba rfl lay96 rfl rfl) ?_
 obtain ⟨⟨aa,cj,ck⟩,bp,h⟩:=bindE h
 refine callK rfl (zFl hw (hG) S al aq ar bp ?_)
 intro cl cm cn bc bq co al aq ar cp S
 replace S:St r z _ bc [.box ac 111 [(str c.1.fMethod),(str c.1.fTarget),(int c.1.fMinor),j,(str c.1.fBody),(str c.2.1.fHost),(int c.2.1.fPort),(str c.2.1.fPath),(str c.2.1.fQuery),(boo c.2.1.fHasQuery),(str ab),(int 0),(boo false),(int 0),(.slice none 0 0),(.slice none 0 0),(.slice none 0 0),(str []),(.slice none 0 0),(str []),(int 0),(int 0)],.box t 56 [(str []),(str [])],.box q 54 [(str d.fName),(int d.fBytes),(int d.fVariants),(int d.fTables),(boo d.fStrict),(boo d.fRefuse),(ptr k 0),(int 0),(.pointer none)],.box k 136 [(int d.fBytes),(int d.fVariants),(int d.fTables),(int 0),(.slice none 0 0),(mapv o)],.mp o []]:=(S.pk [2,7,8,9,10])
 refine A<|We<|Ws<|Ws<|Wg<|M<|Na<|We ?_
 rcases condE h with ⟨a3,h⟩ | ⟨a3,h⟩
 ·refine CT a3 ?_
  cases h
 refine CF a3<|Wk<|Ws<|Wg<|M' ay<|M<|Nn<|Fb ?_
 refine W.store (i:=2) [(str d.fName),(int d.fBytes),(int d.fVariants),(int d.fTables),(boo d.fStrict),(boo d.fRefuse),(ptr k 0),(int 0),(ptr ac 0)] S rfl rfl rfl lay52 rfl rfl (Nat.le_of_ble_eq_true rfl) rfl ?_
 intro cq S
 refine We<|Ws<|Wg<|M ?_
 refine WL.w (R.build [(1,(str aa))] [(str []),(str aa)] bp56 zer56 rfl rfl) ?_
 refine W.store (i:=1) [(str []),(str aa)] S a8 rfl rfl lay56 rfl rfl (Nat.le_of_ble_eq_true rfl) rfl ?_
 intro cr S
 refine A<|We ?_
 refine WP.ret (In.two rfl (Res.cellB (i:=1) (cs:=[(str []),(str aa)]) S a8 rfl lay56 rfl rfl) rfl ?_)
 cases oi h
 exact hK ac j t bc ((bo.trans bb).trans bq) al _ S
theorem zFE {w0:World} {H0:Hp} (hw:Holds w0 H0) (hG:Tryz.Gl w0) {d:GConfig} {ax:Str} {f:(GRequest×GURI×Unit)} {p:Str} {b:(GResponse×Int×Int)} {ay:(List GField)} {c:(GEntry×(List GAxis))} {t:GTable} {ad:Nat} {j:Value} {l:Value} {az:Nat} {a0:Nat} {u:Value} {x:Value} {z:Value} {aa:Value} {a1:Nat} {a2:Nat} {ap:Value} {a3:Nat} {a4:Nat} {ab:Value} {a5:Nat} {a6:Nat} {a7:Nat} {a8:Nat} {aq:Value} {a9:Nat} {q:Nat} {o:Hp} {w:World} (S:St w0 H0 w o [.box az 62 [j,l],.box a0 92 [u,x,z,(str c.1.fReason),aa,(str c.1.fBody),(int c.1.fRequested),(int c.1.fReceived)],.box a1 92 [u,x,z,(str c.1.fReason),aa,(str c.1.fBody),(int c.1.fRequested),(int c.1.fReceived)],.box a2 24 [(int 1),(int b.1.fStatus),(str b.1.fReason),ap,(str b.1.fBody)],.box a3 56 [(str []),(str [])],.box a4 24 [(int b.1.fMinor),(int b.1.fStatus),(str b.1.fReason),ab,(str b.1.fBody)],.box a5 24 [(int b.1.fMinor),(int b.1.fStatus),(str b.1.fReason),ab,(str b.1.fBody)],.box a6 56 [(str []),(str [])],.box a7 56 [(str []),(str ax)],.box a8 111 [(str f.1.fMethod),(str f.1.fTarget),(int f.1.fMinor),aq,(str f.1.fBody),(str f.2.1.fHost),(int f.2.1.fPort),(str f.2.1.fPath),(str f.2.1.fQuery),(boo f.2.1.fHasQuery),(str p),(int 0),(boo false),(int 0),(.slice none 0 0),(.slice none 0 0),(.slice none 0 0),(str []),(.slice none 0 0),(str []),(int 0),(int 0)],.box a9 54 [(str d.fName),(int d.fBytes),(int d.fVariants),(int d.fTables),(boo d.fStrict),(boo d.fRefuse),(ptr ad 0),(int 0),(.pointer none)],.box ad 136 [(int d.fBytes),(int d.fVariants),(int d.fTables),(int 0),(.slice none 0 0),(mapv q)],.mp q []]) (ac:Sl o j t.fAxes) (r:Sl o l t.fEntries) (ae:Sl o u c.1.fKeys) (af:Sl o x c.1.fVary) (ah:Sl o z c.1.fSnapshot) (ai:Sl o aa c.1.fFields) (aj:Sl o ap ay) (ak:Sl o ab b.1.fFields) (al:Sl o aq f.1.fFields) {am:Int} {an:Int} (h:zCb t=some (am,an)) {K:Value→World→Prop}
  (hK:∀ (au:Nat) (av:Nat) (Hz:Hp),o.le Hz→Sl Hz j t.fAxes→Sl Hz l t.fEntries→Sl Hz u c.1.fKeys→Sl Hz x c.1.fVary→Sl Hz z c.1.fSnapshot→Sl Hz aa c.1.fFields→Sl Hz ap ay→Sl Hz ab b.1.fFields→Sl Hz aq f.1.fFields→∀ w',St w0 H0 w' Hz [.box au 62 [j,l],.box av 9 [(str p)],.box az 62 [j,l],.box a0 92 [u,x,z,(str c.1.fReason),aa,(str c.1.fBody),(int c.1.fRequested),(int c.1.fReceived)],.box a1 92 [u,x,z,(str c.1.fReason),aa,(str c.1.fBody),(int c.1.fRequested),(int c.1.fReceived)],.box a2 24 [(int 1),(int b.1.fStatus),(str b.1.fReason),ap,(str b.1.fBody)],.box a3 56 [(str []),(str [])],.box a4 24 [(int b.1.fMinor),(int b.1.fStatus),(str b.1.fReason),ab,(str b.1.fBody)],.box a5 24 [(int b.1.fMinor),(int b.1.fStatus),(str b.1.fReason),ab,(str b.1.fBody)],.box a6 56 [(str []),(str [])],.box a7 56 [(str []),(str ax)],.box a8 111 [(str f.1.fMethod),(str f.1.fTarget),(int f.1.fMinor),aq,(str f.1.fBody),(str f.2.1.fHost),(int f.2.1.fPort),(str f.2.1.fPath),(str f.2.1.fQuery),(boo f.2.1.fHasQuery),(str p),(int 0),(boo false),(int 0),(.slice none 0 0),(.slice none 0 0),(.slice none 0 0),(str []),(.slice none 0 0),(str []),(int 0),(int 0)],.box a9 54 [(str d.fName),(int d.fBytes),(int d.fVariants),(int d.fTables),(boo d.fStrict),(boo d.fRefuse),(ptr ad 0),(int 0),(.pointer none)],.box ad 136 [(int d.fBytes),(int d.fVariants),(int d.fTables),(int (wr (0+(wr (am - an))))),(.slice none 0 0),(mapv q)],.mp q (encm (fun v=>v) [(p,(agg [j,l]))])]→K (.tuple ⟨[]⟩) w') :
  CallK Tryz.prog 183 [(ptr ad 0),(str p),(agg [j,l])] w K:=by
 unfold zCb at h
 refine zAi (N':=47) Tryz.func183 rfl rfl kr rfl<|Ws<|Wg ?_
 refine W.box [(str p)] S rfl rfl ?_
 intro av bf S
 refine W.box [j,l] S rfl rfl ?_
 intro au bg S
 refine We<|Ws<|WP.quietTail 17 S kr kr<|QM<|QNn<|QFb ?_
 refine QB 13 (int 0) ?_
 refine WQ.val (fun w hw=>by obtain ⟨_,hq,S⟩:=hw; exact (R.loadBN (i:=0) (vs:=[j,l]) S rfl rfl lay62 rfl rfl))<|B h fun am bc h=>WQ.call (v:=int am) rfl (fun w H' hq S=>zFU S.holds (hG.post S.post) t (ac.up hq) (r.up hq) bc)<|QM<|QNn<|QFb ?_
 refine QB 13 (mapv q) ?_
 refine QB 1 (str p) ?_
 refine WQ.val (v:=agg [(.slice none 0 0),(.slice none 0 0)]) (fun w hw=>by obtain ⟨_,hq,S⟩:=hw; exact (R.lookX1 (i:=14) (m:=[]) S rfl rfl rfl Tryz.underlying134 Tryz.underlying9 mz62 zHT))<|B h fun an bd h=>WQ.call (v:=int an) rfl (fun w H' hq S=>zFU S.holds (hG.post S.post) (⟨([]:List GAxis),([]:List GEntry)⟩:GTable) Sl.nil Sl.nil bd)<|QLh<|QLg<|QNn<|QFb<|WQ.nil ?_
 intro bh bi ba S
 have ⟨ac,r,ae,af,ah,ai,aj,ak,al⟩:=U9 ba ac r ae af ah ai aj ak al
 refine W.store (i:=13) [(int d.fBytes),(int d.fVariants),(int d.fTables),(int (wr (0+(wr (am - an))))),(.slice none 0 0),(mapv q)] S rfl rfl rfl lay3 rfl rfl (Nat.le_of_ble_eq_true rfl) rfl ?_
 intro bj S
 refine We<|Ws<|Ws<|Wg<|Fb ?_
 refine Lo 0 S<|Nq r<|Lc<|We ?_
 rcases condE h with ⟨aw,h⟩ | ⟨aw,h⟩
 ·refine CT aw<|Ws<|WP.quietTail 6 S kr kr<|QM<|QNn<|QFb ?_
  refine QB 13 (mapv q) ?_
  refine QB 1 (str p) ?_
  refine WQ.val (fun w hw=>by obtain ⟨_,hq,S⟩:=hw; exact (R.loadBN (i:=0) (vs:=[j,l]) S rfl rfl lay62 rfl rfl))<|WQ.nil ?_
  intro bk be bb S
  have ⟨ac,r,ae,af,ah,ai,aj,ak,al⟩:=U9 bb ac r ae af ah ai aj ak al
  refine W.updX (i:=14) (k:=p) (v:=agg [j,l]) S rfl rfl rfl rfl Tryz.underlying134 Tryz.underlying9 ?_
  intro bn S
  refine We ?_
  refine WP.ret (In.zero rfl  ?_)
  cases oi h
  exact hK au av be (ba.trans bb) ac r ae af ah ai aj ak al _ S
 refine CF aw ?_
 cases h
theorem zE7 {z:World} {H0:Hp} (hw:Holds z H0) (hG:Tryz.Gl z) {b:GConfig} {ab:Str} {c:Str} {aj:GTable} {u:Int} {x:Int} {p:Nat} {ac:Nat} {l:Value} {o:Value} {ad:Nat} {ae:Nat} {af:Nat} {ah:Nat} {k:Nat} {a9:Hp} {w:World} (S:St z H0 w a9 [.box ac 62 [l,o],.box ad 56 [(str []),(str [])],.box ae 56 [(str []),(str [])],.box af 56 [(str []),(str ab)],.box ah 54 [(str b.fName),(int b.fBytes),(int b.fVariants),(int b.fTables),(boo b.fStrict),(boo b.fRefuse),(ptr p 0),(int 0),(.pointer none)],.box p 136 [(int b.fBytes),(int b.fVariants),(int b.fTables),(int (wr (0+(wr (u - x))))),(.slice none 0 0),(mapv k)],.mp k (encm (fun v=>v) [(c,(agg [l,o]))])]) (d:Sl a9 l aj.fAxes) (j:Sl a9 o aj.fEntries) {bh:(List Str)} (h:zCY c=some bh) {K:Value→World→Prop}
  (hK:∀ (ar:Ent) (au:Value) (Hz:Hp),a9.le Hz→Sl Hz l aj.fAxes→Sl Hz o aj.fEntries→MR (α:=Str) Hz ar 9 au bh→Sl Hz l aj.fAxes→Sl Hz o aj.fEntries→∀ w',St z H0 w' Hz [ar,.box ac 62 [l,o],.box ad 56 [(str []),(str [])],.box ae 56 [(str []),(str [])],.box af 56 [(str []),(str ab)],.box ah 54 [(str b.fName),(int b.fBytes),(int b.fVariants),(int b.fTables),(boo b.fStrict),(boo b.fRefuse),(ptr p 0),(int 0),(.pointer none)],.box p 136 [(int b.fBytes),(int b.fVariants),(int b.fTables),(int (wr (0+(wr (u - x))))),au,(mapv k)],.mp k (encm (fun v=>v) [(c,(agg [l,o]))])]→K (.tuple ⟨[]⟩) w') :
  CallK Tryz.prog 98 [(ptr p 0),(str c)] w K:=by
 unfold zCY at h
 refine zAi (N':=16) Tryz.func98 rfl rfl kr rfl<|Ws<|Wg ?_
 refine W.box [(str c)] S rfl rfl ?_
 intro a2 dd S
 refine We ?_
 obtain ⟨ak,al,ck,_,S⟩:=S.settle (i:=0) rfl
 replace S:St z H0 _ ak [.box ac 62 [l,o],.box ad 56 [(str []),(str [])],.box ae 56 [(str []),(str [])],.box af 56 [(str []),(str ab)],.box ah 54 [(str b.fName),(int b.fBytes),(int b.fVariants),(int b.fTables),(boo b.fStrict),(boo b.fRefuse),(ptr p 0),(int 0),(.pointer none)],.box p 136 [(int b.fBytes),(int b.fVariants),(int b.fTables),(int (wr (0+(wr (u - x))))),(.slice none 0 0),(mapv k)],.mp k (encm (fun v=>v) [(c,(agg [l,o]))])]:=S
 have q:At ak ⟨a2,0,none⟩ [(str c)]:=⟨_,_,rfl,ck,[],by simp⟩
 have ⟨d,j⟩:=U2 al d j
 refine B h fun de an h=>B h fun bh ao h=>WP.cut (fun f w=>∃ (am:Hp) (ar:Ent) (au:Value),Sl am l aj.fAxes∧Sl am o aj.fEntries∧MR (α:=Str) am ar 9 au bh∧Sl am l aj.fAxes∧Sl am o aj.fEntries∧Hp.le a9 am∧St z H0 w am [ar,.box ac 62 [l,o],.box ad 56 [(str []),(str [])],.box ae 56 [(str []),(str [])],.box af 56 [(str []),(str ab)],.box ah 54 [(str b.fName),(int b.fBytes),(int b.fVariants),(int b.fTables),(boo b.fStrict),(boo b.fRefuse),(ptr p 0),(int 0),(.pointer none)],.box p 136 [(int b.fBytes),(int b.fVariants),(int b.fTables),(int (wr (0+(wr (u - x))))),au,(mapv k)],.mp k (encm (fun v=>v) [(c,(agg [l,o]))])]) ?_ ?_
 ·refine WP.drawC (Cl z H0 ak [.box ac 62 [l,o],.box ad 56 [(str []),(str [])],.box ae 56 [(str []),(str [])],.box af 56 [(str []),(str ab)],.box ah 54 [(str b.fName),(int b.fBytes),(int b.fVariants),(int b.fTables),(boo b.fStrict),(boo b.fRefuse),(ptr p 0),(int 0),(.pointer none)],.mp k (encm (fun v=>v) [(c,(agg [l,o]))])]) kr 13 rfl (bm 13 0) rfl ?_
  have S:=S.drew
  refine Ct 0 13 1 rfl (fun _ _=>(R.mv (v:=ptr p 0) rfl)) ?_
  refine Ct 1 13 3 rfl (fun _ _=>(R.mv (v:=ptr p 0) rfl)) ?_
  refine Ct 2 13 7 rfl (fun _ _=>(R.nilCheckB rfl)) ?_
  refine Ct 3 13 15 rfl (fun _ _=>(R.fieldB rfl zAm)) ?_
  refine Ct 7 13 143 rfl (fun w hw=>by obtain ⟨_,hq,S⟩:=hw; exact (R.loadH (v:=str c) S rfl (At.mono q hq (by simp)) lay9 rfl)) ?_
  refine Cx [4,5,8] ⟨ak,lr,(S.pk [0,1,2,3,4,6])⟩ (allS ?_ (allS ?_ (all1 ?_)))
  ·refine Nx 13 159 rfl ?_
   refine Lo 5 S<|We ?_
   refine Cx [5,8] ⟨ak,lr,(S.pk [0,1,2,3,4,6])⟩ (allS ?_ (all1 ?_))
   ·refine Nx 13 191 rfl ?_
    refine WL.w (R.mkFunc (vs:=[(.pointer (some ⟨a2,0,none⟩))]) rfl)<|We ?_
    refine Cx [6,8] ⟨ak,lr,(S.pk [0,1,2,3,4,6])⟩ (allS ?_ (all1 ?_))
    ·refine Nx 13 255 rfl ?_
     have S:=S.addNil 9 1
     replace S:St z H0 _ ak (.row (.slice none 0 0) 9 1 0 :: [.box ac 62 [l,o],.box ad 56 [(str []),(str [])],.box ae 56 [(str []),(str [])],.box af 56 [(str []),(str ab)],.box ah 54 [(str b.fName),(int b.fBytes),(int b.fVariants),(int b.fTables),(boo b.fStrict),(boo b.fRefuse),(ptr p 0),(int 0),(.pointer none)],.box p 136 [(int b.fBytes),(int b.fVariants),(int b.fTables),(int (wr (0+(wr (u - x))))),(.slice none 0 0),(mapv k)],.mp k (encm (fun v=>v) [(c,(agg [l,o]))])]):=S
     refine W.callS rfl (zAB hG ([]:List Str) (fun t=>zAD t c) S MR.nil (fun hle hw hG t r h=>zAE hw hG t c (At.mono q hle (by simp)) h) an) ?_
     rintro df dg bv dh av S ⟨cl,rfl,bn⟩
     replace S:St z H0 _ bv [cl,.box ac 62 [l,o],.box ad 56 [(str []),(str [])],.box ae 56 [(str []),(str [])],.box af 56 [(str []),(str ab)],.box ah 54 [(str b.fName),(int b.fBytes),(int b.fVariants),(int b.fTables),(boo b.fStrict),(boo b.fRefuse),(ptr p 0),(int 0),(.pointer none)],.box p 136 [(int b.fBytes),(int b.fVariants),(int b.fTables),(int (wr (0+(wr (u - x))))),(.slice none 0 0),(mapv k)],.mp k (encm (fun v=>v) [(c,(agg [l,o]))])]:=S
     have q:=At.mono q av (by simp)
     have ⟨d,j⟩:=U2 av d j
     refine We ?_
     refine Cx [8] ⟨bv,av,(S.pk [1,2,3,4,5,7])⟩ (all1 ?_)
     refine Nx 13 511 rfl<|W.bslice (α:=Str) [(str c)] ([c]:List Str) S el45 rfl rfl rfl (by decide) (Go.Eng.encS ⟨rfl,rfl⟩ enc0) ?_
     intro di dj bi aw cm S
     have q:=At.mono q aw (by simp)
     have bn:=MR.mono bn aw
     have ⟨d,j⟩:=U2 aw d j
     refine We ?_
     refine Cx [9] ⟨bi,(av.trans aw),(S.pk [2,3,4,5,6,8])⟩ (all1 ?_)
     refine Nx 13 1023 rfl<|W.appM (α:=Str) (i:=1) S el45 rfl rfl rfl bn cm ao ?_
     intro bw cn dk bx S
     refine We ?_
     refine Ct 10 13 2047 rfl (fun _ _=>(R.nilCheckB rfl)) ?_
     refine Ct 11 13 4095 rfl (fun _ _=>(R.fieldB rfl zAm)) ?_
     refine Cx [12] ⟨bi,(av.trans aw),(S.pk [2,3,4,5,6,8])⟩ (all1 ?_)
     refine Nx 13 8191 rfl ?_
     refine W.storeMR (α:=Str) (i:=7) [(int b.fBytes),(int b.fVariants),(int b.fTables),(int (wr (0+(wr (u - x))))),bw,(mapv k)] S bx rfl rfl rfl lay45 (Nat.le_of_ble_eq_true rfl) rfl ?_
     intro dl S
     refine We<|WC.done ⟨bi,(av.trans aw),(S.pk [2,3,4,5,6,8])⟩ kr ?_
     exact ⟨bi,(cn),bw,d,j,bx,d,j,((al.trans av).trans aw),(S.pk [1,2,3,4,5,6,7,8])⟩
    refine Nx 13 447 rfl<|W.bslice (α:=Str) [(str c)] ([c]:List Str) S el45 rfl rfl rfl (by decide) (Go.Eng.encS ⟨rfl,rfl⟩ enc0) ?_
    intro bz dm b0 ax bo S
    have q:=At.mono q ax (by simp)
    have ⟨d,j⟩:=U2 ax d j
    refine We ?_
    refine Cx [6] ⟨b0,ax,(S.pk [1,2,3,4,5,7])⟩ (all1 ?_)
    refine Nx 13 511 rfl ?_
    have S:=S.addNil 9 1
    replace S:St z H0 _ b0 (.row (.slice none 0 0) 9 1 0 :: [.row bz 9 1 ([c]:List Str).length,.box ac 62 [l,o],.box ad 56 [(str []),(str [])],.box ae 56 [(str []),(str [])],.box af 56 [(str []),(str ab)],.box ah 54 [(str b.fName),(int b.fBytes),(int b.fVariants),(int b.fTables),(boo b.fStrict),(boo b.fRefuse),(ptr p 0),(int 0),(.pointer none)],.box p 136 [(int b.fBytes),(int b.fVariants),(int b.fTables),(int (wr (0+(wr (u - x))))),(.slice none 0 0),(mapv k)],.mp k (encm (fun v=>v) [(c,(agg [l,o]))])]):=S
    refine W.callS rfl (zAB hG ([]:List Str) (fun t=>zAD t c) S MR.nil (fun hle hw hG t r h=>zAE hw hG t c (At.mono q hle (by simp)) h) an) ?_
    rintro dn dp ba dq a3 S ⟨co,rfl,cp⟩
    replace S:St z H0 _ ba [co,.row bz 9 1 ([c]:List Str).length,.box ac 62 [l,o],.box ad 56 [(str []),(str [])],.box ae 56 [(str []),(str [])],.box af 56 [(str []),(str ab)],.box ah 54 [(str b.fName),(int b.fBytes),(int b.fVariants),(int b.fTables),(boo b.fStrict),(boo b.fRefuse),(ptr p 0),(int 0),(.pointer none)],.box p 136 [(int b.fBytes),(int b.fVariants),(int b.fTables),(int (wr (0+(wr (u - x))))),(.slice none 0 0),(mapv k)],.mp k (encm (fun v=>v) [(c,(agg [l,o]))])]:=S
    have q:=At.mono q a3 (by simp)
    have ⟨bo,d,j⟩:=U3 a3 bo d j
    refine We ?_
    refine Cx [9] ⟨ba,(ax.trans a3),(S.pk [2,3,4,5,6,8])⟩ (all1 ?_)
    refine Nx 13 1023 rfl<|W.appM (α:=Str) (i:=0) S el45 rfl rfl rfl cp bo ao ?_
    intro b1 cq dr b2 S
    refine We ?_
    refine Ct 10 13 2047 rfl (fun _ _=>(R.nilCheckB rfl)) ?_
    refine Ct 11 13 4095 rfl (fun _ _=>(R.fieldB rfl zAm)) ?_
    refine Cx [12] ⟨ba,(ax.trans a3),(S.pk [2,3,4,5,6,8])⟩ (all1 ?_)
    refine Nx 13 8191 rfl ?_
    refine W.storeMR (α:=Str) (i:=7) [(int b.fBytes),(int b.fVariants),(int b.fTables),(int (wr (0+(wr (u - x))))),b1,(mapv k)] S b2 rfl rfl rfl lay45 (Nat.le_of_ble_eq_true rfl) rfl ?_
    intro ds S
    refine We<|WC.done ⟨ba,(ax.trans a3),(S.pk [2,3,4,5,6,8])⟩ kr ?_
    exact ⟨ba,(cq),b1,d,j,b2,d,j,((al.trans ax).trans a3),(S.pk [0,2,3,4,5,6,7,8])⟩
   refine Nx 13 415 rfl<|W.bslice (α:=Str) [(str c)] ([c]:List Str) S el45 rfl rfl rfl (by decide) (Go.Eng.encS ⟨rfl,rfl⟩ enc0) ?_
   intro b3 dt bp ap bq S
   have q:=At.mono q ap (by simp)
   have ⟨d,j⟩:=U2 ap d j
   refine We ?_
   refine Cx [5] ⟨bp,ap,(S.pk [1,2,3,4,5,7])⟩ (all1 ?_)
   refine Nx 13 447 rfl ?_
   refine WL.w (R.mkFunc (vs:=[(.pointer (some ⟨a2,0,none⟩))]) rfl)<|We ?_
   refine Cx [6] ⟨bp,ap,(S.pk [1,2,3,4,5,7])⟩ (all1 ?_)
   refine Nx 13 511 rfl ?_
   have S:=S.addNil 9 1
   replace S:St z H0 _ bp (.row (.slice none 0 0) 9 1 0 :: [.row b3 9 1 ([c]:List Str).length,.box ac 62 [l,o],.box ad 56 [(str []),(str [])],.box ae 56 [(str []),(str [])],.box af 56 [(str []),(str ab)],.box ah 54 [(str b.fName),(int b.fBytes),(int b.fVariants),(int b.fTables),(boo b.fStrict),(boo b.fRefuse),(ptr p 0),(int 0),(.pointer none)],.box p 136 [(int b.fBytes),(int b.fVariants),(int b.fTables),(int (wr (0+(wr (u - x))))),(.slice none 0 0),(mapv k)],.mp k (encm (fun v=>v) [(c,(agg [l,o]))])]):=S
   refine W.callS rfl (zAB hG ([]:List Str) (fun t=>zAD t c) S MR.nil (fun hle hw hG t r h=>zAE hw hG t c (At.mono q hle (by simp)) h) an) ?_
   rintro du dv bb dw a4 S ⟨cr,rfl,cs⟩
   replace S:St z H0 _ bb [cr,.row b3 9 1 ([c]:List Str).length,.box ac 62 [l,o],.box ad 56 [(str []),(str [])],.box ae 56 [(str []),(str [])],.box af 56 [(str []),(str ab)],.box ah 54 [(str b.fName),(int b.fBytes),(int b.fVariants),(int b.fTables),(boo b.fStrict),(boo b.fRefuse),(ptr p 0),(int 0),(.pointer none)],.box p 136 [(int b.fBytes),(int b.fVariants),(int b.fTables),(int (wr (0+(wr (u - x))))),(.slice none 0 0),(mapv k)],.mp k (encm (fun v=>v) [(c,(agg [l,o]))])]:=S
   have q:=At.mono q a4 (by simp)
   have ⟨bq,d,j⟩:=U3 a4 bq d j
   refine We ?_
   refine Cx [9] ⟨bb,(ap.trans a4),(S.pk [2,3,4,5,6,8])⟩ (all1 ?_)
   refine Nx 13 1023 rfl<|W.appM (α:=Str) (i:=0) S el45 rfl rfl rfl cs bq ao ?_
   intro b4 ct dx b5 S
   refine We ?_
   refine Ct 10 13 2047 rfl (fun _ _=>(R.nilCheckB rfl)) ?_
   refine Ct 11 13 4095 rfl (fun _ _=>(R.fieldB rfl zAm)) ?_
   refine Cx [12] ⟨bb,(ap.trans a4),(S.pk [2,3,4,5,6,8])⟩ (all1 ?_)
   refine Nx 13 8191 rfl ?_
   refine W.storeMR (α:=Str) (i:=7) [(int b.fBytes),(int b.fVariants),(int b.fTables),(int (wr (0+(wr (u - x))))),b4,(mapv k)] S b5 rfl rfl rfl lay45 (Nat.le_of_ble_eq_true rfl) rfl ?_
   intro dy S
   refine We<|WC.done ⟨bb,(ap.trans a4),(S.pk [2,3,4,5,6,8])⟩ kr ?_
   exact ⟨bb,(ct),b4,d,j,b5,d,j,((al.trans ap).trans a4),(S.pk [0,2,3,4,5,6,7,8])⟩
  ·refine Nx 13 175 rfl ?_
   refine WL.w (R.mkFunc (vs:=[(.pointer (some ⟨a2,0,none⟩))]) rfl)<|We ?_
   refine Cx [4,8] ⟨ak,lr,(S.pk [0,1,2,3,4,6])⟩ (allS ?_ (all1 ?_))
   ·refine Nx 13 191 rfl ?_
    refine Lo 5 S<|We ?_
    refine Cx [6,8] ⟨ak,lr,(S.pk [0,1,2,3,4,6])⟩ (allS ?_ (all1 ?_))
    ·refine Nx 13 255 rfl ?_
     have S:=S.addNil 9 1
     replace S:St z H0 _ ak (.row (.slice none 0 0) 9 1 0 :: [.box ac 62 [l,o],.box ad 56 [(str []),(str [])],.box ae 56 [(str []),(str [])],.box af 56 [(str []),(str ab)],.box ah 54 [(str b.fName),(int b.fBytes),(int b.fVariants),(int b.fTables),(boo b.fStrict),(boo b.fRefuse),(ptr p 0),(int 0),(.pointer none)],.box p 136 [(int b.fBytes),(int b.fVariants),(int b.fTables),(int (wr (0+(wr (u - x))))),(.slice none 0 0),(mapv k)],.mp k (encm (fun v=>v) [(c,(agg [l,o]))])]):=S
     refine W.callS rfl (zAB hG ([]:List Str) (fun t=>zAD t c) S MR.nil (fun hle hw hG t r h=>zAE hw hG t c (At.mono q hle (by simp)) h) an) ?_
     rintro dz d0 b6 d1 ay S ⟨cu,rfl,br⟩
     replace S:St z H0 _ b6 [cu,.box ac 62 [l,o],.box ad 56 [(str []),(str [])],.box ae 56 [(str []),(str [])],.box af 56 [(str []),(str ab)],.box ah 54 [(str b.fName),(int b.fBytes),(int b.fVariants),(int b.fTables),(boo b.fStrict),(boo b.fRefuse),(ptr p 0),(int 0),(.pointer none)],.box p 136 [(int b.fBytes),(int b.fVariants),(int b.fTables),(int (wr (0+(wr (u - x))))),(.slice none 0 0),(mapv k)],.mp k (encm (fun v=>v) [(c,(agg [l,o]))])]:=S
     have q:=At.mono q ay (by simp)
     have ⟨d,j⟩:=U2 ay d j
     refine We ?_
     refine Cx [8] ⟨b6,ay,(S.pk [1,2,3,4,5,7])⟩ (all1 ?_)
     refine Nx 13 511 rfl<|W.bslice (α:=Str) [(str c)] ([c]:List Str) S el45 rfl rfl rfl (by decide) (Go.Eng.encS ⟨rfl,rfl⟩ enc0) ?_
     intro d2 d3 bj az cv S
     have q:=At.mono q az (by simp)
     have br:=MR.mono br az
     have ⟨d,j⟩:=U2 az d j
     refine We ?_
     refine Cx [9] ⟨bj,(ay.trans az),(S.pk [2,3,4,5,6,8])⟩ (all1 ?_)
     refine Nx 13 1023 rfl<|W.appM (α:=Str) (i:=1) S el45 rfl rfl rfl br cv ao ?_
     intro b7 cw d4 b8 S
     refine We ?_
     refine Ct 10 13 2047 rfl (fun _ _=>(R.nilCheckB rfl)) ?_
     refine Ct 11 13 4095 rfl (fun _ _=>(R.fieldB rfl zAm)) ?_
     refine Cx [12] ⟨bj,(ay.trans az),(S.pk [2,3,4,5,6,8])⟩ (all1 ?_)
     refine Nx 13 8191 rfl ?_
     refine W.storeMR (α:=Str) (i:=7) [(int b.fBytes),(int b.fVariants),(int b.fTables),(int (wr (0+(wr (u - x))))),b7,(mapv k)] S b8 rfl rfl rfl lay45 (Nat.le_of_ble_eq_true rfl) rfl ?_
     intro d5 S
     refine We<|WC.done ⟨bj,(ay.trans az),(S.pk [2,3,4,5,6,8])⟩ kr ?_
     exact ⟨bj,(cw),b7,d,j,b8,d,j,((al.trans ay).trans az),(S.pk [1,2,3,4,5,6,7,8])⟩
    refine Nx 13 447 rfl<|W.bslice (α:=Str) [(str c)] ([c]:List Str) S el45 rfl rfl rfl (by decide) (Go.Eng.encS ⟨rfl,rfl⟩ enc0) ?_
    intro b9 d6 ca a0 bs S
    have q:=At.mono q a0 (by simp)
    have ⟨d,j⟩:=U2 a0 d j
    refine We ?_
    refine Cx [6] ⟨ca,a0,(S.pk [1,2,3,4,5,7])⟩ (all1 ?_)
    refine Nx 13 511 rfl ?_
    have S:=S.addNil 9 1
    replace S:St z H0 _ ca (.row (.slice none 0 0) 9 1 0 :: [.row b9 9 1 ([c]:List Str).length,.box ac 62 [l,o],.box ad 56 [(str []),(str [])],.box ae 56 [(str []),(str [])],.box af 56 [(str []),(str ab)],.box ah 54 [(str b.fName),(int b.fBytes),(int b.fVariants),(int b.fTables),(boo b.fStrict),(boo b.fRefuse),(ptr p 0),(int 0),(.pointer none)],.box p 136 [(int b.fBytes),(int b.fVariants),(int b.fTables),(int (wr (0+(wr (u - x))))),(.slice none 0 0),(mapv k)],.mp k (encm (fun v=>v) [(c,(agg [l,o]))])]):=S
    refine W.callS rfl (zAB hG ([]:List Str) (fun t=>zAD t c) S MR.nil (fun hle hw hG t r h=>zAE hw hG t c (At.mono q hle (by simp)) h) an) ?_
    rintro d7 d8 bc d9 a5 S ⟨cx,rfl,cy⟩
    replace S:St z H0 _ bc [cx,.row b9 9 1 ([c]:List Str).length,.box ac 62 [l,o],.box ad 56 [(str []),(str [])],.box ae 56 [(str []),(str [])],.box af 56 [(str []),(str ab)],.box ah 54 [(str b.fName),(int b.fBytes),(int b.fVariants),(int b.fTables),(boo b.fStrict),(boo b.fRefuse),(ptr p 0),(int 0),(.pointer none)],.box p 136 [(int b.fBytes),(int b.fVariants),(int b.fTables),(int (wr (0+(wr (u - x))))),(.slice none 0 0),(mapv k)],.mp k (encm (fun v=>v) [(c,(agg [l,o]))])]:=S
    have q:=At.mono q a5 (by simp)
    have ⟨bs,d,j⟩:=U3 a5 bs d j
    refine We ?_
    refine Cx [9] ⟨bc,(a0.trans a5),(S.pk [2,3,4,5,6,8])⟩ (all1 ?_)
    refine Nx 13 1023 rfl<|W.appM (α:=Str) (i:=0) S el45 rfl rfl rfl cy bs ao ?_
    intro cb cz ea cc S
    refine We ?_
    refine Ct 10 13 2047 rfl (fun _ _=>(R.nilCheckB rfl)) ?_
    refine Ct 11 13 4095 rfl (fun _ _=>(R.fieldB rfl zAm)) ?_
    refine Cx [12] ⟨bc,(a0.trans a5),(S.pk [2,3,4,5,6,8])⟩ (all1 ?_)
    refine Nx 13 8191 rfl ?_
    refine W.storeMR (α:=Str) (i:=7) [(int b.fBytes),(int b.fVariants),(int b.fTables),(int (wr (0+(wr (u - x))))),cb,(mapv k)] S cc rfl rfl rfl lay45 (Nat.le_of_ble_eq_true rfl) rfl ?_
    intro eb S
    refine We<|WC.done ⟨bc,(a0.trans a5),(S.pk [2,3,4,5,6,8])⟩ kr ?_
    exact ⟨bc,(cz),cb,d,j,cc,d,j,((al.trans a0).trans a5),(S.pk [0,2,3,4,5,6,7,8])⟩
   refine Nx 13 431 rfl<|W.bslice (α:=Str) [(str c)] ([c]:List Str) S el45 rfl rfl rfl (by decide) (Go.Eng.encS ⟨rfl,rfl⟩ enc0) ?_
   intro cd ec bt aq bu S
   have q:=At.mono q aq (by simp)
   have ⟨d,j⟩:=U2 aq d j
   refine We ?_
   refine Cx [4] ⟨bt,aq,(S.pk [1,2,3,4,5,7])⟩ (all1 ?_)
   refine Nx 13 447 rfl ?_
   refine Lo 6 S<|We ?_
   refine Cx [6] ⟨bt,aq,(S.pk [1,2,3,4,5,7])⟩ (all1 ?_)
   refine Nx 13 511 rfl ?_
   have S:=S.addNil 9 1
   replace S:St z H0 _ bt (.row (.slice none 0 0) 9 1 0 :: [.row cd 9 1 ([c]:List Str).length,.box ac 62 [l,o],.box ad 56 [(str []),(str [])],.box ae 56 [(str []),(str [])],.box af 56 [(str []),(str ab)],.box ah 54 [(str b.fName),(int b.fBytes),(int b.fVariants),(int b.fTables),(boo b.fStrict),(boo b.fRefuse),(ptr p 0),(int 0),(.pointer none)],.box p 136 [(int b.fBytes),(int b.fVariants),(int b.fTables),(int (wr (0+(wr (u - x))))),(.slice none 0 0),(mapv k)],.mp k (encm (fun v=>v) [(c,(agg [l,o]))])]):=S
   refine W.callS rfl (zAB hG ([]:List Str) (fun t=>zAD t c) S MR.nil (fun hle hw hG t r h=>zAE hw hG t c (At.mono q hle (by simp)) h) an) ?_
   rintro ed ee bd ef a6 S ⟨c0,rfl,c1⟩
   replace S:St z H0 _ bd [c0,.row cd 9 1 ([c]:List Str).length,.box ac 62 [l,o],.box ad 56 [(str []),(str [])],.box ae 56 [(str []),(str [])],.box af 56 [(str []),(str ab)],.box ah 54 [(str b.fName),(int b.fBytes),(int b.fVariants),(int b.fTables),(boo b.fStrict),(boo b.fRefuse),(ptr p 0),(int 0),(.pointer none)],.box p 136 [(int b.fBytes),(int b.fVariants),(int b.fTables),(int (wr (0+(wr (u - x))))),(.slice none 0 0),(mapv k)],.mp k (encm (fun v=>v) [(c,(agg [l,o]))])]:=S
   have q:=At.mono q a6 (by simp)
   have ⟨bu,d,j⟩:=U3 a6 bu d j
   refine We ?_
   refine Cx [9] ⟨bd,(aq.trans a6),(S.pk [2,3,4,5,6,8])⟩ (all1 ?_)
   refine Nx 13 1023 rfl<|W.appM (α:=Str) (i:=0) S el45 rfl rfl rfl c1 bu ao ?_
   intro ce c2 eg cf S
   refine We ?_
   refine Ct 10 13 2047 rfl (fun _ _=>(R.nilCheckB rfl)) ?_
   refine Ct 11 13 4095 rfl (fun _ _=>(R.fieldB rfl zAm)) ?_
   refine Cx [12] ⟨bd,(aq.trans a6),(S.pk [2,3,4,5,6,8])⟩ (all1 ?_)
   refine Nx 13 8191 rfl ?_
   refine W.storeMR (α:=Str) (i:=7) [(int b.fBytes),(int b.fVariants),(int b.fTables),(int (wr (0+(wr (u - x))))),ce,(mapv k)] S cf rfl rfl rfl lay45 (Nat.le_of_ble_eq_true rfl) rfl ?_
   intro eh S
   refine We<|WC.done ⟨bd,(aq.trans a6),(S.pk [2,3,4,5,6,8])⟩ kr ?_
   exact ⟨bd,(c2),ce,d,j,cf,d,j,((al.trans aq).trans a6),(S.pk [0,2,3,4,5,6,7,8])⟩
  refine Nx 13 399 rfl<|W.bslice (α:=Str) [(str c)] ([c]:List Str) S el45 rfl rfl rfl (by decide) (Go.Eng.encS ⟨rfl,rfl⟩ enc0) ?_
  intro bk ei a1 ai a7 S
  have q:=At.mono q ai (by simp)
  have ⟨d,j⟩:=U2 ai d j
  refine We ?_
  refine Cx [4,5] ⟨a1,ai,(S.pk [1,2,3,4,5,7])⟩ (allS ?_ (all1 ?_))
  ·refine Nx 13 415 rfl ?_
   refine Lo 6 S<|We ?_
   refine Cx [5] ⟨a1,ai,(S.pk [1,2,3,4,5,7])⟩ (all1 ?_)
   refine Nx 13 447 rfl ?_
   refine WL.w (R.mkFunc (vs:=[(.pointer (some ⟨a2,0,none⟩))]) rfl)<|We ?_
   refine Cx [6] ⟨a1,ai,(S.pk [1,2,3,4,5,7])⟩ (all1 ?_)
   refine Nx 13 511 rfl ?_
   have S:=S.addNil 9 1
   replace S:St z H0 _ a1 (.row (.slice none 0 0) 9 1 0 :: [.row bk 9 1 ([c]:List Str).length,.box ac 62 [l,o],.box ad 56 [(str []),(str [])],.box ae 56 [(str []),(str [])],.box af 56 [(str []),(str ab)],.box ah 54 [(str b.fName),(int b.fBytes),(int b.fVariants),(int b.fTables),(boo b.fStrict),(boo b.fRefuse),(ptr p 0),(int 0),(.pointer none)],.box p 136 [(int b.fBytes),(int b.fVariants),(int b.fTables),(int (wr (0+(wr (u - x))))),(.slice none 0 0),(mapv k)],.mp k (encm (fun v=>v) [(c,(agg [l,o]))])]):=S
   refine W.callS rfl (zAB hG ([]:List Str) (fun t=>zAD t c) S MR.nil (fun hle hw hG t r h=>zAE hw hG t c (At.mono q hle (by simp)) h) an) ?_
   rintro ej ek be el a8 S ⟨c3,rfl,c4⟩
   replace S:St z H0 _ be [c3,.row bk 9 1 ([c]:List Str).length,.box ac 62 [l,o],.box ad 56 [(str []),(str [])],.box ae 56 [(str []),(str [])],.box af 56 [(str []),(str ab)],.box ah 54 [(str b.fName),(int b.fBytes),(int b.fVariants),(int b.fTables),(boo b.fStrict),(boo b.fRefuse),(ptr p 0),(int 0),(.pointer none)],.box p 136 [(int b.fBytes),(int b.fVariants),(int b.fTables),(int (wr (0+(wr (u - x))))),(.slice none 0 0),(mapv k)],.mp k (encm (fun v=>v) [(c,(agg [l,o]))])]:=S
   have q:=At.mono q a8 (by simp)
   have ⟨a7,d,j⟩:=U3 a8 a7 d j
   refine We ?_
   refine Cx [9] ⟨be,(ai.trans a8),(S.pk [2,3,4,5,6,8])⟩ (all1 ?_)
   refine Nx 13 1023 rfl<|W.appM (α:=Str) (i:=0) S el45 rfl rfl rfl c4 a7 ao ?_
   intro cg c5 em ch S
   refine We ?_
   refine Ct 10 13 2047 rfl (fun _ _=>(R.nilCheckB rfl)) ?_
   refine Ct 11 13 4095 rfl (fun _ _=>(R.fieldB rfl zAm)) ?_
   refine Cx [12] ⟨be,(ai.trans a8),(S.pk [2,3,4,5,6,8])⟩ (all1 ?_)
   refine Nx 13 8191 rfl ?_
   refine W.storeMR (α:=Str) (i:=7) [(int b.fBytes),(int b.fVariants),(int b.fTables),(int (wr (0+(wr (u - x))))),cg,(mapv k)] S ch rfl rfl rfl lay45 (Nat.le_of_ble_eq_true rfl) rfl ?_
   intro en S
   refine We<|WC.done ⟨be,(ai.trans a8),(S.pk [2,3,4,5,6,8])⟩ kr ?_
   exact ⟨be,(c5),cg,d,j,ch,d,j,((al.trans ai).trans a8),(S.pk [0,2,3,4,5,6,7,8])⟩
  refine Nx 13 431 rfl ?_
  refine WL.w (R.mkFunc (vs:=[(.pointer (some ⟨a2,0,none⟩))]) rfl)<|We ?_
  refine Cx [4] ⟨a1,ai,(S.pk [1,2,3,4,5,7])⟩ (all1 ?_)
  refine Nx 13 447 rfl ?_
  refine Lo 6 S<|We ?_
  refine Cx [6] ⟨a1,ai,(S.pk [1,2,3,4,5,7])⟩ (all1 ?_)
  refine Nx 13 511 rfl ?_
  have S:=S.addNil 9 1
  replace S:St z H0 _ a1 (.row (.slice none 0 0) 9 1 0 :: [.row bk 9 1 ([c]:List Str).length,.box ac 62 [l,o],.box ad 56 [(str []),(str [])],.box ae 56 [(str []),(str [])],.box af 56 [(str []),(str ab)],.box ah 54 [(str b.fName),(int b.fBytes),(int b.fVariants),(int b.fTables),(boo b.fStrict),(boo b.fRefuse),(ptr p 0),(int 0),(.pointer none)],.box p 136 [(int b.fBytes),(int b.fVariants),(int b.fTables),(int (wr (0+(wr (u - x))))),(.slice none 0 0),(mapv k)],.mp k (encm (fun v=>v) [(c,(agg [l,o]))])]):=S
  refine W.callS rfl (zAB hG ([]:List Str) (fun t=>zAD t c) S MR.nil (fun hle hw hG t r h=>zAE hw hG t c (At.mono q hle (by simp)) h) an) ?_
  rintro eo ep bf eq bg S ⟨c6,rfl,c7⟩
  replace S:St z H0 _ bf [c6,.row bk 9 1 ([c]:List Str).length,.box ac 62 [l,o],.box ad 56 [(str []),(str [])],.box ae 56 [(str []),(str [])],.box af 56 [(str []),(str ab)],.box ah 54 [(str b.fName),(int b.fBytes),(int b.fVariants),(int b.fTables),(boo b.fStrict),(boo b.fRefuse),(ptr p 0),(int 0),(.pointer none)],.box p 136 [(int b.fBytes),(int b.fVariants),(int b.fTables),(int (wr (0+(wr (u - x))))),(.slice none 0 0),(mapv k)],.mp k (encm (fun v=>v) [(c,(agg [l,o]))])]:=S
  have ⟨a7,d,j⟩:=U3 bg a7 d j
  refine We ?_
  refine Cx [9] ⟨bf,(ai.trans bg),(S.pk [2,3,4,5,6,8])⟩ (all1 ?_)
  refine Nx 13 1023 rfl<|W.appM (α:=Str) (i:=0) S el45 rfl rfl rfl c7 a7 ao ?_
  intro ci c8 er cj S
  refine We ?_
  refine Ct 10 13 2047 rfl (fun _ _=>(R.nilCheckB rfl)) ?_
  refine Ct 11 13 4095 rfl (fun _ _=>(R.fieldB rfl zAm)) ?_
  refine Cx [12] ⟨bf,(ai.trans bg),(S.pk [2,3,4,5,6,8])⟩ (all1 ?_)
  refine Nx 13 8191 rfl ?_
  refine W.storeMR (α:=Str) (i:=7) [(int b.fBytes),(int b.fVariants),(int b.fTables),(int (wr (0+(wr (u - x))))),ci,(mapv k)] S cj rfl rfl rfl lay45 (Nat.le_of_ble_eq_true rfl) rfl ?_
  intro es S
  refine We<|WC.done ⟨bf,(ai.trans bg),(S.pk [2,3,4,5,6,8])⟩ kr ?_
  exact ⟨bf,(c8),ci,d,j,cj,d,j,((al.trans ai).trans bg),(S.pk [0,2,3,4,5,6,7,8])⟩
 rintro f w ⟨am,ar,au,c9,da,db,d,j,dc,S⟩
 refine In.zeroN rfl  ?_
 obtain rfl:=oi h
 exact hK ar au am dc c9 da db d j _ S
end Go.Proofs
