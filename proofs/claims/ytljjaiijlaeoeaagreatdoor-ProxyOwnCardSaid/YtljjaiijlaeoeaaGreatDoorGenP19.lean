/- A part. -/
import Derived.Test.YtljjaiijlaeoeaaGreatDoorEng38
import Derived.Test.YtljjaiijlaeoeaaGreatDoorEng36
import Derived.Test.YtljjaiijlaeoeaaGreatDoorGenP18
namespace Go.Proofs
set_option maxHeartbeats 4000000
set_option maxRecDepth 10000
open Go.Eng Go.Eng.Pure
set_option linter.unusedVariables false
theorem zFB {w0:World} {H0:Hp} (hw:Holds w0 H0) (hG:Tryz.Gl w0) {d:GConfig} {aq:Str} {al:Str} {ar:Str} {au:Int} {av:Int} {bp:(List Str)} {am:GTable} {t:Nat} {aw:Nat} {a6:Ent} {ax:Nat} {p:Nat} {a0:Value} {q:Nat} {ab:Value} {ac:Value} {a1:Hp} {w:World} (S:St w0 H0 w a1 [.box aw 56 [(str ar),(str [])],a6,.box ax 56 [(str []),(str aq)],.box t 54 [(str d.fName),(int d.fBytes),(int d.fVariants),(int d.fTables),(boo d.fStrict),(boo d.fRefuse),(ptr p 0),(int (wr (0+(if 1099511627776<5 then 1099511627776 else 5)))),(.pointer none)],.box p 136 [(int d.fBytes),(int d.fVariants),(int d.fTables),(int (wr (0+(wr (au - av))))),a0,(mapv q)],.mp q (encm (fun v=>v) [(al,(agg [ab,ac]))])]) (r:MR (α:=Str) a1 a6 9 a0 bp) (j:Sl a1 ab am.fAxes) (k:Sl a1 ac am.fEntries) {ad:GOutput} {u:GDecision} {c:(GRequest×GURI×Unit)} {af:GTable} {bg:(List Str)} (h:zCV d al bp am=some (ad,u,c,af,bg)) {K:Value→World→Prop}
  (hK:∀ (a7:Ent) (ay:Nat) (az:Nat) (z:Value) (x:Value) (ah:Nat) (o:Value) (ai:Nat) (a2:Value) (Hz:Hp),a1.le Hz→Sl Hz z af.fAxes→Sl Hz x af.fEntries→Sl Hz o c.1.fFields→MR (α:=Str) Hz a7 9 a2 bg→Sl Hz ab am.fAxes→Sl Hz ac am.fEntries→∀ w',St w0 H0 w' Hz [a7,.box ay 108 [(int u.fKind),(int u.fIndex)],.box az 62 [z,x],.box ah 94 [(str c.1.fMethod),(str c.1.fTarget),(int c.1.fMinor),o,(str c.1.fBody)],.box ai 56 [(str ad.fToClient),(str ad.fToOrigin)],.box aw 56 [(str ar),(str [])],.box ax 56 [(str []),(str aq)],.box t 54 [(str d.fName),(int d.fBytes),(int d.fVariants),(int d.fTables),(boo d.fStrict),(boo d.fRefuse),(ptr p 0),(int (wr (0+(if 1099511627776<5 then 1099511627776 else 5)))),(.pointer none)],.box p 136 [(int d.fBytes),(int d.fVariants),(int d.fTables),(int (wr (0+(wr (au - av))))),a2,(mapv q)],.mp q (encm (fun v=>v) [(al,(agg [ab,ac]))])]→K (.tuple ⟨[(agg [(str ad.fToClient),(str ad.fToOrigin)]),(int 0)]⟩) w') :
  CallK Tryz.prog 26 [(ptr t 0),(str [71,69,84,32,47,97,32,72,84,84,80,47,49,46,49,13,10,72,111,115,116,58,32,104,13,10,13,10])] w K:=by
 unfold zCV at h
 refine zAi (N':=160) Tryz.func26 rfl rfl kr rfl<|Ws<|Wg ?_
 refine W.alloc [(str []),(str [])] S zer56 ?_
 intro ai c2 S
 refine A<|We<|Ws<|Ws<|Wg<|M<|W.inl (args:=[(ptr t 0)]) rfl (N':=12) Tryz.func38 rfl rfl kr rfl<|Ws<|Wg<|A<|We<|Ws ?_
 refine Wg<|M ?_
 refine WL.w (v:=boo true) (R.ofEq (R.neqPN rfl rfl Tryz.underlying34) rfl)<|M<|Gy rfl<|M<|Gy rfl<|Nn<|Gy rfl<|Fb<|Gy rfl ?_
 refine Lo 4 S ?_
 refine Gy rfl ?_
 refine WL.w (v:=boo true) (R.ofEq (R.neqPN rfl rfl Tryz.underlying51) rfl)<|Pt rfl<|A<|We ?_
 refine WP.ret (In.one rfl rfl ?_)
 refine WL.w (v:=boo false) (R.ofEq (R.not rfl) rfl)<|M<|Gy rfl<|M<|Gy rfl<|Nn<|Gy rfl<|Fb<|Gy rfl ?_
 refine Lo 4 S<|Gy rfl ?_
 refine WL.w (v:=boo false) (R.ofEq (R.neqPN rfl rfl Tryz.underlying52) rfl) ?_
 refine Pf rfl<|We<|WP.condF (b:=false) rfl rfl<|Wk<|Ws<|Wg<|M<|B h fun c b4 h=>W.call S rfl (zFZ S.holds (hG.post S.post) [71,69,84,32,47,97,32,72,84,84,80,47,49,46,49,13,10,72,111,115,116,58,32,104,13,10,13,10] b4) ?_
 rintro c3 c4 b5 bh S ⟨o,rfl,aa⟩
 have r:=MR.mono r bh
 have ⟨j,k⟩:=U2 bh j k
 refine M ?_
 refine Ex ?_
 refine Ex ?_
 refine Ex ?_
 refine W.alloc [(str []),(str []),(int 0),(.slice none 0 0),(str [])] S zer94 ?_
 intro ah c5 S
 refine W.alloc [(str []),(int 0),(str []),(str []),(boo false)] S zer96 ?_
 intro bc c6 S
 refine W.store (i:=1) [(str c.1.fMethod),(str c.1.fTarget),(int c.1.fMinor),o,(str c.1.fBody)] S rfl rfl rfl lay94 rfl (AllOne.all (l:=[(str c.1.fMethod),(str c.1.fTarget),(int c.1.fMinor),o,(str c.1.fBody)]) (.cons rfl (.cons rfl (.cons rfl (.cons (Sl.oneC aa) (.cons rfl .nil)))))) (Nat.le_of_ble_eq_true rfl) rfl ?_
 intro c7 S
 refine W.store (i:=0) [(str c.2.1.fHost),(int c.2.1.fPort),(str c.2.1.fPath),(str c.2.1.fQuery),(boo c.2.1.fHasQuery)] S rfl rfl rfl lay96 rfl rfl (Nat.le_of_ble_eq_true rfl) rfl ?_
 intro c8 S
 refine A<|We<|Ws<|Wg ?_
 refine W.alloc [(int 0),.nilIface] S zJA ?_
 intro b6 c9 S
 refine We<|Ws<|Ws<|Wg<|M ?_
 refine WL.w (R.mkI Tryz.underlying104 rfl)<|W.inl (args:=[.nilIface,(.iface 104 (ptr b6 0))]) rfl (N':=42) Tryz.func49 rfl rfl kr rfl<|Ws<|Wg<|A<|We<|Ws ?_
 refine Ws<|Wg<|M ?_
 refine WL.w (R.eqlNI rfl rfl Tryz.underlying98)<|We<|WP.condT (b:=true) rfl rfl<|Ws<|Wg<|A<|We ?_
 refine WP.ret (In.one rfl rfl ?_)
 replace S:St w0 H0 _ b5 [.box bc 96 [(str c.2.1.fHost),(int c.2.1.fPort),(str c.2.1.fPath),(str c.2.1.fQuery),(boo c.2.1.fHasQuery)],.box ah 94 [(str c.1.fMethod),(str c.1.fTarget),(int c.1.fMinor),o,(str c.1.fBody)],.box ai 56 [(str []),(str [])],.box aw 56 [(str ar),(str [])],a6,.box ax 56 [(str []),(str aq)],.box t 54 [(str d.fName),(int d.fBytes),(int d.fVariants),(int d.fTables),(boo d.fStrict),(boo d.fRefuse),(ptr p 0),(int (wr (0+(if 1099511627776<5 then 1099511627776 else 5)))),(.pointer none)],.box p 136 [(int d.fBytes),(int d.fVariants),(int d.fTables),(int (wr (0+(wr (au - av))))),a0,(mapv q)],.mp q (encm (fun v=>v) [(al,(agg [ab,ac]))])]:=(S.pk [1,2,3,4,5,6,7,8,9])
 refine We<|WP.condF (b:=false) rfl rfl<|Wk<|Ws<|Wg ?_
 refine WL.w (R.loadBN (i:=0) (vs:=[(str c.2.1.fHost),(int c.2.1.fPort),(str c.2.1.fPath),(str c.2.1.fQuery),(boo c.2.1.fHasQuery)]) S rfl rfl lay96 rfl rfl)<|B h fun bi b7 h=>W.call S rfl (zFK S.holds (hG.post S.post) c.2.1 b7) ?_
 rintro da db dc bd S rfl
 have aa:=aa.up bd
 have r:=MR.mono r bd
 have ⟨j,k⟩:=U2 bd j k
 refine A<|We<|Ws<|Wg<|M<|Nn<|Fb ?_
 refine Lo 6 S<|M<|B h fun af b8 h=>callK rfl (zEu hw (hG) S aa r j k b8 ?_)
 intro z x dd de bj bx an ao j k aa r df S
 replace S:St w0 H0 _ bj [.box bc 96 [(str c.2.1.fHost),(int c.2.1.fPort),(str c.2.1.fPath),(str c.2.1.fQuery),(boo c.2.1.fHasQuery)],.box ah 94 [(str c.1.fMethod),(str c.1.fTarget),(int c.1.fMinor),o,(str c.1.fBody)],.box ai 56 [(str []),(str [])],.box aw 56 [(str ar),(str [])],a6,.box ax 56 [(str []),(str aq)],.box t 54 [(str d.fName),(int d.fBytes),(int d.fVariants),(int d.fTables),(boo d.fStrict),(boo d.fRefuse),(ptr p 0),(int (wr (0+(if 1099511627776<5 then 1099511627776 else 5)))),(.pointer none)],.box p 136 [(int d.fBytes),(int d.fVariants),(int d.fTables),(int (wr (0+(wr (au - av))))),a0,(mapv q)],.mp q (encm (fun v=>v) [(al,(agg [ab,ac]))])]:=(S.pk [2,3,4,5,6,7,8,9,10])
 refine M ?_
 refine Ex ?_
 refine Ex ?_
 refine W.alloc [(.slice none 0 0),(.slice none 0 0)] S zer62 ?_
 intro az dg S
 refine W.store (i:=0) [z,x] S rfl rfl rfl lay62 rfl (AllOne.all (l:=[z,x]) (.cons (Sl.oneC an) (.cons (Sl.oneC ao) .nil))) (Nat.le_of_ble_eq_true rfl) rfl ?_
 intro dh S
 refine A<|We<|Ws<|B h fun u bz h=>WP.cut (fun f w=>∃ (ap:Hp) (ay:Nat),f 0=(ptr t 0)∧f 4=(ptr ai 0)∧f 6=(ptr ah 0)∧f 7=(ptr bc 0)∧f 10=(str bi)∧f 11=(ptr az 0)∧f 13=(ptr ay 0)∧Sl ap z af.fAxes∧Sl ap x af.fEntries∧Sl ap o c.1.fFields∧MR (α:=Str) ap a6 9 a0 bp∧Sl ap ab am.fAxes∧Sl ap ac am.fEntries∧Hp.le a1 ap∧St w0 H0 w ap [.box ay 108 [(int u.fKind),(int u.fIndex)],.box az 62 [z,x],.box bc 96 [(str c.2.1.fHost),(int c.2.1.fPort),(str c.2.1.fPath),(str c.2.1.fQuery),(boo c.2.1.fHasQuery)],.box ah 94 [(str c.1.fMethod),(str c.1.fTarget),(int c.1.fMinor),o,(str c.1.fBody)],.box ai 56 [(str []),(str [])],.box aw 56 [(str ar),(str [])],a6,.box ax 56 [(str []),(str aq)],.box t 54 [(str d.fName),(int d.fBytes),(int d.fVariants),(int d.fTables),(boo d.fStrict),(boo d.fRefuse),(ptr p 0),(int (wr (0+(if 1099511627776<5 then 1099511627776 else 5)))),(.pointer none)],.box p 136 [(int d.fBytes),(int d.fVariants),(int d.fTables),(int (wr (0+(wr (au - av))))),a0,(mapv q)],.mp q (encm (fun v=>v) [(al,(agg [ab,ac]))])]) ?_ ?_
 ·refine WP.drawC (Cl w0 H0 bj [.box az 62 [z,x],.box bc 96 [(str c.2.1.fHost),(int c.2.1.fPort),(str c.2.1.fPath),(str c.2.1.fQuery),(boo c.2.1.fHasQuery)],.box ah 94 [(str c.1.fMethod),(str c.1.fTarget),(int c.1.fMinor),o,(str c.1.fBody)],.box ai 56 [(str []),(str [])],.box aw 56 [(str ar),(str [])],.box ax 56 [(str []),(str aq)],.box t 54 [(str d.fName),(int d.fBytes),(int d.fVariants),(int d.fTables),(boo d.fStrict),(boo d.fRefuse),(ptr p 0),(int (wr (0+(if 1099511627776<5 then 1099511627776 else 5)))),(.pointer none)],.box p 136 [(int d.fBytes),(int d.fVariants),(int d.fTables),(int (wr (0+(wr (au - av))))),a0,(mapv q)],.mp q (encm (fun v=>v) [(al,(agg [ab,ac]))])]) kr 13 rfl (bm 13 0) rfl ?_
  have S:=S.drew
  refine Ct 0 13 1 rfl (fun w hw=>by obtain ⟨_,hq,S⟩:=hw; exact (R.loadBN (i:=0) (vs:=[z,x]) S rfl rfl lay62 rfl rfl)) ?_
  refine Ct 1 13 3 rfl (fun w hw=>by obtain ⟨_,hq,S⟩:=hw; exact (R.loadBN (i:=2) (vs:=[(str c.1.fMethod),(str c.1.fTarget),(int c.1.fMinor),o,(str c.1.fBody)]) S rfl rfl lay94 rfl rfl)) ?_
  refine Ct 2 13 7 rfl (fun _ _=>(R.mv (v:=ptr t 0) rfl)) ?_
  refine Ct 3 13 15 rfl (fun _ _=>(R.nilCheckB rfl)) ?_
  refine Ct 4 13 31 rfl (fun _ _=>(R.fieldB rfl zG0)) ?_
  refine Ct 5 13 63 rfl (fun w hw=>by obtain ⟨_,hq,S⟩:=hw; exact (R.loadB (i:=6) (v:=int (wr (0+(if 1099511627776<5 then 1099511627776 else 5)))) S rfl rfl lay2 rfl)) ?_
  refine Ct 6 13 127 rfl (fun _ _=>(R.mv (v:=ptr t 0) rfl)) ?_
  refine Ct 7 13 255 rfl (fun _ _=>(R.nilCheckB rfl)) ?_
  refine Ct 8 13 511 rfl (fun _ _=>(R.fieldB rfl zG9)) ?_
  refine Ct 9 13 1023 rfl (fun w hw=>by obtain ⟨_,hq,S⟩:=hw; exact (R.loadBN (i:=6) (vs:=[(str d.fName),(int d.fBytes),(int d.fVariants),(int d.fTables),(boo d.fStrict),(boo d.fRefuse)]) S rfl rfl lay38 rfl rfl)) ?_
  refine Cx [10,11] ⟨bj,lr,(S.pk [0,1,2,3,4,6,7,8,9])⟩ (allS ?_ (all1 ?_))
  ·refine Nx 13 2047 rfl<|W.call S rfl (zBQ S.holds (hG.post S.post) af c.1 (wr (0+(if 1099511627776<5 then 1099511627776 else 5))) d an ao aa bz) ?_
   rintro di dj bk a3 S rfl
   have ⟨an,ao,aa⟩:=U3 a3 an ao aa
   have r:=MR.mono r a3
   have ⟨j,k⟩:=U2 a3 j k
   refine We ?_
   refine Cx [11] ⟨bk,a3,(S.pk [0,1,2,3,4,6,7,8,9])⟩ (all1 ?_)
   refine Nx 13 4095 rfl ?_
   refine W.alloc [(int 0),(int 0)] S zGq ?_
   intro b9 dk S
   refine We ?_
   refine Cx [12] ⟨bk,a3,(S.pk [1,2,3,4,5,7,8,9,10])⟩ (all1 ?_)
   refine Nx 13 8191 rfl ?_
   refine W.store (i:=0) [(int u.fKind),(int u.fIndex)] S rfl rfl rfl zFO rfl rfl (Nat.le_of_ble_eq_true rfl) rfl ?_
   intro dl S
   refine We<|WC.done ⟨bk,a3,(S.pk [1,2,3,4,5,7,8,9,10])⟩ kr ?_
   exact ⟨bk,b9,rfl,rfl,rfl,rfl,rfl,rfl,rfl,an,ao,aa,r,j,k,(((bh.trans bd).trans bx).trans a3),S⟩
  refine Nx 13 3071 rfl ?_
  refine W.alloc [(int 0),(int 0)] S zGq ?_
  intro ca dm S
  refine We ?_
  refine Cx [10] ⟨bj,lr,(S.pk [1,2,3,4,5,7,8,9,10])⟩ (all1 ?_)
  refine Nx 13 4095 rfl<|W.call S rfl (zBQ S.holds (hG.post S.post) af c.1 (wr (0+(if 1099511627776<5 then 1099511627776 else 5))) d an ao aa bz) ?_
  rintro dn dp bq a8 S rfl
  have ⟨an,ao,aa⟩:=U3 a8 an ao aa
  have r:=MR.mono r a8
  have ⟨j,k⟩:=U2 a8 j k
  refine We ?_
  refine Cx [12] ⟨bq,a8,(S.pk [1,2,3,4,5,7,8,9,10])⟩ (all1 ?_)
  refine Nx 13 8191 rfl ?_
  refine W.store (i:=0) [(int u.fKind),(int u.fIndex)] S rfl rfl rfl zFO rfl rfl (Nat.le_of_ble_eq_true rfl) rfl ?_
  intro dq S
  refine We<|WC.done ⟨bq,a8,(S.pk [1,2,3,4,5,7,8,9,10])⟩ kr ?_
  exact ⟨bq,ca,rfl,rfl,rfl,rfl,rfl,rfl,rfl,an,ao,aa,r,j,k,(((bh.trans bd).trans bx).trans a8),S⟩
 rintro f w ⟨ap,ay,bn,b0,b1,cb,b2,cc,b3,br,bs,bt,r,j,k,cd,S⟩
 refine Ws<|WP.quietTail 8 S kr kr ?_
 refine WQ.val (fun w hw=>by obtain ⟨_,hq,S⟩:=hw; exact (R.loadBN (i:=3) (vs:=[(str c.1.fMethod),(str c.1.fTarget),(int c.1.fMinor),o,(str c.1.fBody)]) S b1 rfl lay94 rfl rfl)) ?_
 refine WQ.val (fun w hw=>by obtain ⟨_,hq,S⟩:=hw; exact (R.loadBN (i:=2) (vs:=[(str c.2.1.fHost),(int c.2.1.fPort),(str c.2.1.fPath),(str c.2.1.fQuery),(boo c.2.1.fHasQuery)]) S cb rfl lay96 rfl rfl))<|QM' b2<|QM' bn<|QNn<|QFb ?_
 refine WQ.val (fun w hw=>by obtain ⟨_,hq,S⟩:=hw; exact (R.loadB (i:=8) (v:=int (wr (0+(if 1099511627776<5 then 1099511627776 else 5)))) S rfl rfl lay2 rfl)) ?_
 refine WQ.val (fun _ _=>(R.build [(0,(agg [(str c.1.fMethod),(str c.1.fTarget),(int c.1.fMinor),o,(str c.1.fBody)])),(1,(agg [(str c.2.1.fHost),(int c.2.1.fPort),(str c.2.1.fPath),(str c.2.1.fQuery),(boo c.2.1.fHasQuery)])),(2,(str bi)),(3,(int (wr (0+(if 1099511627776<5 then 1099511627776 else 5)))))] [(str c.1.fMethod),(str c.1.fTarget),(int c.1.fMinor),o,(str c.1.fBody),(str c.2.1.fHost),(int c.2.1.fPort),(str c.2.1.fPath),(str c.2.1.fQuery),(boo c.2.1.fHasQuery),(str bi),(int (wr (0+(if 1099511627776<5 then 1099511627776 else 5)))),(boo false),(int 0),(.slice none 0 0),(.slice none 0 0),(.slice none 0 0),(str []),(.slice none 0 0),(str []),(int 0),(int 0)] bp111 zJF kr kr))<|WQ.nil ?_
 intro dr ds bo S
 have ⟨bt,br,bs⟩:=U3 bo bt br bs
 have r:=MR.mono r bo
 have ⟨j,k⟩:=U2 bo j k
 refine W.box [(str c.1.fMethod),(str c.1.fTarget),(int c.1.fMinor),o,(str c.1.fBody),(str c.2.1.fHost),(int c.2.1.fPort),(str c.2.1.fPath),(str c.2.1.fQuery),(boo c.2.1.fHasQuery),(str bi),(int (wr (0+(if 1099511627776<5 then 1099511627776 else 5)))),(boo false),(int 0),(.slice none 0 0),(.slice none 0 0),(.slice none 0 0),(str []),(.slice none 0 0),(str []),(int 0),(int 0)] S rfl rfl ?_
 intro dt du S
 refine A<|We<|Ws<|Ws<|Wg<|Fb' b3 ?_
 refine Lo 1 S<|We<|Wb<|Ws<|Wg<|Le ?_
 refine A<|We ?_
 rcases condE h with ⟨bu,h⟩ | ⟨bu,h⟩
 ·refine CT bu<|Ws<|Wg<|M' bn<|Nn<|Fb ?_
  refine Lo 9 S<|M' b2<|B h fun bg ce h=>callK rfl (zEz hw (hG) S bt br bs r j k ce ?_)
  intro a7 a2 bv cf be a9 ba a4 j k dv S
  refine We<|Ws<|B h fun bf cg h=>B h fun ch ci h=>B h fun ad cj h=>WP.cut (fun f w=>∃ (aj:Hp),f 4=(ptr ai 0)∧f 5=(int 0)∧Sl aj z af.fAxes∧Sl aj x af.fEntries∧Sl aj o c.1.fFields∧MR (α:=Str) aj a7 9 a2 bg∧Sl aj ab am.fAxes∧Sl aj ac am.fEntries∧Hp.le a1 aj∧St w0 H0 w aj [a7,.box ay 108 [(int u.fKind),(int u.fIndex)],.box az 62 [z,x],.box ah 94 [(str c.1.fMethod),(str c.1.fTarget),(int c.1.fMinor),o,(str c.1.fBody)],.box ai 56 [(str ad.fToClient),(str ad.fToOrigin)],.box aw 56 [(str ar),(str [])],.box ax 56 [(str []),(str aq)],.box t 54 [(str d.fName),(int d.fBytes),(int d.fVariants),(int d.fTables),(boo d.fStrict),(boo d.fRefuse),(ptr p 0),(int (wr (0+(if 1099511627776<5 then 1099511627776 else 5)))),(.pointer none)],.box p 136 [(int d.fBytes),(int d.fVariants),(int d.fTables),(int (wr (0+(wr (au - av))))),a2,(mapv q)],.mp q (encm (fun v=>v) [(al,(agg [ab,ac]))])]) ?_ ?_
  ·refine WP.drawC (Cl w0 H0 bv [.box ay 108 [(int u.fKind),(int u.fIndex)],.box az 62 [z,x],.box ah 94 [(str c.1.fMethod),(str c.1.fTarget),(int c.1.fMinor),o,(str c.1.fBody)],.box aw 56 [(str ar),(str [])],.box ax 56 [(str []),(str aq)],.box t 54 [(str d.fName),(int d.fBytes),(int d.fVariants),(int d.fTables),(boo d.fStrict),(boo d.fRefuse),(ptr p 0),(int (wr (0+(if 1099511627776<5 then 1099511627776 else 5)))),(.pointer none)],.box p 136 [(int d.fBytes),(int d.fVariants),(int d.fTables),(int (wr (0+(wr (au - av))))),a2,(mapv q)],.mp q (encm (fun v=>v) [(al,(agg [ab,ac]))])]) kr 20 rfl (bm 20 0) rfl ?_
   have S:=S.drew
   refine Ct 0 20 1 rfl (fun w hw=>by obtain ⟨_,hq,S⟩:=hw; exact (R.loadBN (i:=2) (vs:=[(str c.1.fMethod),(str c.1.fTarget),(int c.1.fMinor),o,(str c.1.fBody)]) S b1 rfl lay94 rfl rfl)) ?_
   refine Ct 1 20 3 rfl (fun _ _=>(R.fieldB cc zBU)) ?_
   refine Ct 2 20 7 rfl (fun w hw=>by obtain ⟨_,hq,S⟩:=hw; exact (R.loadB (i:=1) (v:=x) S rfl rfl lay60 rfl)) ?_
   refine Ct 3 20 15 rfl (fun _ _=>(R.fieldB b3 zHx)) ?_
   refine Ct 4 20 31 rfl (fun w hw=>by obtain ⟨_,hq,S⟩:=hw; exact (R.loadB (i:=0) (v:=int u.fIndex) S rfl rfl lay3 rfl)) ?_
   refine Ct 7 20 159 rfl (fun _ _=>(R.mv (v:=ptr t 0) bn)) ?_
   refine Ct 8 20 415 rfl (fun _ _=>(R.nilCheckB rfl)) ?_
   refine Ct 9 20 927 rfl (fun _ _=>(R.fieldB rfl zG0)) ?_
   refine Ct 10 20 1951 rfl (fun w hw=>by obtain ⟨_,hq,S⟩:=hw; exact (R.loadB (i:=5) (v:=int (wr (0+(if 1099511627776<5 then 1099511627776 else 5)))) S rfl rfl lay2 rfl)) ?_
   refine Ct 11 20 3999 rfl (fun _ _=>(R.mv (v:=ptr t 0) bn)) ?_
   refine Ct 12 20 8095 rfl (fun _ _=>(R.nilCheckB rfl)) ?_
   refine Ct 13 20 16287 rfl (fun _ _=>(R.fieldB rfl zG9)) ?_
   refine Ct 14 20 32671 rfl (fun _ _=>(R.fieldB rfl zHp)) ?_
   refine Ct 15 20 65439 rfl (fun w hw=>by obtain ⟨_,hq,S⟩:=hw; exact (R.loadB (i:=5) (v:=str d.fName) S rfl rfl lay9 rfl)) ?_
   refine Cx [5] ⟨bv,lr,(S.pk [1,2,3,5,6,7,8,9])⟩ (all1 ?_)
   refine Nx 20 65471 rfl<|W.idx (α:=GEntry) a9 rfl rfl el60 cg ?_
   rintro dw _ ck ⟨cl,cm,cn,co,rfl,cp,cq,cr,ct⟩
   refine We ?_
   refine Ct 6 20 65535 rfl (fun w hw=>by obtain ⟨_,hq,S⟩:=hw; exact (R.loadHN (vs:=[cl,cm,cn,(str bf.fReason),co,(str bf.fBody),(int bf.fRequested),(int bf.fReceived)]) S rfl (At.mono ck hq (by simp)) lay92 rfl rfl)) ?_
   refine Cx [16] ⟨bv,lr,(S.pk [1,2,3,5,6,7,8,9])⟩ (all1 ?_)
   refine Nx 20 131071 rfl<|W.call S rfl (zF4 S.holds (hG.post S.post) bf (wr (0+(if 1099511627776<5 then 1099511627776 else 5))) d.fName cp cq cr ct ci) ?_
   rintro dx dy cu a5 S ⟨dz,rfl,cv⟩
   have ⟨ba,a9,be⟩:=U3 a5 ba a9 be
   have a4:=MR.mono a4 a5
   have ⟨j,k⟩:=U2 a5 j k
   refine We ?_
   refine Cx [17] ⟨cu,a5,(S.pk [1,2,3,5,6,7,8,9])⟩ (all1 ?_)
   refine Nx 20 262143 rfl<|W.call S rfl (zG7 S.holds (hG.post S.post) c.1 ch ba cv cj) ?_
   rintro d0 d1 bw bb S rfl
   have ⟨ba,a9,be⟩:=U3 bb ba a9 be
   have a4:=MR.mono a4 bb
   have ⟨j,k⟩:=U2 bb j k
   refine We ?_
   refine Cx [18] ⟨bw,(a5.trans bb),(S.pk [1,2,3,5,6,7,8,9])⟩ (all1 ?_)
   refine Nx 20 524287 rfl ?_
   refine W.store (i:=4) [(str ad.fToClient),(str ad.fToOrigin)] S b0 rfl rfl lay56 rfl rfl (Nat.le_of_ble_eq_true rfl) rfl ?_
   intro d2 S
   refine We ?_
   refine Ct 19 20 1048575 rfl (fun _ _=>(R.as (v:=int 0) rfl))<|WC.done ⟨bw,(a5.trans bb),(S.pk [1,2,3,5,6,7,8,9])⟩ kr ?_
   exact ⟨bw,b0,rfl,be,a9,ba,a4,j,k,((((cd.trans bo).trans cf).trans a5).trans bb),S⟩
  rintro f w ⟨aj,cw,cx,cy,cz,c0,a4,j,k,c1,S⟩
  refine WP.ret (In.two rfl (Res.cellB (i:=4) (cs:=[(str ad.fToClient),(str ad.fToOrigin)]) S cw rfl lay56 rfl rfl) cx ?_)
  cases oi h
  exact hK a7 ay az z x ah o ai a2 aj c1 cy cz c0 a4 j k _ S
 refine CF bu ?_
 cases h
theorem zAR {o:World} {q:Hp} (hw:Holds o q) (hG:Tryz.Gl o) {r:Bool} (h:zAU=some r) :
  Cb Tryz.prog 10 [] o q r:=by
 refine CM 72 Tryz.func10 hw fun S=>?_
 refine Ws<|Wg<|A<|We<|Ws<|Wg<|B h fun c ah h=>W.call S rfl (zGV S.holds (hG.post S.post)  ah) ?_
 rintro v2 w3 H4 a5 S rfl
 refine B h fun _ ai h=>callK rfl (zFg hw (hG) S ai ?_)
 intro ab t u b6 aj a7 a8 S
 replace S:St o q _ aj [.box ab 54 [(str c.fName),(int c.fBytes),(int c.fVariants),(int c.fTables),(boo c.fStrict),(boo c.fRefuse),(ptr t 0),(int 0),(.pointer none)],.box t 136 [(int c.fBytes),(int c.fVariants),(int c.fTables),(int 0),(.slice none 0 0),(mapv u)],.mp u []]:=(S.pk [0,1,2])
 refine M ?_
 refine Ex ?_
 refine Ex<|A<|A<|We<|Ws<|Ws<|Wg<|M ?_
 refine WL.w (v:=boo false) (R.ofEq (R.neq rfl rfl) rfl)<|M ?_
 refine Gy rfl<|M<|Gy rfl ?_
 refine WL.w (v:=boo false) (R.ofEq (R.eqlPN rfl rfl Tryz.underlying34) rfl)<|Pf rfl<|We<|WP.condF (b:=false) rfl rfl<|Wk<|Ws<|Wg<|M ?_
 obtain ⟨⟨k,l,ad⟩,ak,h⟩:=bindE h
 refine callK rfl (zFj hw (hG) S ak ?_)
 intro ae al a9 am ba an bb S
 replace S:St o q _ am [.box ae 111 [(str l.1.fMethod),(str l.1.fTarget),(int l.1.fMinor),al,(str l.1.fBody),(str l.2.1.fHost),(int l.2.1.fPort),(str l.2.1.fPath),(str l.2.1.fQuery),(boo l.2.1.fHasQuery),(str ad),(int 0),(boo false),(int 0),(.slice none 0 0),(.slice none 0 0),(.slice none 0 0),(str []),(.slice none 0 0),(str []),(int 0),(int 0)],.box ab 54 [(str c.fName),(int c.fBytes),(int c.fVariants),(int c.fTables),(boo c.fStrict),(boo c.fRefuse),(ptr t 0),(int 0),(ptr ae 0)],.box t 136 [(int c.fBytes),(int c.fVariants),(int c.fTables),(int 0),(.slice none 0 0),(mapv u)],.mp u []]:=(S.pk [0,2,3,4])
 refine M ?_
 refine Ex ?_
 refine Ex ?_
 refine W.alloc [(str []),(str [])] S zer56 ?_
 intro af bc S
 refine W.store (i:=0) [(str []),(str k)] S rfl rfl rfl lay56 rfl rfl (Nat.le_of_ble_eq_true rfl) rfl ?_
 intro bd S
 refine A<|We<|Ws<|Wg<|M ?_
 obtain ⟨⟨p,ao,ap,be,bf⟩,aq,h⟩:=bindE h
 refine callK rfl (zFq hw (hG) S an aq ?_)
 intro ar bg au av aw ax bh ac z aa bi S
 replace S:St o q _ ax [ar,.box af 56 [(str []),(str k)],.box ab 54 [(str c.fName),(int c.fBytes),(int c.fVariants),(int c.fTables),(boo c.fStrict),(boo c.fRefuse),(ptr t 0),(int 0),(.pointer none)],.box t 136 [(int c.fBytes),(int c.fVariants),(int c.fTables),(int (wr (0+(wr (ao - ap))))),au,(mapv u)],.mp u (encm (fun v=>v) [(ad,(agg [av,aw]))])]:=(S.pk [0,2,3,4,5])
 refine M ?_
 refine Ex ?_
 refine Ex ?_
 refine W.alloc [(str []),(str [])] S zer56 ?_
 intro ay bj S
 refine W.store (i:=0) [(str p),(str [])] S rfl rfl rfl lay56 rfl rfl (Nat.le_of_ble_eq_true rfl) rfl ?_
 intro bk S
 refine A<|We<|Ws<|Wg<|M<|B h fun _ az h=>callK rfl (zE2 hw (hG) S ac z aa az ?_)
 intro bn bo ac z aa bp S
 refine A<|We<|Ws<|Wg<|M ?_
 obtain ⟨⟨x,bq,br,bs,bt⟩,a0,h⟩:=bindE h
 refine callK rfl (zFB hw (hG) S ac z aa a0 ?_)
 intro bu bv bw bx bz b0 b1 b2 b3 a1 b4 b5 b7 b8 b9 z aa ca S
 replace S:St o q _ a1 [.box ay 56 [(str p),(str [])],.box af 56 [(str []),(str k)]]:=(S.pk [5,6])
 refine M ?_
 refine Ex ?_
 refine Ex ?_
 refine W.alloc [(str []),(str [])] S zer56 ?_
 intro cb cc S
 refine W.store (i:=0) [(str x.fToClient),(str x.fToOrigin)] S rfl rfl rfl lay56 rfl rfl (Nat.le_of_ble_eq_true rfl) rfl ?_
 intro cd S
 refine A<|We<|Ws<|Wg<|M ?_
 refine WL.w (v:=boo true) (R.ofEq (R.eql rfl rfl) rfl)<|M<|Gy rfl<|M<|Gy rfl ?_
 refine WL.w (v:=boo true) (R.ofEq (R.eql rfl rfl) rfl)<|Pt rfl ?_
 refine M<|Gy rfl<|M<|Gy rfl ?_
 refine WL.w (v:=boo true) (R.ofEq (R.eql rfl rfl) rfl)<|Pt rfl<|M<|Gy rfl<|M<|Gy rfl ?_
 refine WL.w (v:=boo true) (R.ofEq (R.eql rfl rfl) rfl)<|Pt rfl ?_
 refine M<|Gy rfl<|Fb<|Gy rfl ?_
 refine Lo 2 S<|Gy rfl<|Nb<|Pt rfl<|M ?_
 refine WL.grp 4 [58,59,60] 61 (boo ((k !=[])&&(p !=[]))) ?_ ?_
 ·rcases boolE (k !=[]) with d | d
  ·refine Gy d<|Fb<|Gy d ?_
   refine Lo 1 S<|Gy d<|Nb<|Pt d ?_
   exact We ⟨(andT d),ag,rfl⟩
  refine Gn d<|Gn d<|Gn d<|Pf d ?_
  exact We ⟨(andF d),ag,rfl⟩
 intro us
 refine M ?_
 refine WL.grp 4 [63,64,65] 66 (boo (((k !=[])&&(p !=[]))&&(x.fToOrigin==[]))) ?_ ?_
 ·rcases boolE ((k !=[])&&(p !=[])) with f | f
  ·refine Gy f<|Fb<|Gy f ?_
   refine Lo 0 S<|Gy f<|Na<|Pt f ?_
   exact We ⟨(andT f),ag,rfl⟩
  refine Gn f<|Gn f<|Gn f<|Pf f ?_
  exact We ⟨(andF f),ag,rfl⟩
 intro us
 refine M ?_
 refine WL.grp 4 [68,69,70] 71 (boo ((((k !=[])&&(p !=[]))&&(x.fToOrigin==[]))&&(x.fToClient==[72,84,84,80,47,49,46,49,32,50,48,48,32,79,75,13,10,67,97,99,104,101,45,67,111,110,116,114,111,108,58,32,109,97,120,45,97,103,101,61,54,48,13,10,65,103,101,58,32,53,13,10,86,105,97,58,32,49,46,49,32,112,13,10,67,111,110,116,101,110,116,45,76,101,110,103,116,104,58,32,49,13,10,13,10,120]))) ?_ ?_
 ·rcases boolE (((k !=[])&&(p !=[]))&&(x.fToOrigin==[])) with j | j
  ·refine Gy j<|Fb<|Gy j ?_
   refine Lo 0 S<|Gy j<|Na<|Pt j ?_
   exact We ⟨(andT j),ag,rfl⟩
  refine Gn j<|Gn j<|Gn j<|Pf j ?_
  exact We ⟨(andF j),ag,rfl⟩
 intro us
 refine A<|We ?_
 exact WP.ret (Rb h S)
end Go.Proofs
