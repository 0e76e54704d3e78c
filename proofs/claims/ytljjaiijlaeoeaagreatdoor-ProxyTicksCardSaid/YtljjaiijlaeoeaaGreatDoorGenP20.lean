/- A part of the proof of laws of the seat: written by program over the translation. -/
import Derived.Test.YtljjaiijlaeoeaaGreatDoorEng38
import Derived.Test.YtljjaiijlaeoeaaGreatDoorEng36
import Derived.Test.YtljjaiijlaeoeaaGreatDoorGenP19
namespace Go.Proofs
set_option maxHeartbeats 4000000
set_option maxRecDepth 10000
open Go.Eng Go.Eng.Pure
set_option linter.unusedVariables false
theorem zIL {w0:World} {H0:Hp} (hw:Holds w0 H0) (hG:Tryz.Gl w0) {d:GConfig} {ak:Str} {aj:Str} {al:Str} {am:Int} {an:Int} {bs:(List Str)} {a1:GTable} {u:Nat} {ao:Nat} {av:Ent} {ap:Nat} {j:Nat} {au:Value} {k:Nat} {aa:Value} {ab:Value} {ba:Hp} {w:World} (S:St w0 H0 w ba [.box ao 56 [(str al),(str [])],av,.box ap 56 [(str []),(str ak)],.box u 54 [(str d.fName),(int d.fBytes),(int d.fVariants),(int d.fTables),(boo d.fStrict),(boo d.fRefuse),(ptr j 0),(int (wr (0+(if 1099511627776<5 then 1099511627776 else 5)))),(.pointer none)],.box j 136 [(int d.fBytes),(int d.fVariants),(int d.fTables),(int (wr (0+(wr (am - an))))),au,(mapv k)],.mp k (encm (fun v=>v) [(aj,(agg [aa,ab]))])]) (ad:MR (α:=Str) ba av 9 au bs) (r:Sl (α:=GAxis) ba aa a1.fAxes) (t:Sl (α:=GEntry) ba ab a1.fEntries) {ae:GOutput} {p:GDecision} {c:(GRequest×GURI×Unit)} {aw:GTable} {bo:(List Str)} (h:zCO d aj bs a1=some (ae,p,c,aw,bo)) {K:Value→World→Prop}
  (hK:∀ (a9:Ent) (ax:Nat) (aq:Nat) (z:Value) (x:Value) (af:Nat) (q:Value) (ah:Nat) (a2:Value) (Hz:Hp),ba.le Hz→Sl (α:=GAxis) Hz z aw.fAxes→Sl (α:=GEntry) Hz x aw.fEntries→Sl (α:=GField) Hz q c.1.fFields→MR (α:=Str) Hz a9 9 a2 bo→Sl (α:=GAxis) Hz aa a1.fAxes→Sl (α:=GEntry) Hz ab a1.fEntries→∀ w',St w0 H0 w' Hz [a9,.box ax 108 [(int p.fKind),(int p.fIndex)],.box aq 62 [z,x],.box af 94 [(str c.1.fMethod),(str c.1.fTarget),(int c.1.fMinor),q,(str c.1.fBody)],.box ah 56 [(str ae.fToClient),(str ae.fToOrigin)],.box ao 56 [(str al),(str [])],.box ap 56 [(str []),(str ak)],.box u 54 [(str d.fName),(int d.fBytes),(int d.fVariants),(int d.fTables),(boo d.fStrict),(boo d.fRefuse),(ptr j 0),(int (wr (0+(if 1099511627776<5 then 1099511627776 else 5)))),(.pointer none)],.box j 136 [(int d.fBytes),(int d.fVariants),(int d.fTables),(int (wr (0+(wr (am - an))))),a2,(mapv k)],.mp k (encm (fun v=>v) [(aj,(agg [aa,ab]))])]→K (.tuple ⟨[(agg [(str ae.fToClient),(str ae.fToOrigin)]),(int 0)]⟩) w') :
  CallK Tryz.prog 26 [(ptr u 0),(str [71,69,84,32,47,97,32,72,84,84,80,47,49,46,49,13,10,72,111,115,116,58,32,104,13,10,13,10])] w K:=by
 unfold zCO at h
 refine zBB (N':=160) Tryz.func26 rfl rfl kr rfl<|Ws<|Wg ?_
 refine W.alloc [(str []),(str [])] S zer56 ?_
 intro ah c3 S
 refine A<|We<|Ws<|Ws<|Wg<|M<|W.inl (args:=[(ptr u 0)]) rfl (N':=12) Tryz.func38 rfl rfl kr rfl<|Ws<|Wg<|A<|We<|Ws ?_
 refine Wg<|M ?_
 refine WL.w (v:=boo true) (R.ofEq (R.neqPN rfl rfl Tryz.underlying34) rfl)<|M<|Gy rfl<|M<|Gy rfl<|Nn<|Gy rfl<|Fb<|Gy rfl ?_
 refine Lo 4 S ?_
 refine Gy rfl ?_
 refine WL.w (v:=boo true) (R.ofEq (R.neqPN rfl rfl Tryz.underlying51) rfl)<|Pt rfl<|A<|We ?_
 refine WP.ret (In.one rfl rfl ?_)
 refine WL.w (v:=boo false) (R.ofEq (R.not rfl) rfl)<|M<|Gy rfl<|M<|Gy rfl<|Nn<|Gy rfl<|Fb<|Gy rfl ?_
 refine Lo 4 S<|Gy rfl ?_
 refine WL.w (v:=boo false) (R.ofEq (R.neqPN rfl rfl Tryz.underlying52) rfl) ?_
 refine Pf rfl<|We<|WP.condF (b:=false) rfl rfl<|Wk<|Ws<|Wg<|M<|B h fun c b7 h=>W.call S rfl (zHz S.holds (hG.post S.post) [71,69,84,32,47,97,32,72,84,84,80,47,49,46,49,13,10,72,111,115,116,58,32,104,13,10,13,10] b7) ?_
 rintro c4 c5 b8 bh S ⟨q,rfl,ar⟩
 have ad:=MR.mono ad bh
 have r:=Sl.mono r bh
 have t:=Sl.mono t bh
 refine M ?_
 refine Ex ?_
 refine Ex ?_
 refine Ex ?_
 refine W.alloc [(str []),(str []),(int 0),(.slice none 0 0),(str [])] S zer94 ?_
 intro af c6 S
 refine W.alloc [(str []),(int 0),(str []),(str []),(boo false)] S zer96 ?_
 intro a3 c7 S
 refine W.store (i:=1) [(str c.1.fMethod),(str c.1.fTarget),(int c.1.fMinor),q,(str c.1.fBody)] S rfl rfl rfl lay94 rfl (AllOne.all (l:=[(str c.1.fMethod),(str c.1.fTarget),(int c.1.fMinor),q,(str c.1.fBody)]) (.cons rfl (.cons rfl (.cons rfl (.cons (Sl.oneC ar) (.cons rfl .nil)))))) (Nat.le_of_ble_eq_true rfl) rfl ?_
 intro c8 S
 refine W.store (i:=0) [(str c.2.1.fHost),(int c.2.1.fPort),(str c.2.1.fPath),(str c.2.1.fQuery),(boo c.2.1.fHasQuery)] S rfl rfl rfl lay96 rfl rfl (Nat.le_of_ble_eq_true rfl) rfl ?_
 intro c9 S
 refine A<|We<|Ws<|Wg ?_
 refine W.alloc [(int 0),.nilIface] S zMc ?_
 intro b9 da S
 refine We<|Ws<|Ws<|Wg<|M ?_
 refine WL.w (R.mkI Tryz.underlying104 rfl)<|W.inl (args:=[.nilIface,(.iface 104 (ptr b9 0))]) rfl (N':=42) Tryz.func49 rfl rfl kr rfl<|Ws<|Wg<|A<|We<|Ws ?_
 refine Ws<|Wg<|M ?_
 refine WL.w (R.eqlNI rfl rfl Tryz.underlying98)<|We<|WP.condT (b:=true) rfl rfl<|Ws<|Wg<|A<|We ?_
 refine WP.ret (In.one rfl rfl ?_)
 replace S:St w0 H0 _ b8 [.box a3 96 [(str c.2.1.fHost),(int c.2.1.fPort),(str c.2.1.fPath),(str c.2.1.fQuery),(boo c.2.1.fHasQuery)],.box af 94 [(str c.1.fMethod),(str c.1.fTarget),(int c.1.fMinor),q,(str c.1.fBody)],.box ah 56 [(str []),(str [])],.box ao 56 [(str al),(str [])],av,.box ap 56 [(str []),(str ak)],.box u 54 [(str d.fName),(int d.fBytes),(int d.fVariants),(int d.fTables),(boo d.fStrict),(boo d.fRefuse),(ptr j 0),(int (wr (0+(if 1099511627776<5 then 1099511627776 else 5)))),(.pointer none)],.box j 136 [(int d.fBytes),(int d.fVariants),(int d.fTables),(int (wr (0+(wr (am - an))))),au,(mapv k)],.mp k (encm (fun v=>v) [(aj,(agg [aa,ab]))])]:=(S.drop _ (.cons _ (.cons_cons _ (.cons_cons _ (.cons_cons _ (.cons_cons _ (.cons_cons _ (.cons_cons _ (.cons_cons _ (.cons_cons _ (.cons_cons _ .slnil)))))))))))
 refine We<|WP.condF (b:=false) rfl rfl<|Wk<|Ws<|Wg ?_
 refine WL.w (R.loadBN (i:=0) (vs:=[(str c.2.1.fHost),(int c.2.1.fPort),(str c.2.1.fPath),(str c.2.1.fQuery),(boo c.2.1.fHasQuery)]) S rfl rfl lay96 rfl rfl)<|B h fun bp ca h=>W.call S rfl (zIS S.holds (hG.post S.post) c.2.1 ca) ?_
 rintro db dc dd bd S rfl
 have ar:=Sl.mono ar bd
 have ad:=MR.mono ad bd
 have r:=Sl.mono r bd
 have t:=Sl.mono t bd
 refine A<|We<|Ws<|Wg<|M<|Nn<|Fb ?_
 refine Lo 6 S<|M<|B h fun aw cb h=>callK rfl (zIG hw (hG) S ar ad r t cb ?_)
 intro z x de df bq b1 a4 a5 r t ar ad dg S
 replace S:St w0 H0 _ bq [.box a3 96 [(str c.2.1.fHost),(int c.2.1.fPort),(str c.2.1.fPath),(str c.2.1.fQuery),(boo c.2.1.fHasQuery)],.box af 94 [(str c.1.fMethod),(str c.1.fTarget),(int c.1.fMinor),q,(str c.1.fBody)],.box ah 56 [(str []),(str [])],.box ao 56 [(str al),(str [])],av,.box ap 56 [(str []),(str ak)],.box u 54 [(str d.fName),(int d.fBytes),(int d.fVariants),(int d.fTables),(boo d.fStrict),(boo d.fRefuse),(ptr j 0),(int (wr (0+(if 1099511627776<5 then 1099511627776 else 5)))),(.pointer none)],.box j 136 [(int d.fBytes),(int d.fVariants),(int d.fTables),(int (wr (0+(wr (am - an))))),au,(mapv k)],.mp k (encm (fun v=>v) [(aj,(agg [aa,ab]))])]:=(S.drop _ (.cons _ (.cons _ (.cons_cons _ (.cons_cons _ (.cons_cons _ (.cons_cons _ (.cons_cons _ (.cons_cons _ (.cons_cons _ (.cons_cons _ (.cons_cons _ .slnil))))))))))))
 refine M ?_
 refine Ex ?_
 refine Ex ?_
 refine W.alloc [(.slice none 0 0),(.slice none 0 0)] S zer62 ?_
 intro aq dh S
 refine W.store (i:=0) [z,x] S rfl rfl rfl lay62 rfl (AllOne.all (l:=[z,x]) (.cons (Sl.oneC a4) (.cons (Sl.oneC a5) .nil))) (Nat.le_of_ble_eq_true rfl) rfl ?_
 intro di S
 refine A<|We<|Ws<|B h fun p b2 h=>WP.cut (fun f w=>∃ (a6:Hp) (ax:Nat),f 0=(ptr u 0)∧f 4=(ptr ah 0)∧f 6=(ptr af 0)∧f 7=(ptr a3 0)∧f 10=(str bp)∧f 11=(ptr aq 0)∧f 13=(ptr ax 0)∧Sl (α:=GAxis) a6 z aw.fAxes∧Sl (α:=GEntry) a6 x aw.fEntries∧Sl (α:=GField) a6 q c.1.fFields∧MR (α:=Str) a6 av 9 au bs∧Sl (α:=GAxis) a6 aa a1.fAxes∧Sl (α:=GEntry) a6 ab a1.fEntries∧Hp.le ba a6∧St w0 H0 w a6 [.box ax 108 [(int p.fKind),(int p.fIndex)],.box aq 62 [z,x],.box a3 96 [(str c.2.1.fHost),(int c.2.1.fPort),(str c.2.1.fPath),(str c.2.1.fQuery),(boo c.2.1.fHasQuery)],.box af 94 [(str c.1.fMethod),(str c.1.fTarget),(int c.1.fMinor),q,(str c.1.fBody)],.box ah 56 [(str []),(str [])],.box ao 56 [(str al),(str [])],av,.box ap 56 [(str []),(str ak)],.box u 54 [(str d.fName),(int d.fBytes),(int d.fVariants),(int d.fTables),(boo d.fStrict),(boo d.fRefuse),(ptr j 0),(int (wr (0+(if 1099511627776<5 then 1099511627776 else 5)))),(.pointer none)],.box j 136 [(int d.fBytes),(int d.fVariants),(int d.fTables),(int (wr (0+(wr (am - an))))),au,(mapv k)],.mp k (encm (fun v=>v) [(aj,(agg [aa,ab]))])]) ?_ ?_
 ·refine WP.drawC (Cl w0 H0 bq [.box aq 62 [z,x],.box a3 96 [(str c.2.1.fHost),(int c.2.1.fPort),(str c.2.1.fPath),(str c.2.1.fQuery),(boo c.2.1.fHasQuery)],.box af 94 [(str c.1.fMethod),(str c.1.fTarget),(int c.1.fMinor),q,(str c.1.fBody)],.box ah 56 [(str []),(str [])],.box ao 56 [(str al),(str [])],.box ap 56 [(str []),(str ak)],.box u 54 [(str d.fName),(int d.fBytes),(int d.fVariants),(int d.fTables),(boo d.fStrict),(boo d.fRefuse),(ptr j 0),(int (wr (0+(if 1099511627776<5 then 1099511627776 else 5)))),(.pointer none)],.box j 136 [(int d.fBytes),(int d.fVariants),(int d.fTables),(int (wr (0+(wr (am - an))))),au,(mapv k)],.mp k (encm (fun v=>v) [(aj,(agg [aa,ab]))])]) kr 13 rfl (bm 13 0) rfl ?_
  have S:=S.drew
  refine WC.take (i:=0) (bm 13 1) rfl kr kr kr rfl (fun w hw=>by obtain ⟨_,hq,S⟩:=hw; exact (R.loadBN (i:=0) (vs:=[z,x]) S rfl rfl lay62 rfl rfl)) ?_
  refine WC.take (i:=1) (bm 13 3) rfl kr kr kr rfl (fun w hw=>by obtain ⟨_,hq,S⟩:=hw; exact (R.loadBN (i:=2) (vs:=[(str c.1.fMethod),(str c.1.fTarget),(int c.1.fMinor),q,(str c.1.fBody)]) S rfl rfl lay94 rfl rfl)) ?_
  refine WC.take (i:=2) (bm 13 7) rfl kr kr kr rfl (fun _ _=>(R.mv (v:=ptr u 0) rfl)) ?_
  refine WC.take (i:=3) (bm 13 15) rfl kr kr kr rfl (fun _ _=>(R.nilCheckB rfl)) ?_
  refine WC.take (i:=4) (bm 13 31) rfl kr kr kr rfl (fun _ _=>(R.fieldB rfl zKJ)) ?_
  refine WC.take (i:=5) (bm 13 63) rfl kr kr kr rfl (fun w hw=>by obtain ⟨_,hq,S⟩:=hw; exact (R.loadB (i:=6) (v:=int (wr (0+(if 1099511627776<5 then 1099511627776 else 5)))) S rfl rfl lay2 rfl)) ?_
  refine WC.take (i:=6) (bm 13 127) rfl kr kr kr rfl (fun _ _=>(R.mv (v:=ptr u 0) rfl)) ?_
  refine WC.take (i:=7) (bm 13 255) rfl kr kr kr rfl (fun _ _=>(R.nilCheckB rfl)) ?_
  refine WC.take (i:=8) (bm 13 511) rfl kr kr kr rfl (fun _ _=>(R.fieldB rfl zKS)) ?_
  refine WC.take (i:=9) (bm 13 1023) rfl kr kr kr rfl (fun w hw=>by obtain ⟨_,hq,S⟩:=hw; exact (R.loadBN (i:=6) (vs:=[(str d.fName),(int d.fBytes),(int d.fVariants),(int d.fTables),(boo d.fStrict),(boo d.fRefuse)]) S rfl rfl lay38 rfl rfl)) ?_
  refine WC.next (rs:=[10,11]) ⟨bq,(Hp.le.refl _),S.drop _ (.cons_cons _ (.cons_cons _ (.cons_cons _ (.cons_cons _ (.cons_cons _ (.cons _ (.cons_cons _ (.cons_cons _ (.cons_cons _ (.cons_cons _ .slnil))))))))))⟩ kr (List.cons_ne_nil _ _) (allS ?_ (all1 ?_))
  ·refine Nxt.mk (o:=_) (bm 13 2047) rfl rfl<|W.call S rfl (zC7 S.holds (hG.post S.post) aw c.1 (wr (0+(if 1099511627776<5 then 1099511627776 else 5))) d a4 a5 ar b2) ?_
   rintro dj dk be ay S rfl
   have a4:=Sl.mono a4 ay
   have a5:=Sl.mono a5 ay
   have ar:=Sl.mono ar ay
   have ad:=MR.mono ad ay
   have r:=Sl.mono r ay
   have t:=Sl.mono t ay
   refine We ?_
   refine WC.next (rs:=[11]) ⟨be,ay,S.drop _ (.cons_cons _ (.cons_cons _ (.cons_cons _ (.cons_cons _ (.cons_cons _ (.cons _ (.cons_cons _ (.cons_cons _ (.cons_cons _ (.cons_cons _ .slnil))))))))))⟩ kr (List.cons_ne_nil _ _) (all1 ?_)
   refine Nxt.mk (o:=_) (bm 13 4095) rfl rfl ?_
   refine W.alloc [(int 0),(int 0)] S zJ6 ?_
   intro bt dl S
   refine We ?_
   refine WC.next (rs:=[12]) ⟨be,ay,S.drop _ (.cons _ (.cons_cons _ (.cons_cons _ (.cons_cons _ (.cons_cons _ (.cons_cons _ (.cons _ (.cons_cons _ (.cons_cons _ (.cons_cons _ (.cons_cons _ .slnil)))))))))))⟩ kr (List.cons_ne_nil _ _) (all1 ?_)
   refine Nxt.mk (o:=_) (bm 13 8191) rfl rfl ?_
   refine W.store (i:=0) [(int p.fKind),(int p.fIndex)] S rfl rfl rfl zH7 rfl rfl (Nat.le_of_ble_eq_true rfl) rfl ?_
   intro dm S
   refine We<|WC.done ⟨be,ay,S.drop _ (.cons _ (.cons_cons _ (.cons_cons _ (.cons_cons _ (.cons_cons _ (.cons_cons _ (.cons _ (.cons_cons _ (.cons_cons _ (.cons_cons _ (.cons_cons _ .slnil)))))))))))⟩ kr ?_
   have S3:=S
   replace S3:=S3.front 10 rfl
   replace S3:=S3.front 10 rfl
   replace S3:=S3.front 10 rfl
   replace S3:=S3.front 10 rfl
   replace S3:=S3.front 10 rfl
   replace S3:=S3.front 10 rfl
   replace S3:=S3.front 10 rfl
   replace S3:=S3.front 10 rfl
   replace S3:=S3.front 10 rfl
   replace S3:=S3.front 10 rfl
   replace S3:=S3.front 10 rfl
   replace S3:St w0 H0 _ be [.box bt 108 [(int p.fKind),(int p.fIndex)],.box aq 62 [z,x],.box a3 96 [(str c.2.1.fHost),(int c.2.1.fPort),(str c.2.1.fPath),(str c.2.1.fQuery),(boo c.2.1.fHasQuery)],.box af 94 [(str c.1.fMethod),(str c.1.fTarget),(int c.1.fMinor),q,(str c.1.fBody)],.box ah 56 [(str []),(str [])],.box ao 56 [(str al),(str [])],av,.box ap 56 [(str []),(str ak)],.box u 54 [(str d.fName),(int d.fBytes),(int d.fVariants),(int d.fTables),(boo d.fStrict),(boo d.fRefuse),(ptr j 0),(int (wr (0+(if 1099511627776<5 then 1099511627776 else 5)))),(.pointer none)],.box j 136 [(int d.fBytes),(int d.fVariants),(int d.fTables),(int (wr (0+(wr (am - an))))),au,(mapv k)],.mp k (encm (fun v=>v) [(aj,(agg [aa,ab]))])]:=S3
   replace S3:St w0 H0 _ be [.box bt 108 [(int p.fKind),(int p.fIndex)],.box aq 62 [z,x],.box a3 96 [(str c.2.1.fHost),(int c.2.1.fPort),(str c.2.1.fPath),(str c.2.1.fQuery),(boo c.2.1.fHasQuery)],.box af 94 [(str c.1.fMethod),(str c.1.fTarget),(int c.1.fMinor),q,(str c.1.fBody)],.box ah 56 [(str []),(str [])],.box ao 56 [(str al),(str [])],av,.box ap 56 [(str []),(str ak)],.box u 54 [(str d.fName),(int d.fBytes),(int d.fVariants),(int d.fTables),(boo d.fStrict),(boo d.fRefuse),(ptr j 0),(int (wr (0+(if 1099511627776<5 then 1099511627776 else 5)))),(.pointer none)],.box j 136 [(int d.fBytes),(int d.fVariants),(int d.fTables),(int (wr (0+(wr (am - an))))),au,(mapv k)],.mp k (encm (fun v=>v) [(aj,(agg [aa,ab]))])]:=S3.drop _ (.cons_cons _ (.cons_cons _ (.cons_cons _ (.cons_cons _ (.cons_cons _ (.cons_cons _ (.cons_cons _ (.cons_cons _ (.cons_cons _ (.cons_cons _ (.cons_cons _ .slnil)))))))))))
   exact ⟨be,bt,rfl,rfl,rfl,rfl,rfl,rfl,rfl,a4,a5,ar,ad,r,t,(((bh.trans bd).trans b1).trans ay),S3⟩
  refine Nxt.mk (o:=_) (bm 13 3071) rfl rfl ?_
  refine W.alloc [(int 0),(int 0)] S zJ6 ?_
  intro bu dn S
  refine We ?_
  refine WC.next (rs:=[10]) ⟨bq,(Hp.le.refl _),S.drop _ (.cons _ (.cons_cons _ (.cons_cons _ (.cons_cons _ (.cons_cons _ (.cons_cons _ (.cons _ (.cons_cons _ (.cons_cons _ (.cons_cons _ (.cons_cons _ .slnil)))))))))))⟩ kr (List.cons_ne_nil _ _) (all1 ?_)
  refine Nxt.mk (o:=_) (bm 13 4095) rfl rfl<|W.call S rfl (zC7 S.holds (hG.post S.post) aw c.1 (wr (0+(if 1099511627776<5 then 1099511627776 else 5))) d a4 a5 ar b2) ?_
  rintro dp dq bi a7 S rfl
  have a4:=Sl.mono a4 a7
  have a5:=Sl.mono a5 a7
  have ar:=Sl.mono ar a7
  have ad:=MR.mono ad a7
  have r:=Sl.mono r a7
  have t:=Sl.mono t a7
  refine We ?_
  refine WC.next (rs:=[12]) ⟨bi,a7,S.drop _ (.cons _ (.cons_cons _ (.cons_cons _ (.cons_cons _ (.cons_cons _ (.cons_cons _ (.cons _ (.cons_cons _ (.cons_cons _ (.cons_cons _ (.cons_cons _ .slnil)))))))))))⟩ kr (List.cons_ne_nil _ _) (all1 ?_)
  refine Nxt.mk (o:=_) (bm 13 8191) rfl rfl ?_
  refine W.store (i:=0) [(int p.fKind),(int p.fIndex)] S rfl rfl rfl zH7 rfl rfl (Nat.le_of_ble_eq_true rfl) rfl ?_
  intro dr S
  refine We<|WC.done ⟨bi,a7,S.drop _ (.cons _ (.cons_cons _ (.cons_cons _ (.cons_cons _ (.cons_cons _ (.cons_cons _ (.cons _ (.cons_cons _ (.cons_cons _ (.cons_cons _ (.cons_cons _ .slnil)))))))))))⟩ kr ?_
  have S3:=S
  replace S3:=S3.front 10 rfl
  replace S3:=S3.front 10 rfl
  replace S3:=S3.front 10 rfl
  replace S3:=S3.front 10 rfl
  replace S3:=S3.front 10 rfl
  replace S3:=S3.front 10 rfl
  replace S3:=S3.front 10 rfl
  replace S3:=S3.front 10 rfl
  replace S3:=S3.front 10 rfl
  replace S3:=S3.front 10 rfl
  replace S3:=S3.front 10 rfl
  replace S3:St w0 H0 _ bi [.box bu 108 [(int p.fKind),(int p.fIndex)],.box aq 62 [z,x],.box a3 96 [(str c.2.1.fHost),(int c.2.1.fPort),(str c.2.1.fPath),(str c.2.1.fQuery),(boo c.2.1.fHasQuery)],.box af 94 [(str c.1.fMethod),(str c.1.fTarget),(int c.1.fMinor),q,(str c.1.fBody)],.box ah 56 [(str []),(str [])],.box ao 56 [(str al),(str [])],av,.box ap 56 [(str []),(str ak)],.box u 54 [(str d.fName),(int d.fBytes),(int d.fVariants),(int d.fTables),(boo d.fStrict),(boo d.fRefuse),(ptr j 0),(int (wr (0+(if 1099511627776<5 then 1099511627776 else 5)))),(.pointer none)],.box j 136 [(int d.fBytes),(int d.fVariants),(int d.fTables),(int (wr (0+(wr (am - an))))),au,(mapv k)],.mp k (encm (fun v=>v) [(aj,(agg [aa,ab]))])]:=S3
  replace S3:St w0 H0 _ bi [.box bu 108 [(int p.fKind),(int p.fIndex)],.box aq 62 [z,x],.box a3 96 [(str c.2.1.fHost),(int c.2.1.fPort),(str c.2.1.fPath),(str c.2.1.fQuery),(boo c.2.1.fHasQuery)],.box af 94 [(str c.1.fMethod),(str c.1.fTarget),(int c.1.fMinor),q,(str c.1.fBody)],.box ah 56 [(str []),(str [])],.box ao 56 [(str al),(str [])],av,.box ap 56 [(str []),(str ak)],.box u 54 [(str d.fName),(int d.fBytes),(int d.fVariants),(int d.fTables),(boo d.fStrict),(boo d.fRefuse),(ptr j 0),(int (wr (0+(if 1099511627776<5 then 1099511627776 else 5)))),(.pointer none)],.box j 136 [(int d.fBytes),(int d.fVariants),(int d.fTables),(int (wr (0+(wr (am - an))))),au,(mapv k)],.mp k (encm (fun v=>v) [(aj,(agg [aa,ab]))])]:=S3.drop _ (.cons_cons _ (.cons_cons _ (.cons_cons _ (.cons_cons _ (.cons_cons _ (.cons_cons _ (.cons_cons _ (.cons_cons _ (.cons_cons _ (.cons_cons _ (.cons_cons _ .slnil)))))))))))
  exact ⟨bi,bu,rfl,rfl,rfl,rfl,rfl,rfl,rfl,a4,a5,ar,ad,r,t,(((bh.trans bd).trans b1).trans a7),S3⟩
 rintro f w ⟨a6,ax,br,b3,b4,cc,b5,cd,b6,bv,bw,bx,ad,r,t,ce,S⟩
 refine Ws<|WP.quietTail 8 S kr kr ?_
 refine WQ.val (fun w hw=>by obtain ⟨_,hq,S⟩:=hw; exact (R.loadBN (i:=3) (vs:=[(str c.1.fMethod),(str c.1.fTarget),(int c.1.fMinor),q,(str c.1.fBody)]) S b4 rfl lay94 rfl rfl)) ?_
 refine WQ.val (fun w hw=>by obtain ⟨_,hq,S⟩:=hw; exact (R.loadBN (i:=2) (vs:=[(str c.2.1.fHost),(int c.2.1.fPort),(str c.2.1.fPath),(str c.2.1.fQuery),(boo c.2.1.fHasQuery)]) S cc rfl lay96 rfl rfl))<|QM' b5<|QM' br<|QNn<|QFb ?_
 refine WQ.val (fun w hw=>by obtain ⟨_,hq,S⟩:=hw; exact (R.loadB (i:=8) (v:=int (wr (0+(if 1099511627776<5 then 1099511627776 else 5)))) S rfl rfl lay2 rfl)) ?_
 refine WQ.val (fun _ _=>(R.build [(0,(agg [(str c.1.fMethod),(str c.1.fTarget),(int c.1.fMinor),q,(str c.1.fBody)])),(1,(agg [(str c.2.1.fHost),(int c.2.1.fPort),(str c.2.1.fPath),(str c.2.1.fQuery),(boo c.2.1.fHasQuery)])),(2,(str bp)),(3,(int (wr (0+(if 1099511627776<5 then 1099511627776 else 5)))))] [(str c.1.fMethod),(str c.1.fTarget),(int c.1.fMinor),q,(str c.1.fBody),(str c.2.1.fHost),(int c.2.1.fPort),(str c.2.1.fPath),(str c.2.1.fQuery),(boo c.2.1.fHasQuery),(str bp),(int (wr (0+(if 1099511627776<5 then 1099511627776 else 5)))),(boo false),(int 0),(.slice none 0 0),(.slice none 0 0),(.slice none 0 0),(str []),(.slice none 0 0),(str []),(int 0),(int 0)] bp111 zMg kr kr))<|WQ.nil ?_
 intro ds dt bb S
 have bx:=Sl.mono bx bb
 have bv:=Sl.mono bv bb
 have bw:=Sl.mono bw bb
 have ad:=MR.mono ad bb
 have r:=Sl.mono r bb
 have t:=Sl.mono t bb
 refine W.box [(str c.1.fMethod),(str c.1.fTarget),(int c.1.fMinor),q,(str c.1.fBody),(str c.2.1.fHost),(int c.2.1.fPort),(str c.2.1.fPath),(str c.2.1.fQuery),(boo c.2.1.fHasQuery),(str bp),(int (wr (0+(if 1099511627776<5 then 1099511627776 else 5)))),(boo false),(int 0),(.slice none 0 0),(.slice none 0 0),(.slice none 0 0),(str []),(.slice none 0 0),(str []),(int 0),(int 0)] S rfl rfl ?_
 intro du dv S
 refine A<|We<|Ws<|Ws<|Wg<|Fb' b6 ?_
 refine Lo 1 S<|We<|Wb<|Ws<|Wg<|Le ?_
 refine A<|We ?_
 rcases condE h with ⟨bz,h⟩ | ⟨bz,h⟩
 ·refine CT bz<|Ws<|Wg<|M' br<|Nn<|Fb ?_
  refine Lo 9 S<|M' b5<|B h fun bo cf h=>callK rfl (zH3 hw (hG) S bx bv bw ad r t cf ?_)
  intro a9 a2 b0 cg bj bf bg bc r t dw S
  refine We<|Ws<|B h fun bk ch h=>B h fun ci cj h=>B h fun ae ck h=>WP.cut (fun f w=>∃ (az:Hp),f 4=(ptr ah 0)∧f 5=(int 0)∧Sl (α:=GAxis) az z aw.fAxes∧Sl (α:=GEntry) az x aw.fEntries∧Sl (α:=GField) az q c.1.fFields∧MR (α:=Str) az a9 9 a2 bo∧Sl (α:=GAxis) az aa a1.fAxes∧Sl (α:=GEntry) az ab a1.fEntries∧Hp.le ba az∧St w0 H0 w az [a9,.box ax 108 [(int p.fKind),(int p.fIndex)],.box aq 62 [z,x],.box af 94 [(str c.1.fMethod),(str c.1.fTarget),(int c.1.fMinor),q,(str c.1.fBody)],.box ah 56 [(str ae.fToClient),(str ae.fToOrigin)],.box ao 56 [(str al),(str [])],.box ap 56 [(str []),(str ak)],.box u 54 [(str d.fName),(int d.fBytes),(int d.fVariants),(int d.fTables),(boo d.fStrict),(boo d.fRefuse),(ptr j 0),(int (wr (0+(if 1099511627776<5 then 1099511627776 else 5)))),(.pointer none)],.box j 136 [(int d.fBytes),(int d.fVariants),(int d.fTables),(int (wr (0+(wr (am - an))))),a2,(mapv k)],.mp k (encm (fun v=>v) [(aj,(agg [aa,ab]))])]) ?_ ?_
  ·refine WP.drawC (Cl w0 H0 b0 [.box ax 108 [(int p.fKind),(int p.fIndex)],.box aq 62 [z,x],.box af 94 [(str c.1.fMethod),(str c.1.fTarget),(int c.1.fMinor),q,(str c.1.fBody)],.box ao 56 [(str al),(str [])],.box ap 56 [(str []),(str ak)],.box u 54 [(str d.fName),(int d.fBytes),(int d.fVariants),(int d.fTables),(boo d.fStrict),(boo d.fRefuse),(ptr j 0),(int (wr (0+(if 1099511627776<5 then 1099511627776 else 5)))),(.pointer none)],.box j 136 [(int d.fBytes),(int d.fVariants),(int d.fTables),(int (wr (0+(wr (am - an))))),a2,(mapv k)],.mp k (encm (fun v=>v) [(aj,(agg [aa,ab]))])]) kr 20 rfl (bm 20 0) rfl ?_
   have S:=S.drew
   refine WC.take (i:=0) (bm 20 1) rfl kr kr kr rfl (fun w hw=>by obtain ⟨_,hq,S⟩:=hw; exact (R.loadBN (i:=2) (vs:=[(str c.1.fMethod),(str c.1.fTarget),(int c.1.fMinor),q,(str c.1.fBody)]) S b4 rfl lay94 rfl rfl)) ?_
   refine WC.take (i:=1) (bm 20 3) rfl kr kr kr rfl (fun _ _=>(R.fieldB cd zDI)) ?_
   refine WC.take (i:=2) (bm 20 7) rfl kr kr kr rfl (fun w hw=>by obtain ⟨_,hq,S⟩:=hw; exact (R.loadB (i:=1) (v:=x) S rfl rfl lay60 rfl)) ?_
   refine WC.take (i:=3) (bm 20 15) rfl kr kr kr rfl (fun _ _=>(R.fieldB b6 zLJ)) ?_
   refine WC.take (i:=4) (bm 20 31) rfl kr kr kr rfl (fun w hw=>by obtain ⟨_,hq,S⟩:=hw; exact (R.loadB (i:=0) (v:=int p.fIndex) S rfl rfl lay3 rfl)) ?_
   refine WC.take (i:=7) (bm 20 159) rfl kr kr kr rfl (fun _ _=>(R.mv (v:=ptr u 0) br)) ?_
   refine WC.take (i:=8) (bm 20 415) rfl kr kr kr rfl (fun _ _=>(R.nilCheckB rfl)) ?_
   refine WC.take (i:=9) (bm 20 927) rfl kr kr kr rfl (fun _ _=>(R.fieldB rfl zKJ)) ?_
   refine WC.take (i:=10) (bm 20 1951) rfl kr kr kr rfl (fun w hw=>by obtain ⟨_,hq,S⟩:=hw; exact (R.loadB (i:=5) (v:=int (wr (0+(if 1099511627776<5 then 1099511627776 else 5)))) S rfl rfl lay2 rfl)) ?_
   refine WC.take (i:=11) (bm 20 3999) rfl kr kr kr rfl (fun _ _=>(R.mv (v:=ptr u 0) br)) ?_
   refine WC.take (i:=12) (bm 20 8095) rfl kr kr kr rfl (fun _ _=>(R.nilCheckB rfl)) ?_
   refine WC.take (i:=13) (bm 20 16287) rfl kr kr kr rfl (fun _ _=>(R.fieldB rfl zKS)) ?_
   refine WC.take (i:=14) (bm 20 32671) rfl kr kr kr rfl (fun _ _=>(R.fieldB rfl zK9)) ?_
   refine WC.take (i:=15) (bm 20 65439) rfl kr kr kr rfl (fun w hw=>by obtain ⟨_,hq,S⟩:=hw; exact (R.loadB (i:=5) (v:=str d.fName) S rfl rfl lay9 rfl)) ?_
   refine WC.next (rs:=[5]) ⟨b0,(Hp.le.refl _),S.drop _ (.cons _ (.cons_cons _ (.cons_cons _ (.cons_cons _ (.cons _ (.cons_cons _ (.cons_cons _ (.cons_cons _ (.cons_cons _ (.cons_cons _ .slnil))))))))))⟩ kr (List.cons_ne_nil _ _) (all1 ?_)
   refine Nxt.mk (o:=_) (bm 20 65471) rfl rfl<|W.idx (α:=GEntry) bf rfl rfl el60 ch ?_
   rintro dx _ cl ⟨cm,cn,co,cp,rfl,cq,cr,ct,cu⟩
   refine We ?_
   refine WC.take (i:=6) (bm 20 65535) rfl kr kr kr rfl (fun w hw=>by obtain ⟨_,hq,S⟩:=hw; exact (R.loadHN (vs:=[cm,cn,co,(str bk.fReason),cp,(str bk.fBody),(int bk.fRequested),(int bk.fReceived)]) S rfl (At.mono cl hq (by simp)) lay92 rfl rfl)) ?_
   refine WC.next (rs:=[16]) ⟨b0,(Hp.le.refl _),S.drop _ (.cons _ (.cons_cons _ (.cons_cons _ (.cons_cons _ (.cons _ (.cons_cons _ (.cons_cons _ (.cons_cons _ (.cons_cons _ (.cons_cons _ .slnil))))))))))⟩ kr (List.cons_ne_nil _ _) (all1 ?_)
   refine Nxt.mk (o:=_) (bm 20 131071) rfl rfl<|W.call S rfl (zJM S.holds (hG.post S.post) bk (wr (0+(if 1099511627776<5 then 1099511627776 else 5))) d.fName cq cr ct cu cj) ?_
   rintro dy dz cv a0 S ⟨d0,rfl,cw⟩
   have bg:=Sl.mono bg a0
   have bf:=Sl.mono bf a0
   have bj:=Sl.mono bj a0
   have bc:=MR.mono bc a0
   have r:=Sl.mono r a0
   have t:=Sl.mono t a0
   refine We ?_
   refine WC.next (rs:=[17]) ⟨cv,a0,S.drop _ (.cons _ (.cons_cons _ (.cons_cons _ (.cons_cons _ (.cons _ (.cons_cons _ (.cons_cons _ (.cons_cons _ (.cons_cons _ (.cons_cons _ .slnil))))))))))⟩ kr (List.cons_ne_nil _ _) (all1 ?_)
   refine Nxt.mk (o:=_) (bm 20 262143) rfl rfl<|W.call S rfl (zKW S.holds (hG.post S.post) c.1 ci bg cw ck) ?_
   rintro d1 d2 bn a8 S rfl
   have bg:=Sl.mono bg a8
   have bf:=Sl.mono bf a8
   have bj:=Sl.mono bj a8
   have bc:=MR.mono bc a8
   have r:=Sl.mono r a8
   have t:=Sl.mono t a8
   refine We ?_
   refine WC.next (rs:=[18]) ⟨bn,(a0.trans a8),S.drop _ (.cons _ (.cons_cons _ (.cons_cons _ (.cons_cons _ (.cons _ (.cons_cons _ (.cons_cons _ (.cons_cons _ (.cons_cons _ (.cons_cons _ .slnil))))))))))⟩ kr (List.cons_ne_nil _ _) (all1 ?_)
   refine Nxt.mk (o:=_) (bm 20 524287) rfl rfl ?_
   refine W.store (i:=4) [(str ae.fToClient),(str ae.fToOrigin)] S b3 rfl rfl lay56 rfl rfl (Nat.le_of_ble_eq_true rfl) rfl ?_
   intro d3 S
   refine We ?_
   refine WC.take (i:=19) (bm 20 1048575) rfl kr kr kr rfl (fun _ _=>(R.as (v:=int 0) rfl))<|WC.done ⟨bn,(a0.trans a8),S.drop _ (.cons _ (.cons_cons _ (.cons_cons _ (.cons_cons _ (.cons _ (.cons_cons _ (.cons_cons _ (.cons_cons _ (.cons_cons _ (.cons_cons _ .slnil))))))))))⟩ kr ?_
   have S3:=S
   replace S3:=S3.front 9 rfl
   replace S3:=S3.front 9 rfl
   replace S3:=S3.front 9 rfl
   replace S3:=S3.front 9 rfl
   replace S3:=S3.front 9 rfl
   replace S3:=S3.front 9 rfl
   replace S3:=S3.front 9 rfl
   replace S3:=S3.front 9 rfl
   replace S3:=S3.front 9 rfl
   replace S3:=S3.front 9 rfl
   replace S3:St w0 H0 _ bn [a9,.box ax 108 [(int p.fKind),(int p.fIndex)],.box aq 62 [z,x],.box af 94 [(str c.1.fMethod),(str c.1.fTarget),(int c.1.fMinor),q,(str c.1.fBody)],.box ah 56 [(str ae.fToClient),(str ae.fToOrigin)],.box ao 56 [(str al),(str [])],.box ap 56 [(str []),(str ak)],.box u 54 [(str d.fName),(int d.fBytes),(int d.fVariants),(int d.fTables),(boo d.fStrict),(boo d.fRefuse),(ptr j 0),(int (wr (0+(if 1099511627776<5 then 1099511627776 else 5)))),(.pointer none)],.box j 136 [(int d.fBytes),(int d.fVariants),(int d.fTables),(int (wr (0+(wr (am - an))))),a2,(mapv k)],.mp k (encm (fun v=>v) [(aj,(agg [aa,ab]))])]:=S3
   replace S3:St w0 H0 _ bn [a9,.box ax 108 [(int p.fKind),(int p.fIndex)],.box aq 62 [z,x],.box af 94 [(str c.1.fMethod),(str c.1.fTarget),(int c.1.fMinor),q,(str c.1.fBody)],.box ah 56 [(str ae.fToClient),(str ae.fToOrigin)],.box ao 56 [(str al),(str [])],.box ap 56 [(str []),(str ak)],.box u 54 [(str d.fName),(int d.fBytes),(int d.fVariants),(int d.fTables),(boo d.fStrict),(boo d.fRefuse),(ptr j 0),(int (wr (0+(if 1099511627776<5 then 1099511627776 else 5)))),(.pointer none)],.box j 136 [(int d.fBytes),(int d.fVariants),(int d.fTables),(int (wr (0+(wr (am - an))))),a2,(mapv k)],.mp k (encm (fun v=>v) [(aj,(agg [aa,ab]))])]:=S3.drop _ (.cons_cons _ (.cons_cons _ (.cons_cons _ (.cons_cons _ (.cons_cons _ (.cons_cons _ (.cons_cons _ (.cons_cons _ (.cons_cons _ (.cons_cons _ .slnil))))))))))
   exact ⟨bn,b3,rfl,bj,bf,bg,bc,r,t,((((ce.trans bb).trans cg).trans a0).trans a8),S3⟩
  rintro f w ⟨az,cx,cy,cz,c0,c1,bc,r,t,c2,S⟩
  refine WP.ret (In.two rfl (Res.cellB (i:=4) (cs:=[(str ae.fToClient),(str ae.fToOrigin)]) S cx rfl lay56 rfl rfl) cy ?_)
  cases oi h
  exact hK a9 ax aq z x af q ah a2 az c2 cz c0 c1 bc r t _ S
 refine CF bz ?_
 cases h
theorem zJ9 {o:World} {q:Hp} (hw:Holds o q) (hG:Tryz.Gl o) {r:Bool} (h:law32_awake_q=some r) :
  Con Tryz.prog 10 [] o q (fun H' v=>v=(boo r)):=by
 refine Con.mk (N:=72) Tryz.func10 rfl rfl kr rfl ?_
 have S:=St.start hw
 refine Ws<|Wg<|A<|We<|Ws<|Wg<|B h fun c ah h=>W.call S rfl (zOD S.holds (hG.post S.post)  ah) ?_
 rintro v2 w3 H4 a5 S rfl
 refine B h fun _ ai h=>callK rfl (zIe hw (hG) S ai ?_)
 intro ab t u b6 aj a7 a8 S
 replace S:St o q _ aj [.box ab 54 [(str c.fName),(int c.fBytes),(int c.fVariants),(int c.fTables),(boo c.fStrict),(boo c.fRefuse),(ptr t 0),(int 0),(.pointer none)],.box t 136 [(int c.fBytes),(int c.fVariants),(int c.fTables),(int 0),(.slice none 0 0),(mapv u)],.mp u []]:=(S.drop _ (.cons_cons _ (.cons_cons _ (.cons_cons _ (.cons _ .slnil)))))
 refine M ?_
 refine Ex ?_
 refine Ex<|A<|A<|We<|Ws<|Ws<|Wg<|M ?_
 refine WL.w (v:=boo false) (R.ofEq (R.neq rfl rfl) rfl)<|M ?_
 refine Gy rfl<|M<|Gy rfl ?_
 refine WL.w (v:=boo false) (R.ofEq (R.eqlPN rfl rfl Tryz.underlying34) rfl)<|Pf rfl<|We<|WP.condF (b:=false) rfl rfl<|Wk<|Ws<|Wg<|M ?_
 obtain ⟨⟨k,l,ad⟩,ak,h⟩:=bindE h
 refine callK rfl (zId hw (hG) S ak ?_)
 intro ae al a9 am ba an bb S
 replace S:St o q _ am [.box ae 111 [(str l.1.fMethod),(str l.1.fTarget),(int l.1.fMinor),al,(str l.1.fBody),(str l.2.1.fHost),(int l.2.1.fPort),(str l.2.1.fPath),(str l.2.1.fQuery),(boo l.2.1.fHasQuery),(str ad),(int 0),(boo false),(int 0),(.slice none 0 0),(.slice none 0 0),(.slice none 0 0),(str []),(.slice none 0 0),(str []),(int 0),(int 0)],.box ab 54 [(str c.fName),(int c.fBytes),(int c.fVariants),(int c.fTables),(boo c.fStrict),(boo c.fRefuse),(ptr t 0),(int 0),(ptr ae 0)],.box t 136 [(int c.fBytes),(int c.fVariants),(int c.fTables),(int 0),(.slice none 0 0),(mapv u)],.mp u []]:=(S.drop _ (.cons_cons _ (.cons _ (.cons_cons _ (.cons_cons _ (.cons_cons _ .slnil))))))
 refine M ?_
 refine Ex ?_
 refine Ex ?_
 refine W.alloc [(str []),(str [])] S zer56 ?_
 intro af bc S
 refine W.store (i:=0) [(str []),(str k)] S rfl rfl rfl lay56 rfl rfl (Nat.le_of_ble_eq_true rfl) rfl ?_
 intro bd S
 refine A<|We<|Ws<|Wg<|M ?_
 obtain ⟨⟨p,ao,ap,be,bf⟩,aq,h⟩:=bindE h
 refine callK rfl (zIx hw (hG) S an aq ?_)
 intro ar bg au av aw ax bh ac z aa bi S
 replace S:St o q _ ax [ar,.box af 56 [(str []),(str k)],.box ab 54 [(str c.fName),(int c.fBytes),(int c.fVariants),(int c.fTables),(boo c.fStrict),(boo c.fRefuse),(ptr t 0),(int 0),(.pointer none)],.box t 136 [(int c.fBytes),(int c.fVariants),(int c.fTables),(int (wr (0+(wr (ao - ap))))),au,(mapv u)],.mp u (encm (fun v=>v) [(ad,(agg [av,aw]))])]:=(S.drop _ (.cons_cons _ (.cons _ (.cons_cons _ (.cons_cons _ (.cons_cons _ (.cons_cons _ .slnil)))))))
 refine M ?_
 refine Ex ?_
 refine Ex ?_
 refine W.alloc [(str []),(str [])] S zer56 ?_
 intro ay bj S
 refine W.store (i:=0) [(str p),(str [])] S rfl rfl rfl lay56 rfl rfl (Nat.le_of_ble_eq_true rfl) rfl ?_
 intro bk S
 refine A<|We<|Ws<|Wg<|M<|B h fun _ az h=>callK rfl (zIN hw (hG) S ac z aa az ?_)
 intro bn bo ac z aa bp S
 refine A<|We<|Ws<|Wg<|M ?_
 obtain ⟨⟨x,bq,br,bs,bt⟩,a0,h⟩:=bindE h
 refine callK rfl (zIL hw (hG) S ac z aa a0 ?_)
 intro bu bv bw bx bz b0 b1 b2 b3 a1 b4 b5 b7 b8 b9 z aa ca S
 replace S:St o q _ a1 [.box ay 56 [(str p),(str [])],.box af 56 [(str []),(str k)]]:=(S.drop _ (.cons _ (.cons _ (.cons _ (.cons _ (.cons _ (.cons_cons _ (.cons_cons _ (.cons _ (.cons _ (.cons _ .slnil)))))))))))
 refine M ?_
 refine Ex ?_
 refine Ex ?_
 refine W.alloc [(str []),(str [])] S zer56 ?_
 intro cb cc S
 refine W.store (i:=0) [(str x.fToClient),(str x.fToOrigin)] S rfl rfl rfl lay56 rfl rfl (Nat.le_of_ble_eq_true rfl) rfl ?_
 intro cd S
 refine A<|We<|Ws<|Wg<|M ?_
 refine WL.w (v:=boo true) (R.ofEq (R.eql rfl rfl) rfl)<|M<|Gy rfl<|M<|Gy rfl ?_
 refine WL.w (v:=boo true) (R.ofEq (R.eql rfl rfl) rfl)<|Pt rfl ?_
 refine M<|Gy rfl<|M<|Gy rfl ?_
 refine WL.w (v:=boo true) (R.ofEq (R.eql rfl rfl) rfl)<|Pt rfl<|M<|Gy rfl<|M<|Gy rfl ?_
 refine WL.w (v:=boo true) (R.ofEq (R.eql rfl rfl) rfl)<|Pt rfl ?_
 refine M<|Gy rfl<|Fb<|Gy rfl ?_
 refine Lo 2 S<|Gy rfl<|Nb<|Pt rfl<|M ?_
 refine WL.grp 4 [58,59,60] 61 (boo ((k !=[])&&(p !=[]))) ?_ ?_
 ·rcases boolE (k !=[]) with d | d
  ·refine Gy d<|Fb<|Gy d ?_
   refine Lo 1 S<|Gy d<|Nb<|Pt d ?_
   exact We ⟨(andT d),ag,rfl⟩
  refine Gn d<|Gn d<|Gn d<|Pf d ?_
  exact We ⟨(andF d),ag,rfl⟩
 intro us
 refine M ?_
 refine WL.grp 4 [63,64,65] 66 (boo (((k !=[])&&(p !=[]))&&(x.fToOrigin==[]))) ?_ ?_
 ·rcases boolE ((k !=[])&&(p !=[])) with f | f
  ·refine Gy f<|Fb<|Gy f ?_
   refine Lo 0 S<|Gy f<|Na<|Pt f ?_
   exact We ⟨(andT f),ag,rfl⟩
  refine Gn f<|Gn f<|Gn f<|Pf f ?_
  exact We ⟨(andF f),ag,rfl⟩
 intro us
 refine M ?_
 refine WL.grp 4 [68,69,70] 71 (boo ((((k !=[])&&(p !=[]))&&(x.fToOrigin==[]))&&(x.fToClient==[72,84,84,80,47,49,46,49,32,50,48,48,32,79,75,13,10,67,97,99,104,101,45,67,111,110,116,114,111,108,58,32,109,97,120,45,97,103,101,61,54,48,13,10,65,103,101,58,32,53,13,10,86,105,97,58,32,49,46,49,32,112,13,10,67,111,110,116,101,110,116,45,76,101,110,103,116,104,58,32,49,13,10,13,10,120]))) ?_ ?_
 ·rcases boolE (((k !=[])&&(p !=[]))&&(x.fToOrigin==[])) with j | j
  ·refine Gy j<|Fb<|Gy j ?_
   refine Lo 0 S<|Gy j<|Na<|Pt j ?_
   exact We ⟨(andT j),ag,rfl⟩
  refine Gn j<|Gn j<|Gn j<|Pf j ?_
  exact We ⟨(andF j),ag,rfl⟩
 intro us
 refine A<|We ?_
 obtain rfl:=oi h
 refine WP.ret (Out.one rfl S rfl ?_)
 exact rfl
end Go.Proofs
