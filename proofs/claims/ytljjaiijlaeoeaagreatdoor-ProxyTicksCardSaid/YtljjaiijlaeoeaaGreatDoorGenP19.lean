/- A part of the proof of laws of the seat: written by program over the translation. -/
import Derived.Test.YtljjaiijlaeoeaaGreatDoorEng38
import Derived.Test.YtljjaiijlaeoeaaGreatDoorEng36
import Derived.Test.YtljjaiijlaeoeaaGreatDoorGenP18
namespace Go.Proofs
set_option maxHeartbeats 4000000
set_option maxRecDepth 10000
open Go.Eng Go.Eng.Pure
set_option linter.unusedVariables false
theorem zHr {w0:World} {H0:Hp} (hw:Holds w0 H0) (hG:Tryz.Gl w0) {b:GConfig} {aj:Str} {ak:Str} {al:Str} {x:Int} {z:Int} {bh:(List Str)} {bi:GTable} {c:(GRequest×GURI×Unit)} {q:Str} {b0:GTable} {p:GDecision} {l:Nat} {am:Nat} {j:Value} {k:Value} {an:Nat} {ao:Nat} {aa:Value} {ab:Value} {ap:Nat} {ac:Value} {aq:Nat} {ar:Nat} {a7:Ent} {au:Nat} {av:Nat} {a0:Value} {d:Nat} {bn:Hp} {w:World} (S:St w0 H0 w bn [.box am 62 [j,k],.box an 108 [(int p.fKind),(int p.fIndex)],.box ao 62 [aa,ab],.box ap 94 [(str c.1.fMethod),(str c.1.fTarget),(int c.1.fMinor),ac,(str c.1.fBody)],.box aq 56 [(str []),(str [])],.box ar 56 [(str al),(str [])],a7,.box au 56 [(str []),(str aj)],.box av 54 [(str b.fName),(int b.fBytes),(int b.fVariants),(int b.fTables),(boo b.fStrict),(boo b.fRefuse),(ptr l 0),(int (wr (0+(if 1099511627776<5 then 1099511627776 else 5)))),(.pointer none)],.box l 136 [(int b.fBytes),(int b.fVariants),(int b.fTables),(int (wr (0+(wr (x - z))))),a0,(mapv d)],.mp d (encm (fun v=>v) [(ak,(agg [j,k]))])]) (t:Sl (α:=GAxis) bn j bi.fAxes) (u:Sl (α:=GEntry) bn k bi.fEntries) (ad:Sl (α:=GAxis) bn aa b0.fAxes) (ae:Sl (α:=GEntry) bn ab b0.fEntries) (af:Sl (α:=GField) bn ac c.1.fFields) (ay:MR (α:=Str) bn a7 9 a0 bh) {b6:(List Str)} (h:zCG bh q=some b6) {K:Value→World→Prop}
  (hK:∀ (bq:Ent) (br:Value) (Hz:Hp),bn.le Hz→Sl (α:=GAxis) Hz j bi.fAxes→Sl (α:=GEntry) Hz k bi.fEntries→Sl (α:=GAxis) Hz aa b0.fAxes→Sl (α:=GEntry) Hz ab b0.fEntries→Sl (α:=GField) Hz ac c.1.fFields→MR (α:=Str) Hz bq 9 br b6→Sl (α:=GAxis) Hz j bi.fAxes→Sl (α:=GEntry) Hz k bi.fEntries→∀ w',St w0 H0 w' Hz [bq,.box am 62 [j,k],.box an 108 [(int p.fKind),(int p.fIndex)],.box ao 62 [aa,ab],.box ap 94 [(str c.1.fMethod),(str c.1.fTarget),(int c.1.fMinor),ac,(str c.1.fBody)],.box aq 56 [(str []),(str [])],.box ar 56 [(str al),(str [])],.box au 56 [(str []),(str aj)],.box av 54 [(str b.fName),(int b.fBytes),(int b.fVariants),(int b.fTables),(boo b.fStrict),(boo b.fRefuse),(ptr l 0),(int (wr (0+(if 1099511627776<5 then 1099511627776 else 5)))),(.pointer none)],.box l 136 [(int b.fBytes),(int b.fVariants),(int b.fTables),(int (wr (0+(wr (x - z))))),br,(mapv d)],.mp d (encm (fun v=>v) [(ak,(agg [j,k]))])]→K (.tuple ⟨[]⟩) w') :
  CallK Tryz.prog 98 [(ptr l 0),(str q)] w K:=by
 unfold zCG at h
 refine zBB (N':=16) Tryz.func98 rfl rfl kr rfl<|Ws<|Wg ?_
 refine W.box [(str q)] S rfl rfl ?_
 intro b1 d2 S
 refine We ?_
 obtain ⟨bj,a1,db,_,S⟩:=S.settle (i:=0) rfl
 replace S:St w0 H0 _ bj [.box am 62 [j,k],.box an 108 [(int p.fKind),(int p.fIndex)],.box ao 62 [aa,ab],.box ap 94 [(str c.1.fMethod),(str c.1.fTarget),(int c.1.fMinor),ac,(str c.1.fBody)],.box aq 56 [(str []),(str [])],.box ar 56 [(str al),(str [])],a7,.box au 56 [(str []),(str aj)],.box av 54 [(str b.fName),(int b.fBytes),(int b.fVariants),(int b.fTables),(boo b.fStrict),(boo b.fRefuse),(ptr l 0),(int (wr (0+(if 1099511627776<5 then 1099511627776 else 5)))),(.pointer none)],.box l 136 [(int b.fBytes),(int b.fVariants),(int b.fTables),(int (wr (0+(wr (x - z))))),a0,(mapv d)],.mp d (encm (fun v=>v) [(ak,(agg [j,k]))])]:=S
 have aw:At bj ⟨b1,0,none⟩ [(str q)]:=⟨_,_,rfl,db,[],by simp⟩
 have t:=Sl.mono t a1
 have u:=Sl.mono u a1
 have ad:=Sl.mono ad a1
 have ae:=Sl.mono ae a1
 have af:=Sl.mono af a1
 have ay:=MR.mono ay a1
 refine B h fun d3 bo h=>B h fun b6 bp h=>WP.cut (fun f w=>∃ (a4:Hp) (bq:Ent) (br:Value),Sl (α:=GAxis) a4 j bi.fAxes∧Sl (α:=GEntry) a4 k bi.fEntries∧Sl (α:=GAxis) a4 aa b0.fAxes∧Sl (α:=GEntry) a4 ab b0.fEntries∧Sl (α:=GField) a4 ac c.1.fFields∧MR (α:=Str) a4 bq 9 br b6∧Sl (α:=GAxis) a4 j bi.fAxes∧Sl (α:=GEntry) a4 k bi.fEntries∧Hp.le bn a4∧St w0 H0 w a4 [bq,.box am 62 [j,k],.box an 108 [(int p.fKind),(int p.fIndex)],.box ao 62 [aa,ab],.box ap 94 [(str c.1.fMethod),(str c.1.fTarget),(int c.1.fMinor),ac,(str c.1.fBody)],.box aq 56 [(str []),(str [])],.box ar 56 [(str al),(str [])],.box au 56 [(str []),(str aj)],.box av 54 [(str b.fName),(int b.fBytes),(int b.fVariants),(int b.fTables),(boo b.fStrict),(boo b.fRefuse),(ptr l 0),(int (wr (0+(if 1099511627776<5 then 1099511627776 else 5)))),(.pointer none)],.box l 136 [(int b.fBytes),(int b.fVariants),(int b.fTables),(int (wr (0+(wr (x - z))))),br,(mapv d)],.mp d (encm (fun v=>v) [(ak,(agg [j,k]))])]) ?_ ?_
 ·refine WP.drawC (Cl w0 H0 bj [.box am 62 [j,k],.box an 108 [(int p.fKind),(int p.fIndex)],.box ao 62 [aa,ab],.box ap 94 [(str c.1.fMethod),(str c.1.fTarget),(int c.1.fMinor),ac,(str c.1.fBody)],.box aq 56 [(str []),(str [])],.box ar 56 [(str al),(str [])],.box au 56 [(str []),(str aj)],.box av 54 [(str b.fName),(int b.fBytes),(int b.fVariants),(int b.fTables),(boo b.fStrict),(boo b.fRefuse),(ptr l 0),(int (wr (0+(if 1099511627776<5 then 1099511627776 else 5)))),(.pointer none)],.mp d (encm (fun v=>v) [(ak,(agg [j,k]))])]) kr 13 rfl (bm 13 0) rfl ?_
  have S:=S.drew
  refine WC.take (i:=0) (bm 13 1) rfl kr kr kr rfl (fun _ _=>(R.mv (v:=ptr l 0) rfl)) ?_
  refine WC.take (i:=1) (bm 13 3) rfl kr kr kr rfl (fun _ _=>(R.mv (v:=ptr l 0) rfl)) ?_
  refine WC.take (i:=2) (bm 13 7) rfl kr kr kr rfl (fun _ _=>(R.nilCheckB rfl)) ?_
  refine WC.take (i:=3) (bm 13 15) rfl kr kr kr rfl (fun _ _=>(R.fieldB rfl zBH)) ?_
  refine WC.take (i:=7) (bm 13 143) rfl kr kr kr rfl (fun w hw=>by obtain ⟨_,hq,S⟩:=hw; exact (R.loadH (v:=str q) S rfl (At.mono aw hq (by simp)) lay9 rfl)) ?_
  refine WC.next (rs:=[4,5,8]) ⟨bj,(Hp.le.refl _),S.drop _ (.cons_cons _ (.cons_cons _ (.cons_cons _ (.cons_cons _ (.cons_cons _ (.cons_cons _ (.cons _ (.cons_cons _ (.cons_cons _ (.cons _ (.cons_cons _ .slnil)))))))))))⟩ kr (List.cons_ne_nil _ _) (allS ?_ (allS ?_ (all1 ?_)))
  ·refine Nxt.mk (o:=_) (bm 13 159) rfl rfl ?_
   refine Lo 9 S<|We ?_
   refine WC.next (rs:=[5,8]) ⟨bj,(Hp.le.refl _),S.drop _ (.cons_cons _ (.cons_cons _ (.cons_cons _ (.cons_cons _ (.cons_cons _ (.cons_cons _ (.cons _ (.cons_cons _ (.cons_cons _ (.cons _ (.cons_cons _ .slnil)))))))))))⟩ kr (List.cons_ne_nil _ _) (allS ?_ (all1 ?_))
   ·refine Nxt.mk (o:=_) (bm 13 191) rfl rfl ?_
    refine WL.w (R.mkFunc (vs:=[(.pointer (some ⟨b1,0,none⟩))]) rfl)<|We ?_
    refine WC.next (rs:=[6,8]) ⟨bj,(Hp.le.refl _),S.drop _ (.cons_cons _ (.cons_cons _ (.cons_cons _ (.cons_cons _ (.cons_cons _ (.cons_cons _ (.cons _ (.cons_cons _ (.cons_cons _ (.cons _ (.cons_cons _ .slnil)))))))))))⟩ kr (List.cons_ne_nil _ _) (allS ?_ (all1 ?_))
    ·refine Nxt.mk (o:=_) (bm 13 255) rfl rfl ?_
     have S:=S.front 6 rfl
     replace S:St w0 H0 _ bj (a7 :: [.box am 62 [j,k],.box an 108 [(int p.fKind),(int p.fIndex)],.box ao 62 [aa,ab],.box ap 94 [(str c.1.fMethod),(str c.1.fTarget),(int c.1.fMinor),ac,(str c.1.fBody)],.box aq 56 [(str []),(str [])],.box ar 56 [(str al),(str [])],.box au 56 [(str []),(str aj)],.box av 54 [(str b.fName),(int b.fBytes),(int b.fVariants),(int b.fTables),(boo b.fStrict),(boo b.fRefuse),(ptr l 0),(int (wr (0+(if 1099511627776<5 then 1099511627776 else 5)))),(.pointer none)],.box l 136 [(int b.fBytes),(int b.fVariants),(int b.fTables),(int (wr (0+(wr (x - z))))),a0,(mapv d)],.mp d (encm (fun v=>v) [(ak,(agg [j,k]))])]):=S
     refine W.callS rfl (zAB hG bh (fun x0=>zNL x0 q) S ay (fun hle hw hG x0 r h=>zNM hw hG x0 q (At.mono aw hle (by simp)) h) bo) ?_
     rintro d4 d5 cz d6 a8 S ⟨dc,rfl,cf⟩
     replace S:St w0 H0 _ cz [dc,.box am 62 [j,k],.box an 108 [(int p.fKind),(int p.fIndex)],.box ao 62 [aa,ab],.box ap 94 [(str c.1.fMethod),(str c.1.fTarget),(int c.1.fMinor),ac,(str c.1.fBody)],.box aq 56 [(str []),(str [])],.box ar 56 [(str al),(str [])],.box au 56 [(str []),(str aj)],.box av 54 [(str b.fName),(int b.fBytes),(int b.fVariants),(int b.fTables),(boo b.fStrict),(boo b.fRefuse),(ptr l 0),(int (wr (0+(if 1099511627776<5 then 1099511627776 else 5)))),(.pointer none)],.box l 136 [(int b.fBytes),(int b.fVariants),(int b.fTables),(int (wr (0+(wr (x - z))))),a0,(mapv d)],.mp d (encm (fun v=>v) [(ak,(agg [j,k]))])]:=S
     have aw:=At.mono aw a8 (by simp)
     have t:=Sl.mono t a8
     have u:=Sl.mono u a8
     have ad:=Sl.mono ad a8
     have ae:=Sl.mono ae a8
     have af:=Sl.mono af a8
     refine We ?_
     refine WC.next (rs:=[8]) ⟨cz,a8,S.drop _ (.cons _ (.cons_cons _ (.cons_cons _ (.cons_cons _ (.cons_cons _ (.cons_cons _ (.cons_cons _ (.cons_cons _ (.cons_cons _ (.cons _ (.cons_cons _ .slnil)))))))))))⟩ kr (List.cons_ne_nil _ _) (all1 ?_)
     refine Nxt.mk (o:=_) (bm 13 511) rfl rfl<|W.bslice (α:=Str) [(str q)] ([q]:List Str) S el45 rfl rfl rfl (by decide) (Go.Eng.encS ⟨rfl,rfl⟩ enc0) ?_
     intro dd d7 b2 a9 de S
     have aw:=At.mono aw a9 (by simp)
     have cf:=MR.mono cf a9
     have t:=Sl.mono t a9
     have u:=Sl.mono u a9
     have ad:=Sl.mono ad a9
     have ae:=Sl.mono ae a9
     have af:=Sl.mono af a9
     refine We ?_
     refine WC.next (rs:=[9]) ⟨b2,(a8.trans a9),S.drop _ (.cons _ (.cons _ (.cons_cons _ (.cons_cons _ (.cons_cons _ (.cons_cons _ (.cons_cons _ (.cons_cons _ (.cons_cons _ (.cons_cons _ (.cons _ (.cons_cons _ .slnil))))))))))))⟩ kr (List.cons_ne_nil _ _) (all1 ?_)
     refine Nxt.mk (o:=_) (bm 13 1023) rfl rfl<|W.appM (α:=Str) (i:=1) S el45 rfl rfl rfl cf de bp ?_
     intro b7 cg d8 c0 S
     refine We ?_
     refine WC.take (i:=10) (bm 13 2047) rfl kr kr kr rfl (fun _ _=>(R.nilCheckB rfl)) ?_
     refine WC.take (i:=11) (bm 13 4095) rfl kr kr kr rfl (fun _ _=>(R.fieldB rfl zBH)) ?_
     refine WC.next (rs:=[12]) ⟨b2,(a8.trans a9),S.drop _ (.cons _ (.cons _ (.cons_cons _ (.cons_cons _ (.cons_cons _ (.cons_cons _ (.cons_cons _ (.cons_cons _ (.cons_cons _ (.cons_cons _ (.cons _ (.cons_cons _ .slnil))))))))))))⟩ kr (List.cons_ne_nil _ _) (all1 ?_)
     refine Nxt.mk (o:=_) (bm 13 8191) rfl rfl ?_
     refine W.storeMR (α:=Str) (i:=10) [(int b.fBytes),(int b.fVariants),(int b.fTables),(int (wr (0+(wr (x - z))))),b7,(mapv d)] S c0 rfl rfl rfl lay45 (Nat.le_of_ble_eq_true rfl) rfl ?_
     intro d9 S
     refine We<|WC.done ⟨b2,(a8.trans a9),S.drop _ (.cons _ (.cons _ (.cons_cons _ (.cons_cons _ (.cons_cons _ (.cons_cons _ (.cons_cons _ (.cons_cons _ (.cons_cons _ (.cons_cons _ (.cons _ (.cons_cons _ .slnil))))))))))))⟩ kr ?_
     have S3:=S
     replace S3:=S3.front 11 rfl
     replace S3:=S3.front 11 rfl
     replace S3:=S3.front 11 rfl
     replace S3:=S3.front 11 rfl
     replace S3:=S3.front 11 rfl
     replace S3:=S3.front 11 rfl
     replace S3:=S3.front 11 rfl
     replace S3:=S3.front 11 rfl
     replace S3:=S3.front 11 rfl
     replace S3:=S3.front 11 rfl
     replace S3:=S3.front 11 rfl
     replace S3:St w0 H0 _ b2 [cg,.box am 62 [j,k],.box an 108 [(int p.fKind),(int p.fIndex)],.box ao 62 [aa,ab],.box ap 94 [(str c.1.fMethod),(str c.1.fTarget),(int c.1.fMinor),ac,(str c.1.fBody)],.box aq 56 [(str []),(str [])],.box ar 56 [(str al),(str [])],.box au 56 [(str []),(str aj)],.box av 54 [(str b.fName),(int b.fBytes),(int b.fVariants),(int b.fTables),(boo b.fStrict),(boo b.fRefuse),(ptr l 0),(int (wr (0+(if 1099511627776<5 then 1099511627776 else 5)))),(.pointer none)],.box l 136 [(int b.fBytes),(int b.fVariants),(int b.fTables),(int (wr (0+(wr (x - z))))),b7,(mapv d)],.mp d (encm (fun v=>v) [(ak,(agg [j,k]))]),.row dd 9 1 ([q]:List Str).length]:=S3
     replace S3:St w0 H0 _ b2 [cg,.box am 62 [j,k],.box an 108 [(int p.fKind),(int p.fIndex)],.box ao 62 [aa,ab],.box ap 94 [(str c.1.fMethod),(str c.1.fTarget),(int c.1.fMinor),ac,(str c.1.fBody)],.box aq 56 [(str []),(str [])],.box ar 56 [(str al),(str [])],.box au 56 [(str []),(str aj)],.box av 54 [(str b.fName),(int b.fBytes),(int b.fVariants),(int b.fTables),(boo b.fStrict),(boo b.fRefuse),(ptr l 0),(int (wr (0+(if 1099511627776<5 then 1099511627776 else 5)))),(.pointer none)],.box l 136 [(int b.fBytes),(int b.fVariants),(int b.fTables),(int (wr (0+(wr (x - z))))),b7,(mapv d)],.mp d (encm (fun v=>v) [(ak,(agg [j,k]))])]:=S3.drop _ (.cons_cons _ (.cons_cons _ (.cons_cons _ (.cons_cons _ (.cons_cons _ (.cons_cons _ (.cons_cons _ (.cons_cons _ (.cons_cons _ (.cons_cons _ (.cons_cons _ (.cons _ .slnil))))))))))))
     exact ⟨b2,(cg),b7,t,u,ad,ae,af,c0,t,u,((a1.trans a8).trans a9),S3⟩
    refine Nxt.mk (o:=_) (bm 13 447) rfl rfl<|W.bslice (α:=Str) [(str q)] ([q]:List Str) S el45 rfl rfl rfl (by decide) (Go.Eng.encS ⟨rfl,rfl⟩ enc0) ?_
    intro ch ea c1 a5 ci S
    have aw:=At.mono aw a5 (by simp)
    have ay:=MR.mono ay a5
    have t:=Sl.mono t a5
    have u:=Sl.mono u a5
    have ad:=Sl.mono ad a5
    have ae:=Sl.mono ae a5
    have af:=Sl.mono af a5
    refine We ?_
    refine WC.next (rs:=[6]) ⟨c1,a5,S.drop _ (.cons _ (.cons_cons _ (.cons_cons _ (.cons_cons _ (.cons_cons _ (.cons_cons _ (.cons_cons _ (.cons _ (.cons_cons _ (.cons_cons _ (.cons _ (.cons_cons _ .slnil))))))))))))⟩ kr (List.cons_ne_nil _ _) (all1 ?_)
    refine Nxt.mk (o:=_) (bm 13 511) rfl rfl ?_
    have S:=S.front 7 rfl
    replace S:St w0 H0 _ c1 (a7 :: [.row ch 9 1 ([q]:List Str).length,.box am 62 [j,k],.box an 108 [(int p.fKind),(int p.fIndex)],.box ao 62 [aa,ab],.box ap 94 [(str c.1.fMethod),(str c.1.fTarget),(int c.1.fMinor),ac,(str c.1.fBody)],.box aq 56 [(str []),(str [])],.box ar 56 [(str al),(str [])],.box au 56 [(str []),(str aj)],.box av 54 [(str b.fName),(int b.fBytes),(int b.fVariants),(int b.fTables),(boo b.fStrict),(boo b.fRefuse),(ptr l 0),(int (wr (0+(if 1099511627776<5 then 1099511627776 else 5)))),(.pointer none)],.box l 136 [(int b.fBytes),(int b.fVariants),(int b.fTables),(int (wr (0+(wr (x - z))))),a0,(mapv d)],.mp d (encm (fun v=>v) [(ak,(agg [j,k]))])]):=S
    refine W.callS rfl (zAB hG bh (fun x0=>zNL x0 q) S ay (fun hle hw hG x0 r h=>zNM hw hG x0 q (At.mono aw hle (by simp)) h) bo) ?_
    rintro eb ec bs ed ba S ⟨df,rfl,dg⟩
    replace S:St w0 H0 _ bs [df,.row ch 9 1 ([q]:List Str).length,.box am 62 [j,k],.box an 108 [(int p.fKind),(int p.fIndex)],.box ao 62 [aa,ab],.box ap 94 [(str c.1.fMethod),(str c.1.fTarget),(int c.1.fMinor),ac,(str c.1.fBody)],.box aq 56 [(str []),(str [])],.box ar 56 [(str al),(str [])],.box au 56 [(str []),(str aj)],.box av 54 [(str b.fName),(int b.fBytes),(int b.fVariants),(int b.fTables),(boo b.fStrict),(boo b.fRefuse),(ptr l 0),(int (wr (0+(if 1099511627776<5 then 1099511627776 else 5)))),(.pointer none)],.box l 136 [(int b.fBytes),(int b.fVariants),(int b.fTables),(int (wr (0+(wr (x - z))))),a0,(mapv d)],.mp d (encm (fun v=>v) [(ak,(agg [j,k]))])]:=S
    have aw:=At.mono aw ba (by simp)
    have ci:=Sl.mono ci ba
    have t:=Sl.mono t ba
    have u:=Sl.mono u ba
    have ad:=Sl.mono ad ba
    have ae:=Sl.mono ae ba
    have af:=Sl.mono af ba
    refine We ?_
    refine WC.next (rs:=[9]) ⟨bs,(a5.trans ba),S.drop _ (.cons _ (.cons _ (.cons_cons _ (.cons_cons _ (.cons_cons _ (.cons_cons _ (.cons_cons _ (.cons_cons _ (.cons_cons _ (.cons_cons _ (.cons _ (.cons_cons _ .slnil))))))))))))⟩ kr (List.cons_ne_nil _ _) (all1 ?_)
    refine Nxt.mk (o:=_) (bm 13 1023) rfl rfl<|W.appM (α:=Str) (i:=0) S el45 rfl rfl rfl dg ci bp ?_
    intro b8 cj ee c2 S
    refine We ?_
    refine WC.take (i:=10) (bm 13 2047) rfl kr kr kr rfl (fun _ _=>(R.nilCheckB rfl)) ?_
    refine WC.take (i:=11) (bm 13 4095) rfl kr kr kr rfl (fun _ _=>(R.fieldB rfl zBH)) ?_
    refine WC.next (rs:=[12]) ⟨bs,(a5.trans ba),S.drop _ (.cons _ (.cons _ (.cons_cons _ (.cons_cons _ (.cons_cons _ (.cons_cons _ (.cons_cons _ (.cons_cons _ (.cons_cons _ (.cons_cons _ (.cons _ (.cons_cons _ .slnil))))))))))))⟩ kr (List.cons_ne_nil _ _) (all1 ?_)
    refine Nxt.mk (o:=_) (bm 13 8191) rfl rfl ?_
    refine W.storeMR (α:=Str) (i:=10) [(int b.fBytes),(int b.fVariants),(int b.fTables),(int (wr (0+(wr (x - z))))),b8,(mapv d)] S c2 rfl rfl rfl lay45 (Nat.le_of_ble_eq_true rfl) rfl ?_
    intro ef S
    refine We<|WC.done ⟨bs,(a5.trans ba),S.drop _ (.cons _ (.cons _ (.cons_cons _ (.cons_cons _ (.cons_cons _ (.cons_cons _ (.cons_cons _ (.cons_cons _ (.cons_cons _ (.cons_cons _ (.cons _ (.cons_cons _ .slnil))))))))))))⟩ kr ?_
    have S3:=S
    replace S3:=S3.front 11 rfl
    replace S3:=S3.front 11 rfl
    replace S3:=S3.front 11 rfl
    replace S3:=S3.front 11 rfl
    replace S3:=S3.front 11 rfl
    replace S3:=S3.front 11 rfl
    replace S3:=S3.front 11 rfl
    replace S3:=S3.front 11 rfl
    replace S3:=S3.front 11 rfl
    replace S3:=S3.front 11 rfl
    replace S3:=S3.front 10 rfl
    replace S3:St w0 H0 _ bs [cj,.box am 62 [j,k],.box an 108 [(int p.fKind),(int p.fIndex)],.box ao 62 [aa,ab],.box ap 94 [(str c.1.fMethod),(str c.1.fTarget),(int c.1.fMinor),ac,(str c.1.fBody)],.box aq 56 [(str []),(str [])],.box ar 56 [(str al),(str [])],.box au 56 [(str []),(str aj)],.box av 54 [(str b.fName),(int b.fBytes),(int b.fVariants),(int b.fTables),(boo b.fStrict),(boo b.fRefuse),(ptr l 0),(int (wr (0+(if 1099511627776<5 then 1099511627776 else 5)))),(.pointer none)],.box l 136 [(int b.fBytes),(int b.fVariants),(int b.fTables),(int (wr (0+(wr (x - z))))),b8,(mapv d)],.mp d (encm (fun v=>v) [(ak,(agg [j,k]))]),.row ch 9 1 ([q]:List Str).length]:=S3
    replace S3:St w0 H0 _ bs [cj,.box am 62 [j,k],.box an 108 [(int p.fKind),(int p.fIndex)],.box ao 62 [aa,ab],.box ap 94 [(str c.1.fMethod),(str c.1.fTarget),(int c.1.fMinor),ac,(str c.1.fBody)],.box aq 56 [(str []),(str [])],.box ar 56 [(str al),(str [])],.box au 56 [(str []),(str aj)],.box av 54 [(str b.fName),(int b.fBytes),(int b.fVariants),(int b.fTables),(boo b.fStrict),(boo b.fRefuse),(ptr l 0),(int (wr (0+(if 1099511627776<5 then 1099511627776 else 5)))),(.pointer none)],.box l 136 [(int b.fBytes),(int b.fVariants),(int b.fTables),(int (wr (0+(wr (x - z))))),b8,(mapv d)],.mp d (encm (fun v=>v) [(ak,(agg [j,k]))])]:=S3.drop _ (.cons_cons _ (.cons_cons _ (.cons_cons _ (.cons_cons _ (.cons_cons _ (.cons_cons _ (.cons_cons _ (.cons_cons _ (.cons_cons _ (.cons_cons _ (.cons_cons _ (.cons _ .slnil))))))))))))
    exact ⟨bs,(cj),b8,t,u,ad,ae,af,c2,t,u,((a1.trans a5).trans ba),S3⟩
   refine Nxt.mk (o:=_) (bm 13 415) rfl rfl<|W.bslice (α:=Str) [(str q)] ([q]:List Str) S el45 rfl rfl rfl (by decide) (Go.Eng.encS ⟨rfl,rfl⟩ enc0) ?_
   intro ck eg cl a2 cm S
   have aw:=At.mono aw a2 (by simp)
   have ay:=MR.mono ay a2
   have t:=Sl.mono t a2
   have u:=Sl.mono u a2
   have ad:=Sl.mono ad a2
   have ae:=Sl.mono ae a2
   have af:=Sl.mono af a2
   refine We ?_
   refine WC.next (rs:=[5]) ⟨cl,a2,S.drop _ (.cons _ (.cons_cons _ (.cons_cons _ (.cons_cons _ (.cons_cons _ (.cons_cons _ (.cons_cons _ (.cons _ (.cons_cons _ (.cons_cons _ (.cons _ (.cons_cons _ .slnil))))))))))))⟩ kr (List.cons_ne_nil _ _) (all1 ?_)
   refine Nxt.mk (o:=_) (bm 13 447) rfl rfl ?_
   refine WL.w (R.mkFunc (vs:=[(.pointer (some ⟨b1,0,none⟩))]) rfl)<|We ?_
   refine WC.next (rs:=[6]) ⟨cl,a2,S.drop _ (.cons _ (.cons_cons _ (.cons_cons _ (.cons_cons _ (.cons_cons _ (.cons_cons _ (.cons_cons _ (.cons _ (.cons_cons _ (.cons_cons _ (.cons _ (.cons_cons _ .slnil))))))))))))⟩ kr (List.cons_ne_nil _ _) (all1 ?_)
   refine Nxt.mk (o:=_) (bm 13 511) rfl rfl ?_
   have S:=S.front 7 rfl
   replace S:St w0 H0 _ cl (a7 :: [.row ck 9 1 ([q]:List Str).length,.box am 62 [j,k],.box an 108 [(int p.fKind),(int p.fIndex)],.box ao 62 [aa,ab],.box ap 94 [(str c.1.fMethod),(str c.1.fTarget),(int c.1.fMinor),ac,(str c.1.fBody)],.box aq 56 [(str []),(str [])],.box ar 56 [(str al),(str [])],.box au 56 [(str []),(str aj)],.box av 54 [(str b.fName),(int b.fBytes),(int b.fVariants),(int b.fTables),(boo b.fStrict),(boo b.fRefuse),(ptr l 0),(int (wr (0+(if 1099511627776<5 then 1099511627776 else 5)))),(.pointer none)],.box l 136 [(int b.fBytes),(int b.fVariants),(int b.fTables),(int (wr (0+(wr (x - z))))),a0,(mapv d)],.mp d (encm (fun v=>v) [(ak,(agg [j,k]))])]):=S
   refine W.callS rfl (zAB hG bh (fun x0=>zNL x0 q) S ay (fun hle hw hG x0 r h=>zNM hw hG x0 q (At.mono aw hle (by simp)) h) bo) ?_
   rintro eh ei bt ej bb S ⟨dh,rfl,di⟩
   replace S:St w0 H0 _ bt [dh,.row ck 9 1 ([q]:List Str).length,.box am 62 [j,k],.box an 108 [(int p.fKind),(int p.fIndex)],.box ao 62 [aa,ab],.box ap 94 [(str c.1.fMethod),(str c.1.fTarget),(int c.1.fMinor),ac,(str c.1.fBody)],.box aq 56 [(str []),(str [])],.box ar 56 [(str al),(str [])],.box au 56 [(str []),(str aj)],.box av 54 [(str b.fName),(int b.fBytes),(int b.fVariants),(int b.fTables),(boo b.fStrict),(boo b.fRefuse),(ptr l 0),(int (wr (0+(if 1099511627776<5 then 1099511627776 else 5)))),(.pointer none)],.box l 136 [(int b.fBytes),(int b.fVariants),(int b.fTables),(int (wr (0+(wr (x - z))))),a0,(mapv d)],.mp d (encm (fun v=>v) [(ak,(agg [j,k]))])]:=S
   have aw:=At.mono aw bb (by simp)
   have cm:=Sl.mono cm bb
   have t:=Sl.mono t bb
   have u:=Sl.mono u bb
   have ad:=Sl.mono ad bb
   have ae:=Sl.mono ae bb
   have af:=Sl.mono af bb
   refine We ?_
   refine WC.next (rs:=[9]) ⟨bt,(a2.trans bb),S.drop _ (.cons _ (.cons _ (.cons_cons _ (.cons_cons _ (.cons_cons _ (.cons_cons _ (.cons_cons _ (.cons_cons _ (.cons_cons _ (.cons_cons _ (.cons _ (.cons_cons _ .slnil))))))))))))⟩ kr (List.cons_ne_nil _ _) (all1 ?_)
   refine Nxt.mk (o:=_) (bm 13 1023) rfl rfl<|W.appM (α:=Str) (i:=0) S el45 rfl rfl rfl di cm bp ?_
   intro b9 cn ek c3 S
   refine We ?_
   refine WC.take (i:=10) (bm 13 2047) rfl kr kr kr rfl (fun _ _=>(R.nilCheckB rfl)) ?_
   refine WC.take (i:=11) (bm 13 4095) rfl kr kr kr rfl (fun _ _=>(R.fieldB rfl zBH)) ?_
   refine WC.next (rs:=[12]) ⟨bt,(a2.trans bb),S.drop _ (.cons _ (.cons _ (.cons_cons _ (.cons_cons _ (.cons_cons _ (.cons_cons _ (.cons_cons _ (.cons_cons _ (.cons_cons _ (.cons_cons _ (.cons _ (.cons_cons _ .slnil))))))))))))⟩ kr (List.cons_ne_nil _ _) (all1 ?_)
   refine Nxt.mk (o:=_) (bm 13 8191) rfl rfl ?_
   refine W.storeMR (α:=Str) (i:=10) [(int b.fBytes),(int b.fVariants),(int b.fTables),(int (wr (0+(wr (x - z))))),b9,(mapv d)] S c3 rfl rfl rfl lay45 (Nat.le_of_ble_eq_true rfl) rfl ?_
   intro el S
   refine We<|WC.done ⟨bt,(a2.trans bb),S.drop _ (.cons _ (.cons _ (.cons_cons _ (.cons_cons _ (.cons_cons _ (.cons_cons _ (.cons_cons _ (.cons_cons _ (.cons_cons _ (.cons_cons _ (.cons _ (.cons_cons _ .slnil))))))))))))⟩ kr ?_
   have S3:=S
   replace S3:=S3.front 11 rfl
   replace S3:=S3.front 11 rfl
   replace S3:=S3.front 11 rfl
   replace S3:=S3.front 11 rfl
   replace S3:=S3.front 11 rfl
   replace S3:=S3.front 11 rfl
   replace S3:=S3.front 11 rfl
   replace S3:=S3.front 11 rfl
   replace S3:=S3.front 11 rfl
   replace S3:=S3.front 11 rfl
   replace S3:=S3.front 10 rfl
   replace S3:St w0 H0 _ bt [cn,.box am 62 [j,k],.box an 108 [(int p.fKind),(int p.fIndex)],.box ao 62 [aa,ab],.box ap 94 [(str c.1.fMethod),(str c.1.fTarget),(int c.1.fMinor),ac,(str c.1.fBody)],.box aq 56 [(str []),(str [])],.box ar 56 [(str al),(str [])],.box au 56 [(str []),(str aj)],.box av 54 [(str b.fName),(int b.fBytes),(int b.fVariants),(int b.fTables),(boo b.fStrict),(boo b.fRefuse),(ptr l 0),(int (wr (0+(if 1099511627776<5 then 1099511627776 else 5)))),(.pointer none)],.box l 136 [(int b.fBytes),(int b.fVariants),(int b.fTables),(int (wr (0+(wr (x - z))))),b9,(mapv d)],.mp d (encm (fun v=>v) [(ak,(agg [j,k]))]),.row ck 9 1 ([q]:List Str).length]:=S3
   replace S3:St w0 H0 _ bt [cn,.box am 62 [j,k],.box an 108 [(int p.fKind),(int p.fIndex)],.box ao 62 [aa,ab],.box ap 94 [(str c.1.fMethod),(str c.1.fTarget),(int c.1.fMinor),ac,(str c.1.fBody)],.box aq 56 [(str []),(str [])],.box ar 56 [(str al),(str [])],.box au 56 [(str []),(str aj)],.box av 54 [(str b.fName),(int b.fBytes),(int b.fVariants),(int b.fTables),(boo b.fStrict),(boo b.fRefuse),(ptr l 0),(int (wr (0+(if 1099511627776<5 then 1099511627776 else 5)))),(.pointer none)],.box l 136 [(int b.fBytes),(int b.fVariants),(int b.fTables),(int (wr (0+(wr (x - z))))),b9,(mapv d)],.mp d (encm (fun v=>v) [(ak,(agg [j,k]))])]:=S3.drop _ (.cons_cons _ (.cons_cons _ (.cons_cons _ (.cons_cons _ (.cons_cons _ (.cons_cons _ (.cons_cons _ (.cons_cons _ (.cons_cons _ (.cons_cons _ (.cons_cons _ (.cons _ .slnil))))))))))))
   exact ⟨bt,(cn),b9,t,u,ad,ae,af,c3,t,u,((a1.trans a2).trans bb),S3⟩
  ·refine Nxt.mk (o:=_) (bm 13 175) rfl rfl ?_
   refine WL.w (R.mkFunc (vs:=[(.pointer (some ⟨b1,0,none⟩))]) rfl)<|We ?_
   refine WC.next (rs:=[4,8]) ⟨bj,(Hp.le.refl _),S.drop _ (.cons_cons _ (.cons_cons _ (.cons_cons _ (.cons_cons _ (.cons_cons _ (.cons_cons _ (.cons _ (.cons_cons _ (.cons_cons _ (.cons _ (.cons_cons _ .slnil)))))))))))⟩ kr (List.cons_ne_nil _ _) (allS ?_ (all1 ?_))
   ·refine Nxt.mk (o:=_) (bm 13 191) rfl rfl ?_
    refine Lo 9 S<|We ?_
    refine WC.next (rs:=[6,8]) ⟨bj,(Hp.le.refl _),S.drop _ (.cons_cons _ (.cons_cons _ (.cons_cons _ (.cons_cons _ (.cons_cons _ (.cons_cons _ (.cons _ (.cons_cons _ (.cons_cons _ (.cons _ (.cons_cons _ .slnil)))))))))))⟩ kr (List.cons_ne_nil _ _) (allS ?_ (all1 ?_))
    ·refine Nxt.mk (o:=_) (bm 13 255) rfl rfl ?_
     have S:=S.front 6 rfl
     replace S:St w0 H0 _ bj (a7 :: [.box am 62 [j,k],.box an 108 [(int p.fKind),(int p.fIndex)],.box ao 62 [aa,ab],.box ap 94 [(str c.1.fMethod),(str c.1.fTarget),(int c.1.fMinor),ac,(str c.1.fBody)],.box aq 56 [(str []),(str [])],.box ar 56 [(str al),(str [])],.box au 56 [(str []),(str aj)],.box av 54 [(str b.fName),(int b.fBytes),(int b.fVariants),(int b.fTables),(boo b.fStrict),(boo b.fRefuse),(ptr l 0),(int (wr (0+(if 1099511627776<5 then 1099511627776 else 5)))),(.pointer none)],.box l 136 [(int b.fBytes),(int b.fVariants),(int b.fTables),(int (wr (0+(wr (x - z))))),a0,(mapv d)],.mp d (encm (fun v=>v) [(ak,(agg [j,k]))])]):=S
     refine W.callS rfl (zAB hG bh (fun x0=>zNL x0 q) S ay (fun hle hw hG x0 r h=>zNM hw hG x0 q (At.mono aw hle (by simp)) h) bo) ?_
     rintro em en c4 eo bc S ⟨dj,rfl,co⟩
     replace S:St w0 H0 _ c4 [dj,.box am 62 [j,k],.box an 108 [(int p.fKind),(int p.fIndex)],.box ao 62 [aa,ab],.box ap 94 [(str c.1.fMethod),(str c.1.fTarget),(int c.1.fMinor),ac,(str c.1.fBody)],.box aq 56 [(str []),(str [])],.box ar 56 [(str al),(str [])],.box au 56 [(str []),(str aj)],.box av 54 [(str b.fName),(int b.fBytes),(int b.fVariants),(int b.fTables),(boo b.fStrict),(boo b.fRefuse),(ptr l 0),(int (wr (0+(if 1099511627776<5 then 1099511627776 else 5)))),(.pointer none)],.box l 136 [(int b.fBytes),(int b.fVariants),(int b.fTables),(int (wr (0+(wr (x - z))))),a0,(mapv d)],.mp d (encm (fun v=>v) [(ak,(agg [j,k]))])]:=S
     have aw:=At.mono aw bc (by simp)
     have t:=Sl.mono t bc
     have u:=Sl.mono u bc
     have ad:=Sl.mono ad bc
     have ae:=Sl.mono ae bc
     have af:=Sl.mono af bc
     refine We ?_
     refine WC.next (rs:=[8]) ⟨c4,bc,S.drop _ (.cons _ (.cons_cons _ (.cons_cons _ (.cons_cons _ (.cons_cons _ (.cons_cons _ (.cons_cons _ (.cons_cons _ (.cons_cons _ (.cons _ (.cons_cons _ .slnil)))))))))))⟩ kr (List.cons_ne_nil _ _) (all1 ?_)
     refine Nxt.mk (o:=_) (bm 13 511) rfl rfl<|W.bslice (α:=Str) [(str q)] ([q]:List Str) S el45 rfl rfl rfl (by decide) (Go.Eng.encS ⟨rfl,rfl⟩ enc0) ?_
     intro dk ep b3 bd dl S
     have aw:=At.mono aw bd (by simp)
     have co:=MR.mono co bd
     have t:=Sl.mono t bd
     have u:=Sl.mono u bd
     have ad:=Sl.mono ad bd
     have ae:=Sl.mono ae bd
     have af:=Sl.mono af bd
     refine We ?_
     refine WC.next (rs:=[9]) ⟨b3,(bc.trans bd),S.drop _ (.cons _ (.cons _ (.cons_cons _ (.cons_cons _ (.cons_cons _ (.cons_cons _ (.cons_cons _ (.cons_cons _ (.cons_cons _ (.cons_cons _ (.cons _ (.cons_cons _ .slnil))))))))))))⟩ kr (List.cons_ne_nil _ _) (all1 ?_)
     refine Nxt.mk (o:=_) (bm 13 1023) rfl rfl<|W.appM (α:=Str) (i:=1) S el45 rfl rfl rfl co dl bp ?_
     intro ca cp eq c5 S
     refine We ?_
     refine WC.take (i:=10) (bm 13 2047) rfl kr kr kr rfl (fun _ _=>(R.nilCheckB rfl)) ?_
     refine WC.take (i:=11) (bm 13 4095) rfl kr kr kr rfl (fun _ _=>(R.fieldB rfl zBH)) ?_
     refine WC.next (rs:=[12]) ⟨b3,(bc.trans bd),S.drop _ (.cons _ (.cons _ (.cons_cons _ (.cons_cons _ (.cons_cons _ (.cons_cons _ (.cons_cons _ (.cons_cons _ (.cons_cons _ (.cons_cons _ (.cons _ (.cons_cons _ .slnil))))))))))))⟩ kr (List.cons_ne_nil _ _) (all1 ?_)
     refine Nxt.mk (o:=_) (bm 13 8191) rfl rfl ?_
     refine W.storeMR (α:=Str) (i:=10) [(int b.fBytes),(int b.fVariants),(int b.fTables),(int (wr (0+(wr (x - z))))),ca,(mapv d)] S c5 rfl rfl rfl lay45 (Nat.le_of_ble_eq_true rfl) rfl ?_
     intro er S
     refine We<|WC.done ⟨b3,(bc.trans bd),S.drop _ (.cons _ (.cons _ (.cons_cons _ (.cons_cons _ (.cons_cons _ (.cons_cons _ (.cons_cons _ (.cons_cons _ (.cons_cons _ (.cons_cons _ (.cons _ (.cons_cons _ .slnil))))))))))))⟩ kr ?_
     have S3:=S
     replace S3:=S3.front 11 rfl
     replace S3:=S3.front 11 rfl
     replace S3:=S3.front 11 rfl
     replace S3:=S3.front 11 rfl
     replace S3:=S3.front 11 rfl
     replace S3:=S3.front 11 rfl
     replace S3:=S3.front 11 rfl
     replace S3:=S3.front 11 rfl
     replace S3:=S3.front 11 rfl
     replace S3:=S3.front 11 rfl
     replace S3:=S3.front 11 rfl
     replace S3:St w0 H0 _ b3 [cp,.box am 62 [j,k],.box an 108 [(int p.fKind),(int p.fIndex)],.box ao 62 [aa,ab],.box ap 94 [(str c.1.fMethod),(str c.1.fTarget),(int c.1.fMinor),ac,(str c.1.fBody)],.box aq 56 [(str []),(str [])],.box ar 56 [(str al),(str [])],.box au 56 [(str []),(str aj)],.box av 54 [(str b.fName),(int b.fBytes),(int b.fVariants),(int b.fTables),(boo b.fStrict),(boo b.fRefuse),(ptr l 0),(int (wr (0+(if 1099511627776<5 then 1099511627776 else 5)))),(.pointer none)],.box l 136 [(int b.fBytes),(int b.fVariants),(int b.fTables),(int (wr (0+(wr (x - z))))),ca,(mapv d)],.mp d (encm (fun v=>v) [(ak,(agg [j,k]))]),.row dk 9 1 ([q]:List Str).length]:=S3
     replace S3:St w0 H0 _ b3 [cp,.box am 62 [j,k],.box an 108 [(int p.fKind),(int p.fIndex)],.box ao 62 [aa,ab],.box ap 94 [(str c.1.fMethod),(str c.1.fTarget),(int c.1.fMinor),ac,(str c.1.fBody)],.box aq 56 [(str []),(str [])],.box ar 56 [(str al),(str [])],.box au 56 [(str []),(str aj)],.box av 54 [(str b.fName),(int b.fBytes),(int b.fVariants),(int b.fTables),(boo b.fStrict),(boo b.fRefuse),(ptr l 0),(int (wr (0+(if 1099511627776<5 then 1099511627776 else 5)))),(.pointer none)],.box l 136 [(int b.fBytes),(int b.fVariants),(int b.fTables),(int (wr (0+(wr (x - z))))),ca,(mapv d)],.mp d (encm (fun v=>v) [(ak,(agg [j,k]))])]:=S3.drop _ (.cons_cons _ (.cons_cons _ (.cons_cons _ (.cons_cons _ (.cons_cons _ (.cons_cons _ (.cons_cons _ (.cons_cons _ (.cons_cons _ (.cons_cons _ (.cons_cons _ (.cons _ .slnil))))))))))))
     exact ⟨b3,(cp),ca,t,u,ad,ae,af,c5,t,u,((a1.trans bc).trans bd),S3⟩
    refine Nxt.mk (o:=_) (bm 13 447) rfl rfl<|W.bslice (α:=Str) [(str q)] ([q]:List Str) S el45 rfl rfl rfl (by decide) (Go.Eng.encS ⟨rfl,rfl⟩ enc0) ?_
    intro cq es c6 a6 cr S
    have aw:=At.mono aw a6 (by simp)
    have ay:=MR.mono ay a6
    have t:=Sl.mono t a6
    have u:=Sl.mono u a6
    have ad:=Sl.mono ad a6
    have ae:=Sl.mono ae a6
    have af:=Sl.mono af a6
    refine We ?_
    refine WC.next (rs:=[6]) ⟨c6,a6,S.drop _ (.cons _ (.cons_cons _ (.cons_cons _ (.cons_cons _ (.cons_cons _ (.cons_cons _ (.cons_cons _ (.cons _ (.cons_cons _ (.cons_cons _ (.cons _ (.cons_cons _ .slnil))))))))))))⟩ kr (List.cons_ne_nil _ _) (all1 ?_)
    refine Nxt.mk (o:=_) (bm 13 511) rfl rfl ?_
    have S:=S.front 7 rfl
    replace S:St w0 H0 _ c6 (a7 :: [.row cq 9 1 ([q]:List Str).length,.box am 62 [j,k],.box an 108 [(int p.fKind),(int p.fIndex)],.box ao 62 [aa,ab],.box ap 94 [(str c.1.fMethod),(str c.1.fTarget),(int c.1.fMinor),ac,(str c.1.fBody)],.box aq 56 [(str []),(str [])],.box ar 56 [(str al),(str [])],.box au 56 [(str []),(str aj)],.box av 54 [(str b.fName),(int b.fBytes),(int b.fVariants),(int b.fTables),(boo b.fStrict),(boo b.fRefuse),(ptr l 0),(int (wr (0+(if 1099511627776<5 then 1099511627776 else 5)))),(.pointer none)],.box l 136 [(int b.fBytes),(int b.fVariants),(int b.fTables),(int (wr (0+(wr (x - z))))),a0,(mapv d)],.mp d (encm (fun v=>v) [(ak,(agg [j,k]))])]):=S
    refine W.callS rfl (zAB hG bh (fun x0=>zNL x0 q) S ay (fun hle hw hG x0 r h=>zNM hw hG x0 q (At.mono aw hle (by simp)) h) bo) ?_
    rintro et eu bu ew be S ⟨dm,rfl,dn⟩
    replace S:St w0 H0 _ bu [dm,.row cq 9 1 ([q]:List Str).length,.box am 62 [j,k],.box an 108 [(int p.fKind),(int p.fIndex)],.box ao 62 [aa,ab],.box ap 94 [(str c.1.fMethod),(str c.1.fTarget),(int c.1.fMinor),ac,(str c.1.fBody)],.box aq 56 [(str []),(str [])],.box ar 56 [(str al),(str [])],.box au 56 [(str []),(str aj)],.box av 54 [(str b.fName),(int b.fBytes),(int b.fVariants),(int b.fTables),(boo b.fStrict),(boo b.fRefuse),(ptr l 0),(int (wr (0+(if 1099511627776<5 then 1099511627776 else 5)))),(.pointer none)],.box l 136 [(int b.fBytes),(int b.fVariants),(int b.fTables),(int (wr (0+(wr (x - z))))),a0,(mapv d)],.mp d (encm (fun v=>v) [(ak,(agg [j,k]))])]:=S
    have aw:=At.mono aw be (by simp)
    have cr:=Sl.mono cr be
    have t:=Sl.mono t be
    have u:=Sl.mono u be
    have ad:=Sl.mono ad be
    have ae:=Sl.mono ae be
    have af:=Sl.mono af be
    refine We ?_
    refine WC.next (rs:=[9]) ⟨bu,(a6.trans be),S.drop _ (.cons _ (.cons _ (.cons_cons _ (.cons_cons _ (.cons_cons _ (.cons_cons _ (.cons_cons _ (.cons_cons _ (.cons_cons _ (.cons_cons _ (.cons _ (.cons_cons _ .slnil))))))))))))⟩ kr (List.cons_ne_nil _ _) (all1 ?_)
    refine Nxt.mk (o:=_) (bm 13 1023) rfl rfl<|W.appM (α:=Str) (i:=0) S el45 rfl rfl rfl dn cr bp ?_
    intro cb cs ex c7 S
    refine We ?_
    refine WC.take (i:=10) (bm 13 2047) rfl kr kr kr rfl (fun _ _=>(R.nilCheckB rfl)) ?_
    refine WC.take (i:=11) (bm 13 4095) rfl kr kr kr rfl (fun _ _=>(R.fieldB rfl zBH)) ?_
    refine WC.next (rs:=[12]) ⟨bu,(a6.trans be),S.drop _ (.cons _ (.cons _ (.cons_cons _ (.cons_cons _ (.cons_cons _ (.cons_cons _ (.cons_cons _ (.cons_cons _ (.cons_cons _ (.cons_cons _ (.cons _ (.cons_cons _ .slnil))))))))))))⟩ kr (List.cons_ne_nil _ _) (all1 ?_)
    refine Nxt.mk (o:=_) (bm 13 8191) rfl rfl ?_
    refine W.storeMR (α:=Str) (i:=10) [(int b.fBytes),(int b.fVariants),(int b.fTables),(int (wr (0+(wr (x - z))))),cb,(mapv d)] S c7 rfl rfl rfl lay45 (Nat.le_of_ble_eq_true rfl) rfl ?_
    intro ey S
    refine We<|WC.done ⟨bu,(a6.trans be),S.drop _ (.cons _ (.cons _ (.cons_cons _ (.cons_cons _ (.cons_cons _ (.cons_cons _ (.cons_cons _ (.cons_cons _ (.cons_cons _ (.cons_cons _ (.cons _ (.cons_cons _ .slnil))))))))))))⟩ kr ?_
    have S3:=S
    replace S3:=S3.front 11 rfl
    replace S3:=S3.front 11 rfl
    replace S3:=S3.front 11 rfl
    replace S3:=S3.front 11 rfl
    replace S3:=S3.front 11 rfl
    replace S3:=S3.front 11 rfl
    replace S3:=S3.front 11 rfl
    replace S3:=S3.front 11 rfl
    replace S3:=S3.front 11 rfl
    replace S3:=S3.front 11 rfl
    replace S3:=S3.front 10 rfl
    replace S3:St w0 H0 _ bu [cs,.box am 62 [j,k],.box an 108 [(int p.fKind),(int p.fIndex)],.box ao 62 [aa,ab],.box ap 94 [(str c.1.fMethod),(str c.1.fTarget),(int c.1.fMinor),ac,(str c.1.fBody)],.box aq 56 [(str []),(str [])],.box ar 56 [(str al),(str [])],.box au 56 [(str []),(str aj)],.box av 54 [(str b.fName),(int b.fBytes),(int b.fVariants),(int b.fTables),(boo b.fStrict),(boo b.fRefuse),(ptr l 0),(int (wr (0+(if 1099511627776<5 then 1099511627776 else 5)))),(.pointer none)],.box l 136 [(int b.fBytes),(int b.fVariants),(int b.fTables),(int (wr (0+(wr (x - z))))),cb,(mapv d)],.mp d (encm (fun v=>v) [(ak,(agg [j,k]))]),.row cq 9 1 ([q]:List Str).length]:=S3
    replace S3:St w0 H0 _ bu [cs,.box am 62 [j,k],.box an 108 [(int p.fKind),(int p.fIndex)],.box ao 62 [aa,ab],.box ap 94 [(str c.1.fMethod),(str c.1.fTarget),(int c.1.fMinor),ac,(str c.1.fBody)],.box aq 56 [(str []),(str [])],.box ar 56 [(str al),(str [])],.box au 56 [(str []),(str aj)],.box av 54 [(str b.fName),(int b.fBytes),(int b.fVariants),(int b.fTables),(boo b.fStrict),(boo b.fRefuse),(ptr l 0),(int (wr (0+(if 1099511627776<5 then 1099511627776 else 5)))),(.pointer none)],.box l 136 [(int b.fBytes),(int b.fVariants),(int b.fTables),(int (wr (0+(wr (x - z))))),cb,(mapv d)],.mp d (encm (fun v=>v) [(ak,(agg [j,k]))])]:=S3.drop _ (.cons_cons _ (.cons_cons _ (.cons_cons _ (.cons_cons _ (.cons_cons _ (.cons_cons _ (.cons_cons _ (.cons_cons _ (.cons_cons _ (.cons_cons _ (.cons_cons _ (.cons _ .slnil))))))))))))
    exact ⟨bu,(cs),cb,t,u,ad,ae,af,c7,t,u,((a1.trans a6).trans be),S3⟩
   refine Nxt.mk (o:=_) (bm 13 431) rfl rfl<|W.bslice (α:=Str) [(str q)] ([q]:List Str) S el45 rfl rfl rfl (by decide) (Go.Eng.encS ⟨rfl,rfl⟩ enc0) ?_
   intro ct ez cu a3 cv S
   have aw:=At.mono aw a3 (by simp)
   have t:=Sl.mono t a3
   have u:=Sl.mono u a3
   have ad:=Sl.mono ad a3
   have ae:=Sl.mono ae a3
   have af:=Sl.mono af a3
   have ay:=MR.mono ay a3
   refine We ?_
   refine WC.next (rs:=[4]) ⟨cu,a3,S.drop _ (.cons _ (.cons_cons _ (.cons_cons _ (.cons_cons _ (.cons_cons _ (.cons_cons _ (.cons_cons _ (.cons _ (.cons_cons _ (.cons_cons _ (.cons _ (.cons_cons _ .slnil))))))))))))⟩ kr (List.cons_ne_nil _ _) (all1 ?_)
   refine Nxt.mk (o:=_) (bm 13 447) rfl rfl ?_
   refine Lo 10 S<|We ?_
   refine WC.next (rs:=[6]) ⟨cu,a3,S.drop _ (.cons _ (.cons_cons _ (.cons_cons _ (.cons_cons _ (.cons_cons _ (.cons_cons _ (.cons_cons _ (.cons _ (.cons_cons _ (.cons_cons _ (.cons _ (.cons_cons _ .slnil))))))))))))⟩ kr (List.cons_ne_nil _ _) (all1 ?_)
   refine Nxt.mk (o:=_) (bm 13 511) rfl rfl ?_
   have S:=S.front 7 rfl
   replace S:St w0 H0 _ cu (a7 :: [.row ct 9 1 ([q]:List Str).length,.box am 62 [j,k],.box an 108 [(int p.fKind),(int p.fIndex)],.box ao 62 [aa,ab],.box ap 94 [(str c.1.fMethod),(str c.1.fTarget),(int c.1.fMinor),ac,(str c.1.fBody)],.box aq 56 [(str []),(str [])],.box ar 56 [(str al),(str [])],.box au 56 [(str []),(str aj)],.box av 54 [(str b.fName),(int b.fBytes),(int b.fVariants),(int b.fTables),(boo b.fStrict),(boo b.fRefuse),(ptr l 0),(int (wr (0+(if 1099511627776<5 then 1099511627776 else 5)))),(.pointer none)],.box l 136 [(int b.fBytes),(int b.fVariants),(int b.fTables),(int (wr (0+(wr (x - z))))),a0,(mapv d)],.mp d (encm (fun v=>v) [(ak,(agg [j,k]))])]):=S
   refine W.callS rfl (zAB hG bh (fun x0=>zNL x0 q) S ay (fun hle hw hG x0 r h=>zNM hw hG x0 q (At.mono aw hle (by simp)) h) bo) ?_
   rintro e0 e1 bv e2 bf S ⟨dp,rfl,dq⟩
   replace S:St w0 H0 _ bv [dp,.row ct 9 1 ([q]:List Str).length,.box am 62 [j,k],.box an 108 [(int p.fKind),(int p.fIndex)],.box ao 62 [aa,ab],.box ap 94 [(str c.1.fMethod),(str c.1.fTarget),(int c.1.fMinor),ac,(str c.1.fBody)],.box aq 56 [(str []),(str [])],.box ar 56 [(str al),(str [])],.box au 56 [(str []),(str aj)],.box av 54 [(str b.fName),(int b.fBytes),(int b.fVariants),(int b.fTables),(boo b.fStrict),(boo b.fRefuse),(ptr l 0),(int (wr (0+(if 1099511627776<5 then 1099511627776 else 5)))),(.pointer none)],.box l 136 [(int b.fBytes),(int b.fVariants),(int b.fTables),(int (wr (0+(wr (x - z))))),a0,(mapv d)],.mp d (encm (fun v=>v) [(ak,(agg [j,k]))])]:=S
   have aw:=At.mono aw bf (by simp)
   have cv:=Sl.mono cv bf
   have t:=Sl.mono t bf
   have u:=Sl.mono u bf
   have ad:=Sl.mono ad bf
   have ae:=Sl.mono ae bf
   have af:=Sl.mono af bf
   refine We ?_
   refine WC.next (rs:=[9]) ⟨bv,(a3.trans bf),S.drop _ (.cons _ (.cons _ (.cons_cons _ (.cons_cons _ (.cons_cons _ (.cons_cons _ (.cons_cons _ (.cons_cons _ (.cons_cons _ (.cons_cons _ (.cons _ (.cons_cons _ .slnil))))))))))))⟩ kr (List.cons_ne_nil _ _) (all1 ?_)
   refine Nxt.mk (o:=_) (bm 13 1023) rfl rfl<|W.appM (α:=Str) (i:=0) S el45 rfl rfl rfl dq cv bp ?_
   intro cc cw e3 c8 S
   refine We ?_
   refine WC.take (i:=10) (bm 13 2047) rfl kr kr kr rfl (fun _ _=>(R.nilCheckB rfl)) ?_
   refine WC.take (i:=11) (bm 13 4095) rfl kr kr kr rfl (fun _ _=>(R.fieldB rfl zBH)) ?_
   refine WC.next (rs:=[12]) ⟨bv,(a3.trans bf),S.drop _ (.cons _ (.cons _ (.cons_cons _ (.cons_cons _ (.cons_cons _ (.cons_cons _ (.cons_cons _ (.cons_cons _ (.cons_cons _ (.cons_cons _ (.cons _ (.cons_cons _ .slnil))))))))))))⟩ kr (List.cons_ne_nil _ _) (all1 ?_)
   refine Nxt.mk (o:=_) (bm 13 8191) rfl rfl ?_
   refine W.storeMR (α:=Str) (i:=10) [(int b.fBytes),(int b.fVariants),(int b.fTables),(int (wr (0+(wr (x - z))))),cc,(mapv d)] S c8 rfl rfl rfl lay45 (Nat.le_of_ble_eq_true rfl) rfl ?_
   intro e4 S
   refine We<|WC.done ⟨bv,(a3.trans bf),S.drop _ (.cons _ (.cons _ (.cons_cons _ (.cons_cons _ (.cons_cons _ (.cons_cons _ (.cons_cons _ (.cons_cons _ (.cons_cons _ (.cons_cons _ (.cons _ (.cons_cons _ .slnil))))))))))))⟩ kr ?_
   have S3:=S
   replace S3:=S3.front 11 rfl
   replace S3:=S3.front 11 rfl
   replace S3:=S3.front 11 rfl
   replace S3:=S3.front 11 rfl
   replace S3:=S3.front 11 rfl
   replace S3:=S3.front 11 rfl
   replace S3:=S3.front 11 rfl
   replace S3:=S3.front 11 rfl
   replace S3:=S3.front 11 rfl
   replace S3:=S3.front 11 rfl
   replace S3:=S3.front 10 rfl
   replace S3:St w0 H0 _ bv [cw,.box am 62 [j,k],.box an 108 [(int p.fKind),(int p.fIndex)],.box ao 62 [aa,ab],.box ap 94 [(str c.1.fMethod),(str c.1.fTarget),(int c.1.fMinor),ac,(str c.1.fBody)],.box aq 56 [(str []),(str [])],.box ar 56 [(str al),(str [])],.box au 56 [(str []),(str aj)],.box av 54 [(str b.fName),(int b.fBytes),(int b.fVariants),(int b.fTables),(boo b.fStrict),(boo b.fRefuse),(ptr l 0),(int (wr (0+(if 1099511627776<5 then 1099511627776 else 5)))),(.pointer none)],.box l 136 [(int b.fBytes),(int b.fVariants),(int b.fTables),(int (wr (0+(wr (x - z))))),cc,(mapv d)],.mp d (encm (fun v=>v) [(ak,(agg [j,k]))]),.row ct 9 1 ([q]:List Str).length]:=S3
   replace S3:St w0 H0 _ bv [cw,.box am 62 [j,k],.box an 108 [(int p.fKind),(int p.fIndex)],.box ao 62 [aa,ab],.box ap 94 [(str c.1.fMethod),(str c.1.fTarget),(int c.1.fMinor),ac,(str c.1.fBody)],.box aq 56 [(str []),(str [])],.box ar 56 [(str al),(str [])],.box au 56 [(str []),(str aj)],.box av 54 [(str b.fName),(int b.fBytes),(int b.fVariants),(int b.fTables),(boo b.fStrict),(boo b.fRefuse),(ptr l 0),(int (wr (0+(if 1099511627776<5 then 1099511627776 else 5)))),(.pointer none)],.box l 136 [(int b.fBytes),(int b.fVariants),(int b.fTables),(int (wr (0+(wr (x - z))))),cc,(mapv d)],.mp d (encm (fun v=>v) [(ak,(agg [j,k]))])]:=S3.drop _ (.cons_cons _ (.cons_cons _ (.cons_cons _ (.cons_cons _ (.cons_cons _ (.cons_cons _ (.cons_cons _ (.cons_cons _ (.cons_cons _ (.cons_cons _ (.cons_cons _ (.cons _ .slnil))))))))))))
   exact ⟨bv,(cw),cc,t,u,ad,ae,af,c8,t,u,((a1.trans a3).trans bf),S3⟩
  refine Nxt.mk (o:=_) (bm 13 399) rfl rfl<|W.bslice (α:=Str) [(str q)] ([q]:List Str) S el45 rfl rfl rfl (by decide) (Go.Eng.encS ⟨rfl,rfl⟩ enc0) ?_
  intro b4 e5 bw az b5 S
  have aw:=At.mono aw az (by simp)
  have t:=Sl.mono t az
  have u:=Sl.mono u az
  have ad:=Sl.mono ad az
  have ae:=Sl.mono ae az
  have af:=Sl.mono af az
  have ay:=MR.mono ay az
  refine We ?_
  refine WC.next (rs:=[4,5]) ⟨bw,az,S.drop _ (.cons _ (.cons_cons _ (.cons_cons _ (.cons_cons _ (.cons_cons _ (.cons_cons _ (.cons_cons _ (.cons _ (.cons_cons _ (.cons_cons _ (.cons _ (.cons_cons _ .slnil))))))))))))⟩ kr (List.cons_ne_nil _ _) (allS ?_ (all1 ?_))
  ·refine Nxt.mk (o:=_) (bm 13 415) rfl rfl ?_
   refine Lo 10 S<|We ?_
   refine WC.next (rs:=[5]) ⟨bw,az,S.drop _ (.cons _ (.cons_cons _ (.cons_cons _ (.cons_cons _ (.cons_cons _ (.cons_cons _ (.cons_cons _ (.cons _ (.cons_cons _ (.cons_cons _ (.cons _ (.cons_cons _ .slnil))))))))))))⟩ kr (List.cons_ne_nil _ _) (all1 ?_)
   refine Nxt.mk (o:=_) (bm 13 447) rfl rfl ?_
   refine WL.w (R.mkFunc (vs:=[(.pointer (some ⟨b1,0,none⟩))]) rfl)<|We ?_
   refine WC.next (rs:=[6]) ⟨bw,az,S.drop _ (.cons _ (.cons_cons _ (.cons_cons _ (.cons_cons _ (.cons_cons _ (.cons_cons _ (.cons_cons _ (.cons _ (.cons_cons _ (.cons_cons _ (.cons _ (.cons_cons _ .slnil))))))))))))⟩ kr (List.cons_ne_nil _ _) (all1 ?_)
   refine Nxt.mk (o:=_) (bm 13 511) rfl rfl ?_
   have S:=S.front 7 rfl
   replace S:St w0 H0 _ bw (a7 :: [.row b4 9 1 ([q]:List Str).length,.box am 62 [j,k],.box an 108 [(int p.fKind),(int p.fIndex)],.box ao 62 [aa,ab],.box ap 94 [(str c.1.fMethod),(str c.1.fTarget),(int c.1.fMinor),ac,(str c.1.fBody)],.box aq 56 [(str []),(str [])],.box ar 56 [(str al),(str [])],.box au 56 [(str []),(str aj)],.box av 54 [(str b.fName),(int b.fBytes),(int b.fVariants),(int b.fTables),(boo b.fStrict),(boo b.fRefuse),(ptr l 0),(int (wr (0+(if 1099511627776<5 then 1099511627776 else 5)))),(.pointer none)],.box l 136 [(int b.fBytes),(int b.fVariants),(int b.fTables),(int (wr (0+(wr (x - z))))),a0,(mapv d)],.mp d (encm (fun v=>v) [(ak,(agg [j,k]))])]):=S
   refine W.callS rfl (zAB hG bh (fun x0=>zNL x0 q) S ay (fun hle hw hG x0 r h=>zNM hw hG x0 q (At.mono aw hle (by simp)) h) bo) ?_
   rintro e6 e7 bx e8 bg S ⟨dr,rfl,ds⟩
   replace S:St w0 H0 _ bx [dr,.row b4 9 1 ([q]:List Str).length,.box am 62 [j,k],.box an 108 [(int p.fKind),(int p.fIndex)],.box ao 62 [aa,ab],.box ap 94 [(str c.1.fMethod),(str c.1.fTarget),(int c.1.fMinor),ac,(str c.1.fBody)],.box aq 56 [(str []),(str [])],.box ar 56 [(str al),(str [])],.box au 56 [(str []),(str aj)],.box av 54 [(str b.fName),(int b.fBytes),(int b.fVariants),(int b.fTables),(boo b.fStrict),(boo b.fRefuse),(ptr l 0),(int (wr (0+(if 1099511627776<5 then 1099511627776 else 5)))),(.pointer none)],.box l 136 [(int b.fBytes),(int b.fVariants),(int b.fTables),(int (wr (0+(wr (x - z))))),a0,(mapv d)],.mp d (encm (fun v=>v) [(ak,(agg [j,k]))])]:=S
   have aw:=At.mono aw bg (by simp)
   have b5:=Sl.mono b5 bg
   have t:=Sl.mono t bg
   have u:=Sl.mono u bg
   have ad:=Sl.mono ad bg
   have ae:=Sl.mono ae bg
   have af:=Sl.mono af bg
   refine We ?_
   refine WC.next (rs:=[9]) ⟨bx,(az.trans bg),S.drop _ (.cons _ (.cons _ (.cons_cons _ (.cons_cons _ (.cons_cons _ (.cons_cons _ (.cons_cons _ (.cons_cons _ (.cons_cons _ (.cons_cons _ (.cons _ (.cons_cons _ .slnil))))))))))))⟩ kr (List.cons_ne_nil _ _) (all1 ?_)
   refine Nxt.mk (o:=_) (bm 13 1023) rfl rfl<|W.appM (α:=Str) (i:=0) S el45 rfl rfl rfl ds b5 bp ?_
   intro cd cx e9 c9 S
   refine We ?_
   refine WC.take (i:=10) (bm 13 2047) rfl kr kr kr rfl (fun _ _=>(R.nilCheckB rfl)) ?_
   refine WC.take (i:=11) (bm 13 4095) rfl kr kr kr rfl (fun _ _=>(R.fieldB rfl zBH)) ?_
   refine WC.next (rs:=[12]) ⟨bx,(az.trans bg),S.drop _ (.cons _ (.cons _ (.cons_cons _ (.cons_cons _ (.cons_cons _ (.cons_cons _ (.cons_cons _ (.cons_cons _ (.cons_cons _ (.cons_cons _ (.cons _ (.cons_cons _ .slnil))))))))))))⟩ kr (List.cons_ne_nil _ _) (all1 ?_)
   refine Nxt.mk (o:=_) (bm 13 8191) rfl rfl ?_
   refine W.storeMR (α:=Str) (i:=10) [(int b.fBytes),(int b.fVariants),(int b.fTables),(int (wr (0+(wr (x - z))))),cd,(mapv d)] S c9 rfl rfl rfl lay45 (Nat.le_of_ble_eq_true rfl) rfl ?_
   intro fa S
   refine We<|WC.done ⟨bx,(az.trans bg),S.drop _ (.cons _ (.cons _ (.cons_cons _ (.cons_cons _ (.cons_cons _ (.cons_cons _ (.cons_cons _ (.cons_cons _ (.cons_cons _ (.cons_cons _ (.cons _ (.cons_cons _ .slnil))))))))))))⟩ kr ?_
   have S3:=S
   replace S3:=S3.front 11 rfl
   replace S3:=S3.front 11 rfl
   replace S3:=S3.front 11 rfl
   replace S3:=S3.front 11 rfl
   replace S3:=S3.front 11 rfl
   replace S3:=S3.front 11 rfl
   replace S3:=S3.front 11 rfl
   replace S3:=S3.front 11 rfl
   replace S3:=S3.front 11 rfl
   replace S3:=S3.front 11 rfl
   replace S3:=S3.front 10 rfl
   replace S3:St w0 H0 _ bx [cx,.box am 62 [j,k],.box an 108 [(int p.fKind),(int p.fIndex)],.box ao 62 [aa,ab],.box ap 94 [(str c.1.fMethod),(str c.1.fTarget),(int c.1.fMinor),ac,(str c.1.fBody)],.box aq 56 [(str []),(str [])],.box ar 56 [(str al),(str [])],.box au 56 [(str []),(str aj)],.box av 54 [(str b.fName),(int b.fBytes),(int b.fVariants),(int b.fTables),(boo b.fStrict),(boo b.fRefuse),(ptr l 0),(int (wr (0+(if 1099511627776<5 then 1099511627776 else 5)))),(.pointer none)],.box l 136 [(int b.fBytes),(int b.fVariants),(int b.fTables),(int (wr (0+(wr (x - z))))),cd,(mapv d)],.mp d (encm (fun v=>v) [(ak,(agg [j,k]))]),.row b4 9 1 ([q]:List Str).length]:=S3
   replace S3:St w0 H0 _ bx [cx,.box am 62 [j,k],.box an 108 [(int p.fKind),(int p.fIndex)],.box ao 62 [aa,ab],.box ap 94 [(str c.1.fMethod),(str c.1.fTarget),(int c.1.fMinor),ac,(str c.1.fBody)],.box aq 56 [(str []),(str [])],.box ar 56 [(str al),(str [])],.box au 56 [(str []),(str aj)],.box av 54 [(str b.fName),(int b.fBytes),(int b.fVariants),(int b.fTables),(boo b.fStrict),(boo b.fRefuse),(ptr l 0),(int (wr (0+(if 1099511627776<5 then 1099511627776 else 5)))),(.pointer none)],.box l 136 [(int b.fBytes),(int b.fVariants),(int b.fTables),(int (wr (0+(wr (x - z))))),cd,(mapv d)],.mp d (encm (fun v=>v) [(ak,(agg [j,k]))])]:=S3.drop _ (.cons_cons _ (.cons_cons _ (.cons_cons _ (.cons_cons _ (.cons_cons _ (.cons_cons _ (.cons_cons _ (.cons_cons _ (.cons_cons _ (.cons_cons _ (.cons_cons _ (.cons _ .slnil))))))))))))
   exact ⟨bx,(cx),cd,t,u,ad,ae,af,c9,t,u,((a1.trans az).trans bg),S3⟩
  refine Nxt.mk (o:=_) (bm 13 431) rfl rfl ?_
  refine WL.w (R.mkFunc (vs:=[(.pointer (some ⟨b1,0,none⟩))]) rfl)<|We ?_
  refine WC.next (rs:=[4]) ⟨bw,az,S.drop _ (.cons _ (.cons_cons _ (.cons_cons _ (.cons_cons _ (.cons_cons _ (.cons_cons _ (.cons_cons _ (.cons _ (.cons_cons _ (.cons_cons _ (.cons _ (.cons_cons _ .slnil))))))))))))⟩ kr (List.cons_ne_nil _ _) (all1 ?_)
  refine Nxt.mk (o:=_) (bm 13 447) rfl rfl ?_
  refine Lo 10 S<|We ?_
  refine WC.next (rs:=[6]) ⟨bw,az,S.drop _ (.cons _ (.cons_cons _ (.cons_cons _ (.cons_cons _ (.cons_cons _ (.cons_cons _ (.cons_cons _ (.cons _ (.cons_cons _ (.cons_cons _ (.cons _ (.cons_cons _ .slnil))))))))))))⟩ kr (List.cons_ne_nil _ _) (all1 ?_)
  refine Nxt.mk (o:=_) (bm 13 511) rfl rfl ?_
  have S:=S.front 7 rfl
  replace S:St w0 H0 _ bw (a7 :: [.row b4 9 1 ([q]:List Str).length,.box am 62 [j,k],.box an 108 [(int p.fKind),(int p.fIndex)],.box ao 62 [aa,ab],.box ap 94 [(str c.1.fMethod),(str c.1.fTarget),(int c.1.fMinor),ac,(str c.1.fBody)],.box aq 56 [(str []),(str [])],.box ar 56 [(str al),(str [])],.box au 56 [(str []),(str aj)],.box av 54 [(str b.fName),(int b.fBytes),(int b.fVariants),(int b.fTables),(boo b.fStrict),(boo b.fRefuse),(ptr l 0),(int (wr (0+(if 1099511627776<5 then 1099511627776 else 5)))),(.pointer none)],.box l 136 [(int b.fBytes),(int b.fVariants),(int b.fTables),(int (wr (0+(wr (x - z))))),a0,(mapv d)],.mp d (encm (fun v=>v) [(ak,(agg [j,k]))])]):=S
  refine W.callS rfl (zAB hG bh (fun x0=>zNL x0 q) S ay (fun hle hw hG x0 r h=>zNM hw hG x0 q (At.mono aw hle (by simp)) h) bo) ?_
  rintro fb fc bz fd bk S ⟨dt,rfl,du⟩
  replace S:St w0 H0 _ bz [dt,.row b4 9 1 ([q]:List Str).length,.box am 62 [j,k],.box an 108 [(int p.fKind),(int p.fIndex)],.box ao 62 [aa,ab],.box ap 94 [(str c.1.fMethod),(str c.1.fTarget),(int c.1.fMinor),ac,(str c.1.fBody)],.box aq 56 [(str []),(str [])],.box ar 56 [(str al),(str [])],.box au 56 [(str []),(str aj)],.box av 54 [(str b.fName),(int b.fBytes),(int b.fVariants),(int b.fTables),(boo b.fStrict),(boo b.fRefuse),(ptr l 0),(int (wr (0+(if 1099511627776<5 then 1099511627776 else 5)))),(.pointer none)],.box l 136 [(int b.fBytes),(int b.fVariants),(int b.fTables),(int (wr (0+(wr (x - z))))),a0,(mapv d)],.mp d (encm (fun v=>v) [(ak,(agg [j,k]))])]:=S
  have b5:=Sl.mono b5 bk
  have t:=Sl.mono t bk
  have u:=Sl.mono u bk
  have ad:=Sl.mono ad bk
  have ae:=Sl.mono ae bk
  have af:=Sl.mono af bk
  refine We ?_
  refine WC.next (rs:=[9]) ⟨bz,(az.trans bk),S.drop _ (.cons _ (.cons _ (.cons_cons _ (.cons_cons _ (.cons_cons _ (.cons_cons _ (.cons_cons _ (.cons_cons _ (.cons_cons _ (.cons_cons _ (.cons _ (.cons_cons _ .slnil))))))))))))⟩ kr (List.cons_ne_nil _ _) (all1 ?_)
  refine Nxt.mk (o:=_) (bm 13 1023) rfl rfl<|W.appM (α:=Str) (i:=0) S el45 rfl rfl rfl du b5 bp ?_
  intro ce cy fe da S
  refine We ?_
  refine WC.take (i:=10) (bm 13 2047) rfl kr kr kr rfl (fun _ _=>(R.nilCheckB rfl)) ?_
  refine WC.take (i:=11) (bm 13 4095) rfl kr kr kr rfl (fun _ _=>(R.fieldB rfl zBH)) ?_
  refine WC.next (rs:=[12]) ⟨bz,(az.trans bk),S.drop _ (.cons _ (.cons _ (.cons_cons _ (.cons_cons _ (.cons_cons _ (.cons_cons _ (.cons_cons _ (.cons_cons _ (.cons_cons _ (.cons_cons _ (.cons _ (.cons_cons _ .slnil))))))))))))⟩ kr (List.cons_ne_nil _ _) (all1 ?_)
  refine Nxt.mk (o:=_) (bm 13 8191) rfl rfl ?_
  refine W.storeMR (α:=Str) (i:=10) [(int b.fBytes),(int b.fVariants),(int b.fTables),(int (wr (0+(wr (x - z))))),ce,(mapv d)] S da rfl rfl rfl lay45 (Nat.le_of_ble_eq_true rfl) rfl ?_
  intro ff S
  refine We<|WC.done ⟨bz,(az.trans bk),S.drop _ (.cons _ (.cons _ (.cons_cons _ (.cons_cons _ (.cons_cons _ (.cons_cons _ (.cons_cons _ (.cons_cons _ (.cons_cons _ (.cons_cons _ (.cons _ (.cons_cons _ .slnil))))))))))))⟩ kr ?_
  have S3:=S
  replace S3:=S3.front 11 rfl
  replace S3:=S3.front 11 rfl
  replace S3:=S3.front 11 rfl
  replace S3:=S3.front 11 rfl
  replace S3:=S3.front 11 rfl
  replace S3:=S3.front 11 rfl
  replace S3:=S3.front 11 rfl
  replace S3:=S3.front 11 rfl
  replace S3:=S3.front 11 rfl
  replace S3:=S3.front 11 rfl
  replace S3:=S3.front 10 rfl
  replace S3:St w0 H0 _ bz [cy,.box am 62 [j,k],.box an 108 [(int p.fKind),(int p.fIndex)],.box ao 62 [aa,ab],.box ap 94 [(str c.1.fMethod),(str c.1.fTarget),(int c.1.fMinor),ac,(str c.1.fBody)],.box aq 56 [(str []),(str [])],.box ar 56 [(str al),(str [])],.box au 56 [(str []),(str aj)],.box av 54 [(str b.fName),(int b.fBytes),(int b.fVariants),(int b.fTables),(boo b.fStrict),(boo b.fRefuse),(ptr l 0),(int (wr (0+(if 1099511627776<5 then 1099511627776 else 5)))),(.pointer none)],.box l 136 [(int b.fBytes),(int b.fVariants),(int b.fTables),(int (wr (0+(wr (x - z))))),ce,(mapv d)],.mp d (encm (fun v=>v) [(ak,(agg [j,k]))]),.row b4 9 1 ([q]:List Str).length]:=S3
  replace S3:St w0 H0 _ bz [cy,.box am 62 [j,k],.box an 108 [(int p.fKind),(int p.fIndex)],.box ao 62 [aa,ab],.box ap 94 [(str c.1.fMethod),(str c.1.fTarget),(int c.1.fMinor),ac,(str c.1.fBody)],.box aq 56 [(str []),(str [])],.box ar 56 [(str al),(str [])],.box au 56 [(str []),(str aj)],.box av 54 [(str b.fName),(int b.fBytes),(int b.fVariants),(int b.fTables),(boo b.fStrict),(boo b.fRefuse),(ptr l 0),(int (wr (0+(if 1099511627776<5 then 1099511627776 else 5)))),(.pointer none)],.box l 136 [(int b.fBytes),(int b.fVariants),(int b.fTables),(int (wr (0+(wr (x - z))))),ce,(mapv d)],.mp d (encm (fun v=>v) [(ak,(agg [j,k]))])]:=S3.drop _ (.cons_cons _ (.cons_cons _ (.cons_cons _ (.cons_cons _ (.cons_cons _ (.cons_cons _ (.cons_cons _ (.cons_cons _ (.cons_cons _ (.cons_cons _ (.cons_cons _ (.cons _ .slnil))))))))))))
  exact ⟨bz,(cy),ce,t,u,ad,ae,af,da,t,u,((a1.trans az).trans bk),S3⟩
 rintro f w ⟨a4,bq,br,dv,dw,dx,dy,dz,d0,t,u,d1,S⟩
 refine In.zeroN rfl  ?_
 obtain rfl:=oi h
 exact hK bq br a4 d1 dv dw dx dy dz d0 t u _ S
theorem zH3 {t:World} {H0:Hp} (hw:Holds t H0) (hG:Tryz.Gl t) {c:GConfig} {af:Str} {ac:Str} {ah:Str} {ai:Int} {aj:Int} {a3:(List Str)} {ak:GTable} {d:(GRequest×GURI×Unit)} {av:Str} {al:GTable} {j:GDecision} {f:Nat} {a5:Nat} {r:Value} {am:Nat} {an:Nat} {u:Value} {x:Value} {a6:Nat} {ao:Nat} {ap:Nat} {aq:Nat} {aw:Ent} {ar:Nat} {au:Nat} {ax:Value} {k:Nat} {o:Value} {p:Value} {q:Hp} {w:World} (S:St t H0 w q [.box a5 111 [(str d.1.fMethod),(str d.1.fTarget),(int d.1.fMinor),r,(str d.1.fBody),(str d.2.1.fHost),(int d.2.1.fPort),(str d.2.1.fPath),(str d.2.1.fQuery),(boo d.2.1.fHasQuery),(str av),(int (wr (0+(if 1099511627776<5 then 1099511627776 else 5)))),(boo false),(int 0),(.slice none 0 0),(.slice none 0 0),(.slice none 0 0),(str []),(.slice none 0 0),(str []),(int 0),(int 0)],.box am 108 [(int j.fKind),(int j.fIndex)],.box an 62 [u,x],.box a6 96 [(str d.2.1.fHost),(int d.2.1.fPort),(str d.2.1.fPath),(str d.2.1.fQuery),(boo d.2.1.fHasQuery)],.box ao 94 [(str d.1.fMethod),(str d.1.fTarget),(int d.1.fMinor),r,(str d.1.fBody)],.box ap 56 [(str []),(str [])],.box aq 56 [(str ah),(str [])],aw,.box ar 56 [(str []),(str af)],.box au 54 [(str c.fName),(int c.fBytes),(int c.fVariants),(int c.fTables),(boo c.fStrict),(boo c.fRefuse),(ptr f 0),(int (wr (0+(if 1099511627776<5 then 1099511627776 else 5)))),(.pointer none)],.box f 136 [(int c.fBytes),(int c.fVariants),(int c.fTables),(int (wr (0+(wr (ai - aj))))),ax,(mapv k)],.mp k (encm (fun v=>v) [(ac,(agg [o,p]))])]) (ay:Sl (α:=GField) q r d.1.fFields) (az:Sl (α:=GAxis) q u al.fAxes) (a0:Sl (α:=GEntry) q x al.fEntries) (a1:MR (α:=Str) q aw 9 ax a3) (z:Sl (α:=GAxis) q o ak.fAxes) (aa:Sl (α:=GEntry) q p ak.fEntries) {a2:(List Str)} (h:zCM ac a3 av=some a2) {K:Value→World→Prop}
  (hK:∀ (ad:Ent) (ae:Value) (Hz:Hp),q.le Hz→Sl (α:=GAxis) Hz u al.fAxes→Sl (α:=GEntry) Hz x al.fEntries→Sl (α:=GField) Hz r d.1.fFields→MR (α:=Str) Hz ad 9 ae a2→Sl (α:=GAxis) Hz o ak.fAxes→Sl (α:=GEntry) Hz p ak.fEntries→∀ w',St t H0 w' Hz [ad,.box am 108 [(int j.fKind),(int j.fIndex)],.box an 62 [u,x],.box ao 94 [(str d.1.fMethod),(str d.1.fTarget),(int d.1.fMinor),r,(str d.1.fBody)],.box ap 56 [(str []),(str [])],.box aq 56 [(str ah),(str [])],.box ar 56 [(str []),(str af)],.box au 54 [(str c.fName),(int c.fBytes),(int c.fVariants),(int c.fTables),(boo c.fStrict),(boo c.fRefuse),(ptr f 0),(int (wr (0+(if 1099511627776<5 then 1099511627776 else 5)))),(.pointer none)],.box f 136 [(int c.fBytes),(int c.fVariants),(int c.fTables),(int (wr (0+(wr (ai - aj))))),ae,(mapv k)],.mp k (encm (fun v=>v) [(ac,(agg [o,p]))])]→K (boo true) w') :
  CallK Tryz.prog 53 [(ptr f 0),(str av)] w K:=by
 unfold zCM at h
 refine zBB (N':=18) Tryz.func53 rfl rfl kr rfl<|Ws<|Wg<|A<|We<|Ws<|Ws<|Wg<|M<|M<|B h fun _ a7 h=>callK rfl (zIU hw (hG) S ay az a0 a1 z aa a7 ?_)
 intro bg bh a8 a9 z aa az a0 ay a1 bi S
 replace S:St t H0 _ a8 [.box am 108 [(int j.fKind),(int j.fIndex)],.box an 62 [u,x],.box ao 94 [(str d.1.fMethod),(str d.1.fTarget),(int d.1.fMinor),r,(str d.1.fBody)],.box ap 56 [(str []),(str [])],.box aq 56 [(str ah),(str [])],aw,.box ar 56 [(str []),(str af)],.box au 54 [(str c.fName),(int c.fBytes),(int c.fVariants),(int c.fTables),(boo c.fStrict),(boo c.fRefuse),(ptr f 0),(int (wr (0+(if 1099511627776<5 then 1099511627776 else 5)))),(.pointer none)],.box f 136 [(int c.fBytes),(int c.fVariants),(int c.fTables),(int (wr (0+(wr (ai - aj))))),ax,(mapv k)],.mp k (encm (fun v=>v) [(ac,(agg [o,p]))])]:=(S.drop _ (.cons _ (.cons _ (.cons_cons _ (.cons_cons _ (.cons_cons _ (.cons_cons _ (.cons_cons _ (.cons_cons _ (.cons_cons _ (.cons_cons _ (.cons_cons _ (.cons_cons _ .slnil)))))))))))))
 refine M ?_
 refine Ex ?_
 refine Ex ?_
 refine W.alloc [(.slice none 0 0),(.slice none 0 0)] S zer62 ?_
 intro bj bk S
 refine W.store (i:=0) [o,p] S rfl rfl rfl lay62 rfl (AllOne.all (l:=[o,p]) (.cons (Sl.oneC z) (.cons (Sl.oneC aa) .nil))) (Nat.le_of_ble_eq_true rfl) rfl ?_
 intro bn S
 refine A<|We<|Ws<|Wg<|M ?_
 refine WL.w (v:=boo false) (R.ofEq (R.not rfl) rfl)<|We<|WP.condF (b:=false) rfl rfl<|Wk<|Ws<|Wg<|M ?_
 refine M<|B h fun a2 ba h=>callK rfl (zHr hw (hG) S z aa az a0 ay a1 ba ?_)
 intro ad ae a4 bb bo bp bc bd be bf z aa bq S
 replace S:St t H0 _ a4 [ad,.box am 108 [(int j.fKind),(int j.fIndex)],.box an 62 [u,x],.box ao 94 [(str d.1.fMethod),(str d.1.fTarget),(int d.1.fMinor),r,(str d.1.fBody)],.box ap 56 [(str []),(str [])],.box aq 56 [(str ah),(str [])],.box ar 56 [(str []),(str af)],.box au 54 [(str c.fName),(int c.fBytes),(int c.fVariants),(int c.fTables),(boo c.fStrict),(boo c.fRefuse),(ptr f 0),(int (wr (0+(if 1099511627776<5 then 1099511627776 else 5)))),(.pointer none)],.box f 136 [(int c.fBytes),(int c.fVariants),(int c.fTables),(int (wr (0+(wr (ai - aj))))),ae,(mapv k)],.mp k (encm (fun v=>v) [(ac,(agg [o,p]))])]:=(S.drop _ (.cons_cons _ (.cons _ (.cons_cons _ (.cons_cons _ (.cons_cons _ (.cons_cons _ (.cons_cons _ (.cons_cons _ (.cons_cons _ (.cons_cons _ (.cons_cons _ .slnil))))))))))))
 refine We<|Ws<|Wg<|A<|We ?_
 refine WP.ret (In.one rfl rfl ?_)
 obtain rfl:=oi h
 exact hK ad ae a4 (a9.trans bb) bc bd be bf z aa _ S
end Go.Proofs
