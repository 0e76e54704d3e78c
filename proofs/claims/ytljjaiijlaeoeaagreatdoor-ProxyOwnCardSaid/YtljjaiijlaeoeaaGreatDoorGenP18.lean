/- A part. -/
import Derived.Test.YtljjaiijlaeoeaaGreatDoorEng38
import Derived.Test.YtljjaiijlaeoeaaGreatDoorEng36
import Derived.Test.YtljjaiijlaeoeaaGreatDoorGenP17
namespace Go.Proofs
set_option maxHeartbeats 4000000
set_option maxRecDepth 10000
open Go.Eng Go.Eng.Pure
set_option linter.unusedVariables false
theorem zFM {w0:World} {H0:Hp} (hw:Holds w0 H0) (hG:Tryz.Gl w0) {b:GConfig} {ak:Str} {al:Str} {am:Str} {ac:Int} {ad:Int} {a2:(List Str)} {a3:GTable} {c:(GRequest×GURI×Unit)} {l:Str} {bk:GTable} {t:GDecision} {q:Nat} {an:Nat} {o:Value} {p:Value} {ao:Nat} {ap:Nat} {ae:Value} {af:Value} {aq:Nat} {ah:Value} {ar:Nat} {au:Nat} {a1:Ent} {av:Nat} {aw:Nat} {ay:Value} {k:Nat} {a6:Hp} {w:World} (S:St w0 H0 w a6 [.box an 62 [o,p],.box ao 108 [(int t.fKind),(int t.fIndex)],.box ap 62 [ae,af],.box aq 94 [(str c.1.fMethod),(str c.1.fTarget),(int c.1.fMinor),ah,(str c.1.fBody)],.box ar 56 [(str []),(str [])],.box au 56 [(str am),(str [])],a1,.box av 56 [(str []),(str ak)],.box aw 54 [(str b.fName),(int b.fBytes),(int b.fVariants),(int b.fTables),(boo b.fStrict),(boo b.fRefuse),(ptr q 0),(int (wr (0+(if 1099511627776<5 then 1099511627776 else 5)))),(.pointer none)],.box q 136 [(int b.fBytes),(int b.fVariants),(int b.fTables),(int (wr (0+(wr (ac - ad))))),ay,(mapv k)],.mp k (encm (fun v=>v) [(al,(agg [o,p]))])]) (d:Sl a6 o a3.fAxes) (j:Sl a6 p a3.fEntries) (u:Sl a6 ae bk.fAxes) (x:Sl a6 af bk.fEntries) (z:Sl a6 ah c.1.fFields) (ax:MR (α:=Str) a6 a1 9 ay a2) {b2:(List Str)} (h:zCS a2 l=some b2) {K:Value→World→Prop}
  (hK:∀ (bd:Ent) (be:Value) (Hz:Hp),a6.le Hz→Sl Hz o a3.fAxes→Sl Hz p a3.fEntries→Sl Hz ae bk.fAxes→Sl Hz af bk.fEntries→Sl Hz ah c.1.fFields→MR (α:=Str) Hz bd 9 be b2→Sl Hz o a3.fAxes→Sl Hz p a3.fEntries→∀ w',St w0 H0 w' Hz [bd,.box an 62 [o,p],.box ao 108 [(int t.fKind),(int t.fIndex)],.box ap 62 [ae,af],.box aq 94 [(str c.1.fMethod),(str c.1.fTarget),(int c.1.fMinor),ah,(str c.1.fBody)],.box ar 56 [(str []),(str [])],.box au 56 [(str am),(str [])],.box av 56 [(str []),(str ak)],.box aw 54 [(str b.fName),(int b.fBytes),(int b.fVariants),(int b.fTables),(boo b.fStrict),(boo b.fRefuse),(ptr q 0),(int (wr (0+(if 1099511627776<5 then 1099511627776 else 5)))),(.pointer none)],.box q 136 [(int b.fBytes),(int b.fVariants),(int b.fTables),(int (wr (0+(wr (ac - ad))))),be,(mapv k)],.mp k (encm (fun v=>v) [(al,(agg [o,p]))])]→K (.tuple ⟨[]⟩) w') :
  CallK Tryz.prog 98 [(ptr q 0),(str l)] w K:=by
 unfold zCS at h
 refine zAi (N':=16) Tryz.func98 rfl rfl kr rfl<|Ws<|Wg ?_
 refine W.box [(str l)] S rfl rfl ?_
 intro bn dz S
 refine We ?_
 obtain ⟨a4,a5,c2,_,S⟩:=S.settle (i:=0) rfl
 replace S:St w0 H0 _ a4 [.box an 62 [o,p],.box ao 108 [(int t.fKind),(int t.fIndex)],.box ap 62 [ae,af],.box aq 94 [(str c.1.fMethod),(str c.1.fTarget),(int c.1.fMinor),ah,(str c.1.fBody)],.box ar 56 [(str []),(str [])],.box au 56 [(str am),(str [])],a1,.box av 56 [(str []),(str ak)],.box aw 54 [(str b.fName),(int b.fBytes),(int b.fVariants),(int b.fTables),(boo b.fStrict),(boo b.fRefuse),(ptr q 0),(int (wr (0+(if 1099511627776<5 then 1099511627776 else 5)))),(.pointer none)],.box q 136 [(int b.fBytes),(int b.fVariants),(int b.fTables),(int (wr (0+(wr (ac - ad))))),ay,(mapv k)],.mp k (encm (fun v=>v) [(al,(agg [o,p]))])]:=S
 have aa:At a4 ⟨bn,0,none⟩ [(str l)]:=⟨_,_,rfl,c2,[],by simp⟩
 have ⟨d,j,u,x,z⟩:=U5 a5 d j u x z
 have ax:=MR.mono ax a5
 refine B h fun d0 a9 h=>B h fun b2 ba h=>WP.cut (fun f w=>∃ (a0:Hp) (bd:Ent) (be:Value),Sl a0 o a3.fAxes∧Sl a0 p a3.fEntries∧Sl a0 ae bk.fAxes∧Sl a0 af bk.fEntries∧Sl a0 ah c.1.fFields∧MR (α:=Str) a0 bd 9 be b2∧Sl a0 o a3.fAxes∧Sl a0 p a3.fEntries∧Hp.le a6 a0∧St w0 H0 w a0 [bd,.box an 62 [o,p],.box ao 108 [(int t.fKind),(int t.fIndex)],.box ap 62 [ae,af],.box aq 94 [(str c.1.fMethod),(str c.1.fTarget),(int c.1.fMinor),ah,(str c.1.fBody)],.box ar 56 [(str []),(str [])],.box au 56 [(str am),(str [])],.box av 56 [(str []),(str ak)],.box aw 54 [(str b.fName),(int b.fBytes),(int b.fVariants),(int b.fTables),(boo b.fStrict),(boo b.fRefuse),(ptr q 0),(int (wr (0+(if 1099511627776<5 then 1099511627776 else 5)))),(.pointer none)],.box q 136 [(int b.fBytes),(int b.fVariants),(int b.fTables),(int (wr (0+(wr (ac - ad))))),be,(mapv k)],.mp k (encm (fun v=>v) [(al,(agg [o,p]))])]) ?_ ?_
 ·refine WP.drawC (Cl w0 H0 a4 [.box an 62 [o,p],.box ao 108 [(int t.fKind),(int t.fIndex)],.box ap 62 [ae,af],.box aq 94 [(str c.1.fMethod),(str c.1.fTarget),(int c.1.fMinor),ah,(str c.1.fBody)],.box ar 56 [(str []),(str [])],.box au 56 [(str am),(str [])],.box av 56 [(str []),(str ak)],.box aw 54 [(str b.fName),(int b.fBytes),(int b.fVariants),(int b.fTables),(boo b.fStrict),(boo b.fRefuse),(ptr q 0),(int (wr (0+(if 1099511627776<5 then 1099511627776 else 5)))),(.pointer none)],.mp k (encm (fun v=>v) [(al,(agg [o,p]))])]) kr 13 rfl (bm 13 0) rfl ?_
  have S:=S.drew
  refine Ct 0 13 1 rfl (fun _ _=>(R.mv (v:=ptr q 0) rfl)) ?_
  refine Ct 1 13 3 rfl (fun _ _=>(R.mv (v:=ptr q 0) rfl)) ?_
  refine Ct 2 13 7 rfl (fun _ _=>(R.nilCheckB rfl)) ?_
  refine Ct 3 13 15 rfl (fun _ _=>(R.fieldB rfl zAm)) ?_
  refine Ct 7 13 143 rfl (fun w hw=>by obtain ⟨_,hq,S⟩:=hw; exact (R.loadH (v:=str l) S rfl (At.mono aa hq (by simp)) lay9 rfl)) ?_
  refine Cx [4,5,8] ⟨a4,lr,(S.pk [0,1,2,3,4,5,7,8,10])⟩ (allS ?_ (allS ?_ (all1 ?_)))
  ·refine Nx 13 159 rfl ?_
   refine Lo 9 S<|We ?_
   refine Cx [5,8] ⟨a4,lr,(S.pk [0,1,2,3,4,5,7,8,10])⟩ (allS ?_ (all1 ?_))
   ·refine Nx 13 191 rfl ?_
    refine WL.w (R.mkFunc (vs:=[(.pointer (some ⟨bn,0,none⟩))]) rfl)<|We ?_
    refine Cx [6,8] ⟨a4,lr,(S.pk [0,1,2,3,4,5,7,8,10])⟩ (allS ?_ (all1 ?_))
    ·refine Nx 13 255 rfl ?_
     have S:=S.front 6 rfl
     replace S:St w0 H0 _ a4 (a1 :: [.box an 62 [o,p],.box ao 108 [(int t.fKind),(int t.fIndex)],.box ap 62 [ae,af],.box aq 94 [(str c.1.fMethod),(str c.1.fTarget),(int c.1.fMinor),ah,(str c.1.fBody)],.box ar 56 [(str []),(str [])],.box au 56 [(str am),(str [])],.box av 56 [(str []),(str ak)],.box aw 54 [(str b.fName),(int b.fBytes),(int b.fVariants),(int b.fTables),(boo b.fStrict),(boo b.fRefuse),(ptr q 0),(int (wr (0+(if 1099511627776<5 then 1099511627776 else 5)))),(.pointer none)],.box q 136 [(int b.fBytes),(int b.fVariants),(int b.fTables),(int (wr (0+(wr (ac - ad))))),ay,(mapv k)],.mp k (encm (fun v=>v) [(al,(agg [o,p]))])]):=S
     refine W.callS rfl (zAB hG a2 (fun x0=>zAD x0 l) S ax (fun hle hw hG x0 r h=>zAE hw hG x0 l (At.mono aa hle (by simp)) h) a9) ?_
     rintro d1 d2 ce d3 bf S ⟨c3,rfl,b6⟩
     replace S:St w0 H0 _ ce [c3,.box an 62 [o,p],.box ao 108 [(int t.fKind),(int t.fIndex)],.box ap 62 [ae,af],.box aq 94 [(str c.1.fMethod),(str c.1.fTarget),(int c.1.fMinor),ah,(str c.1.fBody)],.box ar 56 [(str []),(str [])],.box au 56 [(str am),(str [])],.box av 56 [(str []),(str ak)],.box aw 54 [(str b.fName),(int b.fBytes),(int b.fVariants),(int b.fTables),(boo b.fStrict),(boo b.fRefuse),(ptr q 0),(int (wr (0+(if 1099511627776<5 then 1099511627776 else 5)))),(.pointer none)],.box q 136 [(int b.fBytes),(int b.fVariants),(int b.fTables),(int (wr (0+(wr (ac - ad))))),ay,(mapv k)],.mp k (encm (fun v=>v) [(al,(agg [o,p]))])]:=S
     have aa:=At.mono aa bf (by simp)
     have ⟨d,j,u,x,z⟩:=U5 bf d j u x z
     refine We ?_
     refine Cx [8] ⟨ce,bf,(S.pk [1,2,3,4,5,6,7,8,10])⟩ (all1 ?_)
     refine Nx 13 511 rfl<|W.bslice (α:=Str) [(str l)] ([l]:List Str) S el45 rfl rfl rfl (by decide) (Go.Eng.encS ⟨rfl,rfl⟩ enc0) ?_
     intro d4 d5 b3 bg c4 S
     have aa:=At.mono aa bg (by simp)
     have b6:=MR.mono b6 bg
     have ⟨d,j,u,x,z⟩:=U5 bg d j u x z
     refine We ?_
     refine Cx [9] ⟨b3,(bf.trans bg),(S.pk [2,3,4,5,6,7,8,9,11])⟩ (all1 ?_)
     refine Nx 13 1023 rfl<|W.appM (α:=Str) (i:=1) S el45 rfl rfl rfl b6 c4 ba ?_
     intro cf c5 d6 cg S
     refine We ?_
     refine Ct 10 13 2047 rfl (fun _ _=>(R.nilCheckB rfl)) ?_
     refine Ct 11 13 4095 rfl (fun _ _=>(R.fieldB rfl zAm)) ?_
     refine Cx [12] ⟨b3,(bf.trans bg),(S.pk [2,3,4,5,6,7,8,9,11])⟩ (all1 ?_)
     refine Nx 13 8191 rfl ?_
     refine W.storeMR (α:=Str) (i:=10) [(int b.fBytes),(int b.fVariants),(int b.fTables),(int (wr (0+(wr (ac - ad))))),cf,(mapv k)] S cg rfl rfl rfl lay45 (Nat.le_of_ble_eq_true rfl) rfl ?_
     intro d7 S
     refine We<|WC.done ⟨b3,(bf.trans bg),(S.pk [2,3,4,5,6,7,8,9,11])⟩ kr ?_
     exact ⟨b3,(c5),cf,d,j,u,x,z,cg,d,j,((a5.trans bf).trans bg),(S.pk [1,2,3,4,5,6,7,8,9,10,11])⟩
    refine Nx 13 447 rfl<|W.bslice (α:=Str) [(str l)] ([l]:List Str) S el45 rfl rfl rfl (by decide) (Go.Eng.encS ⟨rfl,rfl⟩ enc0) ?_
    intro ch d8 ci bb b7 S
    have aa:=At.mono aa bb (by simp)
    have ax:=MR.mono ax bb
    have ⟨d,j,u,x,z⟩:=U5 bb d j u x z
    refine We ?_
    refine Cx [6] ⟨ci,bb,(S.pk [1,2,3,4,5,6,8,9,11])⟩ (all1 ?_)
    refine Nx 13 511 rfl ?_
    have S:=S.front 7 rfl
    replace S:St w0 H0 _ ci (a1 :: [.row ch 9 1 ([l]:List Str).length,.box an 62 [o,p],.box ao 108 [(int t.fKind),(int t.fIndex)],.box ap 62 [ae,af],.box aq 94 [(str c.1.fMethod),(str c.1.fTarget),(int c.1.fMinor),ah,(str c.1.fBody)],.box ar 56 [(str []),(str [])],.box au 56 [(str am),(str [])],.box av 56 [(str []),(str ak)],.box aw 54 [(str b.fName),(int b.fBytes),(int b.fVariants),(int b.fTables),(boo b.fStrict),(boo b.fRefuse),(ptr q 0),(int (wr (0+(if 1099511627776<5 then 1099511627776 else 5)))),(.pointer none)],.box q 136 [(int b.fBytes),(int b.fVariants),(int b.fTables),(int (wr (0+(wr (ac - ad))))),ay,(mapv k)],.mp k (encm (fun v=>v) [(al,(agg [o,p]))])]):=S
    refine W.callS rfl (zAB hG a2 (fun x0=>zAD x0 l) S ax (fun hle hw hG x0 r h=>zAE hw hG x0 l (At.mono aa hle (by simp)) h) a9) ?_
    rintro d9 ea bu eb bo S ⟨c6,rfl,c7⟩
    replace S:St w0 H0 _ bu [c6,.row ch 9 1 ([l]:List Str).length,.box an 62 [o,p],.box ao 108 [(int t.fKind),(int t.fIndex)],.box ap 62 [ae,af],.box aq 94 [(str c.1.fMethod),(str c.1.fTarget),(int c.1.fMinor),ah,(str c.1.fBody)],.box ar 56 [(str []),(str [])],.box au 56 [(str am),(str [])],.box av 56 [(str []),(str ak)],.box aw 54 [(str b.fName),(int b.fBytes),(int b.fVariants),(int b.fTables),(boo b.fStrict),(boo b.fRefuse),(ptr q 0),(int (wr (0+(if 1099511627776<5 then 1099511627776 else 5)))),(.pointer none)],.box q 136 [(int b.fBytes),(int b.fVariants),(int b.fTables),(int (wr (0+(wr (ac - ad))))),ay,(mapv k)],.mp k (encm (fun v=>v) [(al,(agg [o,p]))])]:=S
    have aa:=At.mono aa bo (by simp)
    have ⟨b7,d,j,u,x,z⟩:=U6 bo b7 d j u x z
    refine We ?_
    refine Cx [9] ⟨bu,(bb.trans bo),(S.pk [2,3,4,5,6,7,8,9,11])⟩ (all1 ?_)
    refine Nx 13 1023 rfl<|W.appM (α:=Str) (i:=0) S el45 rfl rfl rfl c7 b7 ba ?_
    intro cj c8 ec ck S
    refine We ?_
    refine Ct 10 13 2047 rfl (fun _ _=>(R.nilCheckB rfl)) ?_
    refine Ct 11 13 4095 rfl (fun _ _=>(R.fieldB rfl zAm)) ?_
    refine Cx [12] ⟨bu,(bb.trans bo),(S.pk [2,3,4,5,6,7,8,9,11])⟩ (all1 ?_)
    refine Nx 13 8191 rfl ?_
    refine W.storeMR (α:=Str) (i:=10) [(int b.fBytes),(int b.fVariants),(int b.fTables),(int (wr (0+(wr (ac - ad))))),cj,(mapv k)] S ck rfl rfl rfl lay45 (Nat.le_of_ble_eq_true rfl) rfl ?_
    intro ed S
    refine We<|WC.done ⟨bu,(bb.trans bo),(S.pk [2,3,4,5,6,7,8,9,11])⟩ kr ?_
    exact ⟨bu,(c8),cj,d,j,u,x,z,ck,d,j,((a5.trans bb).trans bo),(S.pk [0,2,3,4,5,6,7,8,9,10,11])⟩
   refine Nx 13 415 rfl<|W.bslice (α:=Str) [(str l)] ([l]:List Str) S el45 rfl rfl rfl (by decide) (Go.Eng.encS ⟨rfl,rfl⟩ enc0) ?_
   intro cl ee b8 a7 b9 S
   have aa:=At.mono aa a7 (by simp)
   have ax:=MR.mono ax a7
   have ⟨d,j,u,x,z⟩:=U5 a7 d j u x z
   refine We ?_
   refine Cx [5] ⟨b8,a7,(S.pk [1,2,3,4,5,6,8,9,11])⟩ (all1 ?_)
   refine Nx 13 447 rfl ?_
   refine WL.w (R.mkFunc (vs:=[(.pointer (some ⟨bn,0,none⟩))]) rfl)<|We ?_
   refine Cx [6] ⟨b8,a7,(S.pk [1,2,3,4,5,6,8,9,11])⟩ (all1 ?_)
   refine Nx 13 511 rfl ?_
   have S:=S.front 7 rfl
   replace S:St w0 H0 _ b8 (a1 :: [.row cl 9 1 ([l]:List Str).length,.box an 62 [o,p],.box ao 108 [(int t.fKind),(int t.fIndex)],.box ap 62 [ae,af],.box aq 94 [(str c.1.fMethod),(str c.1.fTarget),(int c.1.fMinor),ah,(str c.1.fBody)],.box ar 56 [(str []),(str [])],.box au 56 [(str am),(str [])],.box av 56 [(str []),(str ak)],.box aw 54 [(str b.fName),(int b.fBytes),(int b.fVariants),(int b.fTables),(boo b.fStrict),(boo b.fRefuse),(ptr q 0),(int (wr (0+(if 1099511627776<5 then 1099511627776 else 5)))),(.pointer none)],.box q 136 [(int b.fBytes),(int b.fVariants),(int b.fTables),(int (wr (0+(wr (ac - ad))))),ay,(mapv k)],.mp k (encm (fun v=>v) [(al,(agg [o,p]))])]):=S
   refine W.callS rfl (zAB hG a2 (fun x0=>zAD x0 l) S ax (fun hle hw hG x0 r h=>zAE hw hG x0 l (At.mono aa hle (by simp)) h) a9) ?_
   rintro ef eg bv eh bp S ⟨c9,rfl,da⟩
   replace S:St w0 H0 _ bv [c9,.row cl 9 1 ([l]:List Str).length,.box an 62 [o,p],.box ao 108 [(int t.fKind),(int t.fIndex)],.box ap 62 [ae,af],.box aq 94 [(str c.1.fMethod),(str c.1.fTarget),(int c.1.fMinor),ah,(str c.1.fBody)],.box ar 56 [(str []),(str [])],.box au 56 [(str am),(str [])],.box av 56 [(str []),(str ak)],.box aw 54 [(str b.fName),(int b.fBytes),(int b.fVariants),(int b.fTables),(boo b.fStrict),(boo b.fRefuse),(ptr q 0),(int (wr (0+(if 1099511627776<5 then 1099511627776 else 5)))),(.pointer none)],.box q 136 [(int b.fBytes),(int b.fVariants),(int b.fTables),(int (wr (0+(wr (ac - ad))))),ay,(mapv k)],.mp k (encm (fun v=>v) [(al,(agg [o,p]))])]:=S
   have aa:=At.mono aa bp (by simp)
   have ⟨b9,d,j,u,x,z⟩:=U6 bp b9 d j u x z
   refine We ?_
   refine Cx [9] ⟨bv,(a7.trans bp),(S.pk [2,3,4,5,6,7,8,9,11])⟩ (all1 ?_)
   refine Nx 13 1023 rfl<|W.appM (α:=Str) (i:=0) S el45 rfl rfl rfl da b9 ba ?_
   intro cm db ei cn S
   refine We ?_
   refine Ct 10 13 2047 rfl (fun _ _=>(R.nilCheckB rfl)) ?_
   refine Ct 11 13 4095 rfl (fun _ _=>(R.fieldB rfl zAm)) ?_
   refine Cx [12] ⟨bv,(a7.trans bp),(S.pk [2,3,4,5,6,7,8,9,11])⟩ (all1 ?_)
   refine Nx 13 8191 rfl ?_
   refine W.storeMR (α:=Str) (i:=10) [(int b.fBytes),(int b.fVariants),(int b.fTables),(int (wr (0+(wr (ac - ad))))),cm,(mapv k)] S cn rfl rfl rfl lay45 (Nat.le_of_ble_eq_true rfl) rfl ?_
   intro ej S
   refine We<|WC.done ⟨bv,(a7.trans bp),(S.pk [2,3,4,5,6,7,8,9,11])⟩ kr ?_
   exact ⟨bv,(db),cm,d,j,u,x,z,cn,d,j,((a5.trans a7).trans bp),(S.pk [0,2,3,4,5,6,7,8,9,10,11])⟩
  ·refine Nx 13 175 rfl ?_
   refine WL.w (R.mkFunc (vs:=[(.pointer (some ⟨bn,0,none⟩))]) rfl)<|We ?_
   refine Cx [4,8] ⟨a4,lr,(S.pk [0,1,2,3,4,5,7,8,10])⟩ (allS ?_ (all1 ?_))
   ·refine Nx 13 191 rfl ?_
    refine Lo 9 S<|We ?_
    refine Cx [6,8] ⟨a4,lr,(S.pk [0,1,2,3,4,5,7,8,10])⟩ (allS ?_ (all1 ?_))
    ·refine Nx 13 255 rfl ?_
     have S:=S.front 6 rfl
     replace S:St w0 H0 _ a4 (a1 :: [.box an 62 [o,p],.box ao 108 [(int t.fKind),(int t.fIndex)],.box ap 62 [ae,af],.box aq 94 [(str c.1.fMethod),(str c.1.fTarget),(int c.1.fMinor),ah,(str c.1.fBody)],.box ar 56 [(str []),(str [])],.box au 56 [(str am),(str [])],.box av 56 [(str []),(str ak)],.box aw 54 [(str b.fName),(int b.fBytes),(int b.fVariants),(int b.fTables),(boo b.fStrict),(boo b.fRefuse),(ptr q 0),(int (wr (0+(if 1099511627776<5 then 1099511627776 else 5)))),(.pointer none)],.box q 136 [(int b.fBytes),(int b.fVariants),(int b.fTables),(int (wr (0+(wr (ac - ad))))),ay,(mapv k)],.mp k (encm (fun v=>v) [(al,(agg [o,p]))])]):=S
     refine W.callS rfl (zAB hG a2 (fun x0=>zAD x0 l) S ax (fun hle hw hG x0 r h=>zAE hw hG x0 l (At.mono aa hle (by simp)) h) a9) ?_
     rintro ek el co em bh S ⟨dc,rfl,ca⟩
     replace S:St w0 H0 _ co [dc,.box an 62 [o,p],.box ao 108 [(int t.fKind),(int t.fIndex)],.box ap 62 [ae,af],.box aq 94 [(str c.1.fMethod),(str c.1.fTarget),(int c.1.fMinor),ah,(str c.1.fBody)],.box ar 56 [(str []),(str [])],.box au 56 [(str am),(str [])],.box av 56 [(str []),(str ak)],.box aw 54 [(str b.fName),(int b.fBytes),(int b.fVariants),(int b.fTables),(boo b.fStrict),(boo b.fRefuse),(ptr q 0),(int (wr (0+(if 1099511627776<5 then 1099511627776 else 5)))),(.pointer none)],.box q 136 [(int b.fBytes),(int b.fVariants),(int b.fTables),(int (wr (0+(wr (ac - ad))))),ay,(mapv k)],.mp k (encm (fun v=>v) [(al,(agg [o,p]))])]:=S
     have aa:=At.mono aa bh (by simp)
     have ⟨d,j,u,x,z⟩:=U5 bh d j u x z
     refine We ?_
     refine Cx [8] ⟨co,bh,(S.pk [1,2,3,4,5,6,7,8,10])⟩ (all1 ?_)
     refine Nx 13 511 rfl<|W.bslice (α:=Str) [(str l)] ([l]:List Str) S el45 rfl rfl rfl (by decide) (Go.Eng.encS ⟨rfl,rfl⟩ enc0) ?_
     intro en eo b4 bi dd S
     have aa:=At.mono aa bi (by simp)
     have ca:=MR.mono ca bi
     have ⟨d,j,u,x,z⟩:=U5 bi d j u x z
     refine We ?_
     refine Cx [9] ⟨b4,(bh.trans bi),(S.pk [2,3,4,5,6,7,8,9,11])⟩ (all1 ?_)
     refine Nx 13 1023 rfl<|W.appM (α:=Str) (i:=1) S el45 rfl rfl rfl ca dd ba ?_
     intro cp de ep cq S
     refine We ?_
     refine Ct 10 13 2047 rfl (fun _ _=>(R.nilCheckB rfl)) ?_
     refine Ct 11 13 4095 rfl (fun _ _=>(R.fieldB rfl zAm)) ?_
     refine Cx [12] ⟨b4,(bh.trans bi),(S.pk [2,3,4,5,6,7,8,9,11])⟩ (all1 ?_)
     refine Nx 13 8191 rfl ?_
     refine W.storeMR (α:=Str) (i:=10) [(int b.fBytes),(int b.fVariants),(int b.fTables),(int (wr (0+(wr (ac - ad))))),cp,(mapv k)] S cq rfl rfl rfl lay45 (Nat.le_of_ble_eq_true rfl) rfl ?_
     intro eq S
     refine We<|WC.done ⟨b4,(bh.trans bi),(S.pk [2,3,4,5,6,7,8,9,11])⟩ kr ?_
     exact ⟨b4,(de),cp,d,j,u,x,z,cq,d,j,((a5.trans bh).trans bi),(S.pk [1,2,3,4,5,6,7,8,9,10,11])⟩
    refine Nx 13 447 rfl<|W.bslice (α:=Str) [(str l)] ([l]:List Str) S el45 rfl rfl rfl (by decide) (Go.Eng.encS ⟨rfl,rfl⟩ enc0) ?_
    intro cr er cs bc cb S
    have aa:=At.mono aa bc (by simp)
    have ax:=MR.mono ax bc
    have ⟨d,j,u,x,z⟩:=U5 bc d j u x z
    refine We ?_
    refine Cx [6] ⟨cs,bc,(S.pk [1,2,3,4,5,6,8,9,11])⟩ (all1 ?_)
    refine Nx 13 511 rfl ?_
    have S:=S.front 7 rfl
    replace S:St w0 H0 _ cs (a1 :: [.row cr 9 1 ([l]:List Str).length,.box an 62 [o,p],.box ao 108 [(int t.fKind),(int t.fIndex)],.box ap 62 [ae,af],.box aq 94 [(str c.1.fMethod),(str c.1.fTarget),(int c.1.fMinor),ah,(str c.1.fBody)],.box ar 56 [(str []),(str [])],.box au 56 [(str am),(str [])],.box av 56 [(str []),(str ak)],.box aw 54 [(str b.fName),(int b.fBytes),(int b.fVariants),(int b.fTables),(boo b.fStrict),(boo b.fRefuse),(ptr q 0),(int (wr (0+(if 1099511627776<5 then 1099511627776 else 5)))),(.pointer none)],.box q 136 [(int b.fBytes),(int b.fVariants),(int b.fTables),(int (wr (0+(wr (ac - ad))))),ay,(mapv k)],.mp k (encm (fun v=>v) [(al,(agg [o,p]))])]):=S
    refine W.callS rfl (zAB hG a2 (fun x0=>zAD x0 l) S ax (fun hle hw hG x0 r h=>zAE hw hG x0 l (At.mono aa hle (by simp)) h) a9) ?_
    rintro es et bw eu bq S ⟨df,rfl,dg⟩
    replace S:St w0 H0 _ bw [df,.row cr 9 1 ([l]:List Str).length,.box an 62 [o,p],.box ao 108 [(int t.fKind),(int t.fIndex)],.box ap 62 [ae,af],.box aq 94 [(str c.1.fMethod),(str c.1.fTarget),(int c.1.fMinor),ah,(str c.1.fBody)],.box ar 56 [(str []),(str [])],.box au 56 [(str am),(str [])],.box av 56 [(str []),(str ak)],.box aw 54 [(str b.fName),(int b.fBytes),(int b.fVariants),(int b.fTables),(boo b.fStrict),(boo b.fRefuse),(ptr q 0),(int (wr (0+(if 1099511627776<5 then 1099511627776 else 5)))),(.pointer none)],.box q 136 [(int b.fBytes),(int b.fVariants),(int b.fTables),(int (wr (0+(wr (ac - ad))))),ay,(mapv k)],.mp k (encm (fun v=>v) [(al,(agg [o,p]))])]:=S
    have aa:=At.mono aa bq (by simp)
    have ⟨cb,d,j,u,x,z⟩:=U6 bq cb d j u x z
    refine We ?_
    refine Cx [9] ⟨bw,(bc.trans bq),(S.pk [2,3,4,5,6,7,8,9,11])⟩ (all1 ?_)
    refine Nx 13 1023 rfl<|W.appM (α:=Str) (i:=0) S el45 rfl rfl rfl dg cb ba ?_
    intro ct dh ew cu S
    refine We ?_
    refine Ct 10 13 2047 rfl (fun _ _=>(R.nilCheckB rfl)) ?_
    refine Ct 11 13 4095 rfl (fun _ _=>(R.fieldB rfl zAm)) ?_
    refine Cx [12] ⟨bw,(bc.trans bq),(S.pk [2,3,4,5,6,7,8,9,11])⟩ (all1 ?_)
    refine Nx 13 8191 rfl ?_
    refine W.storeMR (α:=Str) (i:=10) [(int b.fBytes),(int b.fVariants),(int b.fTables),(int (wr (0+(wr (ac - ad))))),ct,(mapv k)] S cu rfl rfl rfl lay45 (Nat.le_of_ble_eq_true rfl) rfl ?_
    intro ex S
    refine We<|WC.done ⟨bw,(bc.trans bq),(S.pk [2,3,4,5,6,7,8,9,11])⟩ kr ?_
    exact ⟨bw,(dh),ct,d,j,u,x,z,cu,d,j,((a5.trans bc).trans bq),(S.pk [0,2,3,4,5,6,7,8,9,10,11])⟩
   refine Nx 13 431 rfl<|W.bslice (α:=Str) [(str l)] ([l]:List Str) S el45 rfl rfl rfl (by decide) (Go.Eng.encS ⟨rfl,rfl⟩ enc0) ?_
   intro cv ey cc a8 cd S
   have aa:=At.mono aa a8 (by simp)
   have ⟨d,j,u,x,z⟩:=U5 a8 d j u x z
   have ax:=MR.mono ax a8
   refine We ?_
   refine Cx [4] ⟨cc,a8,(S.pk [1,2,3,4,5,6,8,9,11])⟩ (all1 ?_)
   refine Nx 13 447 rfl ?_
   refine Lo 10 S<|We ?_
   refine Cx [6] ⟨cc,a8,(S.pk [1,2,3,4,5,6,8,9,11])⟩ (all1 ?_)
   refine Nx 13 511 rfl ?_
   have S:=S.front 7 rfl
   replace S:St w0 H0 _ cc (a1 :: [.row cv 9 1 ([l]:List Str).length,.box an 62 [o,p],.box ao 108 [(int t.fKind),(int t.fIndex)],.box ap 62 [ae,af],.box aq 94 [(str c.1.fMethod),(str c.1.fTarget),(int c.1.fMinor),ah,(str c.1.fBody)],.box ar 56 [(str []),(str [])],.box au 56 [(str am),(str [])],.box av 56 [(str []),(str ak)],.box aw 54 [(str b.fName),(int b.fBytes),(int b.fVariants),(int b.fTables),(boo b.fStrict),(boo b.fRefuse),(ptr q 0),(int (wr (0+(if 1099511627776<5 then 1099511627776 else 5)))),(.pointer none)],.box q 136 [(int b.fBytes),(int b.fVariants),(int b.fTables),(int (wr (0+(wr (ac - ad))))),ay,(mapv k)],.mp k (encm (fun v=>v) [(al,(agg [o,p]))])]):=S
   refine W.callS rfl (zAB hG a2 (fun x0=>zAD x0 l) S ax (fun hle hw hG x0 r h=>zAE hw hG x0 l (At.mono aa hle (by simp)) h) a9) ?_
   rintro ez e0 bx e1 br S ⟨di,rfl,dj⟩
   replace S:St w0 H0 _ bx [di,.row cv 9 1 ([l]:List Str).length,.box an 62 [o,p],.box ao 108 [(int t.fKind),(int t.fIndex)],.box ap 62 [ae,af],.box aq 94 [(str c.1.fMethod),(str c.1.fTarget),(int c.1.fMinor),ah,(str c.1.fBody)],.box ar 56 [(str []),(str [])],.box au 56 [(str am),(str [])],.box av 56 [(str []),(str ak)],.box aw 54 [(str b.fName),(int b.fBytes),(int b.fVariants),(int b.fTables),(boo b.fStrict),(boo b.fRefuse),(ptr q 0),(int (wr (0+(if 1099511627776<5 then 1099511627776 else 5)))),(.pointer none)],.box q 136 [(int b.fBytes),(int b.fVariants),(int b.fTables),(int (wr (0+(wr (ac - ad))))),ay,(mapv k)],.mp k (encm (fun v=>v) [(al,(agg [o,p]))])]:=S
   have aa:=At.mono aa br (by simp)
   have ⟨cd,d,j,u,x,z⟩:=U6 br cd d j u x z
   refine We ?_
   refine Cx [9] ⟨bx,(a8.trans br),(S.pk [2,3,4,5,6,7,8,9,11])⟩ (all1 ?_)
   refine Nx 13 1023 rfl<|W.appM (α:=Str) (i:=0) S el45 rfl rfl rfl dj cd ba ?_
   intro cw dk e2 cx S
   refine We ?_
   refine Ct 10 13 2047 rfl (fun _ _=>(R.nilCheckB rfl)) ?_
   refine Ct 11 13 4095 rfl (fun _ _=>(R.fieldB rfl zAm)) ?_
   refine Cx [12] ⟨bx,(a8.trans br),(S.pk [2,3,4,5,6,7,8,9,11])⟩ (all1 ?_)
   refine Nx 13 8191 rfl ?_
   refine W.storeMR (α:=Str) (i:=10) [(int b.fBytes),(int b.fVariants),(int b.fTables),(int (wr (0+(wr (ac - ad))))),cw,(mapv k)] S cx rfl rfl rfl lay45 (Nat.le_of_ble_eq_true rfl) rfl ?_
   intro e3 S
   refine We<|WC.done ⟨bx,(a8.trans br),(S.pk [2,3,4,5,6,7,8,9,11])⟩ kr ?_
   exact ⟨bx,(dk),cw,d,j,u,x,z,cx,d,j,((a5.trans a8).trans br),(S.pk [0,2,3,4,5,6,7,8,9,10,11])⟩
  refine Nx 13 399 rfl<|W.bslice (α:=Str) [(str l)] ([l]:List Str) S el45 rfl rfl rfl (by decide) (Go.Eng.encS ⟨rfl,rfl⟩ enc0) ?_
  intro b5 e4 bj az bs S
  have aa:=At.mono aa az (by simp)
  have ⟨d,j,u,x,z⟩:=U5 az d j u x z
  have ax:=MR.mono ax az
  refine We ?_
  refine Cx [4,5] ⟨bj,az,(S.pk [1,2,3,4,5,6,8,9,11])⟩ (allS ?_ (all1 ?_))
  ·refine Nx 13 415 rfl ?_
   refine Lo 10 S<|We ?_
   refine Cx [5] ⟨bj,az,(S.pk [1,2,3,4,5,6,8,9,11])⟩ (all1 ?_)
   refine Nx 13 447 rfl ?_
   refine WL.w (R.mkFunc (vs:=[(.pointer (some ⟨bn,0,none⟩))]) rfl)<|We ?_
   refine Cx [6] ⟨bj,az,(S.pk [1,2,3,4,5,6,8,9,11])⟩ (all1 ?_)
   refine Nx 13 511 rfl ?_
   have S:=S.front 7 rfl
   replace S:St w0 H0 _ bj (a1 :: [.row b5 9 1 ([l]:List Str).length,.box an 62 [o,p],.box ao 108 [(int t.fKind),(int t.fIndex)],.box ap 62 [ae,af],.box aq 94 [(str c.1.fMethod),(str c.1.fTarget),(int c.1.fMinor),ah,(str c.1.fBody)],.box ar 56 [(str []),(str [])],.box au 56 [(str am),(str [])],.box av 56 [(str []),(str ak)],.box aw 54 [(str b.fName),(int b.fBytes),(int b.fVariants),(int b.fTables),(boo b.fStrict),(boo b.fRefuse),(ptr q 0),(int (wr (0+(if 1099511627776<5 then 1099511627776 else 5)))),(.pointer none)],.box q 136 [(int b.fBytes),(int b.fVariants),(int b.fTables),(int (wr (0+(wr (ac - ad))))),ay,(mapv k)],.mp k (encm (fun v=>v) [(al,(agg [o,p]))])]):=S
   refine W.callS rfl (zAB hG a2 (fun x0=>zAD x0 l) S ax (fun hle hw hG x0 r h=>zAE hw hG x0 l (At.mono aa hle (by simp)) h) a9) ?_
   rintro e5 e6 bz e7 bt S ⟨dl,rfl,dm⟩
   replace S:St w0 H0 _ bz [dl,.row b5 9 1 ([l]:List Str).length,.box an 62 [o,p],.box ao 108 [(int t.fKind),(int t.fIndex)],.box ap 62 [ae,af],.box aq 94 [(str c.1.fMethod),(str c.1.fTarget),(int c.1.fMinor),ah,(str c.1.fBody)],.box ar 56 [(str []),(str [])],.box au 56 [(str am),(str [])],.box av 56 [(str []),(str ak)],.box aw 54 [(str b.fName),(int b.fBytes),(int b.fVariants),(int b.fTables),(boo b.fStrict),(boo b.fRefuse),(ptr q 0),(int (wr (0+(if 1099511627776<5 then 1099511627776 else 5)))),(.pointer none)],.box q 136 [(int b.fBytes),(int b.fVariants),(int b.fTables),(int (wr (0+(wr (ac - ad))))),ay,(mapv k)],.mp k (encm (fun v=>v) [(al,(agg [o,p]))])]:=S
   have aa:=At.mono aa bt (by simp)
   have ⟨bs,d,j,u,x,z⟩:=U6 bt bs d j u x z
   refine We ?_
   refine Cx [9] ⟨bz,(az.trans bt),(S.pk [2,3,4,5,6,7,8,9,11])⟩ (all1 ?_)
   refine Nx 13 1023 rfl<|W.appM (α:=Str) (i:=0) S el45 rfl rfl rfl dm bs ba ?_
   intro cy dn e8 cz S
   refine We ?_
   refine Ct 10 13 2047 rfl (fun _ _=>(R.nilCheckB rfl)) ?_
   refine Ct 11 13 4095 rfl (fun _ _=>(R.fieldB rfl zAm)) ?_
   refine Cx [12] ⟨bz,(az.trans bt),(S.pk [2,3,4,5,6,7,8,9,11])⟩ (all1 ?_)
   refine Nx 13 8191 rfl ?_
   refine W.storeMR (α:=Str) (i:=10) [(int b.fBytes),(int b.fVariants),(int b.fTables),(int (wr (0+(wr (ac - ad))))),cy,(mapv k)] S cz rfl rfl rfl lay45 (Nat.le_of_ble_eq_true rfl) rfl ?_
   intro e9 S
   refine We<|WC.done ⟨bz,(az.trans bt),(S.pk [2,3,4,5,6,7,8,9,11])⟩ kr ?_
   exact ⟨bz,(dn),cy,d,j,u,x,z,cz,d,j,((a5.trans az).trans bt),(S.pk [0,2,3,4,5,6,7,8,9,10,11])⟩
  refine Nx 13 431 rfl ?_
  refine WL.w (R.mkFunc (vs:=[(.pointer (some ⟨bn,0,none⟩))]) rfl)<|We ?_
  refine Cx [4] ⟨bj,az,(S.pk [1,2,3,4,5,6,8,9,11])⟩ (all1 ?_)
  refine Nx 13 447 rfl ?_
  refine Lo 10 S<|We ?_
  refine Cx [6] ⟨bj,az,(S.pk [1,2,3,4,5,6,8,9,11])⟩ (all1 ?_)
  refine Nx 13 511 rfl ?_
  have S:=S.front 7 rfl
  replace S:St w0 H0 _ bj (a1 :: [.row b5 9 1 ([l]:List Str).length,.box an 62 [o,p],.box ao 108 [(int t.fKind),(int t.fIndex)],.box ap 62 [ae,af],.box aq 94 [(str c.1.fMethod),(str c.1.fTarget),(int c.1.fMinor),ah,(str c.1.fBody)],.box ar 56 [(str []),(str [])],.box au 56 [(str am),(str [])],.box av 56 [(str []),(str ak)],.box aw 54 [(str b.fName),(int b.fBytes),(int b.fVariants),(int b.fTables),(boo b.fStrict),(boo b.fRefuse),(ptr q 0),(int (wr (0+(if 1099511627776<5 then 1099511627776 else 5)))),(.pointer none)],.box q 136 [(int b.fBytes),(int b.fVariants),(int b.fTables),(int (wr (0+(wr (ac - ad))))),ay,(mapv k)],.mp k (encm (fun v=>v) [(al,(agg [o,p]))])]):=S
  refine W.callS rfl (zAB hG a2 (fun x0=>zAD x0 l) S ax (fun hle hw hG x0 r h=>zAE hw hG x0 l (At.mono aa hle (by simp)) h) a9) ?_
  rintro fa fb b0 fc b1 S ⟨dp,rfl,dq⟩
  replace S:St w0 H0 _ b0 [dp,.row b5 9 1 ([l]:List Str).length,.box an 62 [o,p],.box ao 108 [(int t.fKind),(int t.fIndex)],.box ap 62 [ae,af],.box aq 94 [(str c.1.fMethod),(str c.1.fTarget),(int c.1.fMinor),ah,(str c.1.fBody)],.box ar 56 [(str []),(str [])],.box au 56 [(str am),(str [])],.box av 56 [(str []),(str ak)],.box aw 54 [(str b.fName),(int b.fBytes),(int b.fVariants),(int b.fTables),(boo b.fStrict),(boo b.fRefuse),(ptr q 0),(int (wr (0+(if 1099511627776<5 then 1099511627776 else 5)))),(.pointer none)],.box q 136 [(int b.fBytes),(int b.fVariants),(int b.fTables),(int (wr (0+(wr (ac - ad))))),ay,(mapv k)],.mp k (encm (fun v=>v) [(al,(agg [o,p]))])]:=S
  have ⟨bs,d,j,u,x,z⟩:=U6 b1 bs d j u x z
  refine We ?_
  refine Cx [9] ⟨b0,(az.trans b1),(S.pk [2,3,4,5,6,7,8,9,11])⟩ (all1 ?_)
  refine Nx 13 1023 rfl<|W.appM (α:=Str) (i:=0) S el45 rfl rfl rfl dq bs ba ?_
  intro c0 dr fd c1 S
  refine We ?_
  refine Ct 10 13 2047 rfl (fun _ _=>(R.nilCheckB rfl)) ?_
  refine Ct 11 13 4095 rfl (fun _ _=>(R.fieldB rfl zAm)) ?_
  refine Cx [12] ⟨b0,(az.trans b1),(S.pk [2,3,4,5,6,7,8,9,11])⟩ (all1 ?_)
  refine Nx 13 8191 rfl ?_
  refine W.storeMR (α:=Str) (i:=10) [(int b.fBytes),(int b.fVariants),(int b.fTables),(int (wr (0+(wr (ac - ad))))),c0,(mapv k)] S c1 rfl rfl rfl lay45 (Nat.le_of_ble_eq_true rfl) rfl ?_
  intro fe S
  refine We<|WC.done ⟨b0,(az.trans b1),(S.pk [2,3,4,5,6,7,8,9,11])⟩ kr ?_
  exact ⟨b0,(dr),c0,d,j,u,x,z,c1,d,j,((a5.trans az).trans b1),(S.pk [0,2,3,4,5,6,7,8,9,10,11])⟩
 rintro f w ⟨a0,bd,be,ds,dt,du,dv,dw,dx,d,j,dy,S⟩
 refine In.zeroN rfl  ?_
 obtain rfl:=oi h
 exact hK bd be a0 dy ds dt du dv dw dx d j _ S
theorem zEz {t:World} {H0:Hp} (hw:Holds t H0) (hG:Tryz.Gl t) {c:GConfig} {af:Str} {ac:Str} {ah:Str} {ai:Int} {aj:Int} {a3:(List Str)} {ak:GTable} {d:(GRequest×GURI×Unit)} {av:Str} {al:GTable} {j:GDecision} {f:Nat} {a5:Nat} {r:Value} {am:Nat} {an:Nat} {u:Value} {x:Value} {a6:Nat} {ao:Nat} {ap:Nat} {aq:Nat} {aw:Ent} {ar:Nat} {au:Nat} {ax:Value} {k:Nat} {o:Value} {p:Value} {q:Hp} {w:World} (S:St t H0 w q [.box a5 111 [(str d.1.fMethod),(str d.1.fTarget),(int d.1.fMinor),r,(str d.1.fBody),(str d.2.1.fHost),(int d.2.1.fPort),(str d.2.1.fPath),(str d.2.1.fQuery),(boo d.2.1.fHasQuery),(str av),(int (wr (0+(if 1099511627776<5 then 1099511627776 else 5)))),(boo false),(int 0),(.slice none 0 0),(.slice none 0 0),(.slice none 0 0),(str []),(.slice none 0 0),(str []),(int 0),(int 0)],.box am 108 [(int j.fKind),(int j.fIndex)],.box an 62 [u,x],.box a6 96 [(str d.2.1.fHost),(int d.2.1.fPort),(str d.2.1.fPath),(str d.2.1.fQuery),(boo d.2.1.fHasQuery)],.box ao 94 [(str d.1.fMethod),(str d.1.fTarget),(int d.1.fMinor),r,(str d.1.fBody)],.box ap 56 [(str []),(str [])],.box aq 56 [(str ah),(str [])],aw,.box ar 56 [(str []),(str af)],.box au 54 [(str c.fName),(int c.fBytes),(int c.fVariants),(int c.fTables),(boo c.fStrict),(boo c.fRefuse),(ptr f 0),(int (wr (0+(if 1099511627776<5 then 1099511627776 else 5)))),(.pointer none)],.box f 136 [(int c.fBytes),(int c.fVariants),(int c.fTables),(int (wr (0+(wr (ai - aj))))),ax,(mapv k)],.mp k (encm (fun v=>v) [(ac,(agg [o,p]))])]) (ay:Sl q r d.1.fFields) (az:Sl q u al.fAxes) (a0:Sl q x al.fEntries) (a1:MR (α:=Str) q aw 9 ax a3) (z:Sl q o ak.fAxes) (aa:Sl q p ak.fEntries) {a2:(List Str)} (h:zCU ac a3 av=some a2) {K:Value→World→Prop}
  (hK:∀ (ad:Ent) (ae:Value) (Hz:Hp),q.le Hz→Sl Hz u al.fAxes→Sl Hz x al.fEntries→Sl Hz r d.1.fFields→MR (α:=Str) Hz ad 9 ae a2→Sl Hz o ak.fAxes→Sl Hz p ak.fEntries→∀ w',St t H0 w' Hz [ad,.box am 108 [(int j.fKind),(int j.fIndex)],.box an 62 [u,x],.box ao 94 [(str d.1.fMethod),(str d.1.fTarget),(int d.1.fMinor),r,(str d.1.fBody)],.box ap 56 [(str []),(str [])],.box aq 56 [(str ah),(str [])],.box ar 56 [(str []),(str af)],.box au 54 [(str c.fName),(int c.fBytes),(int c.fVariants),(int c.fTables),(boo c.fStrict),(boo c.fRefuse),(ptr f 0),(int (wr (0+(if 1099511627776<5 then 1099511627776 else 5)))),(.pointer none)],.box f 136 [(int c.fBytes),(int c.fVariants),(int c.fTables),(int (wr (0+(wr (ai - aj))))),ae,(mapv k)],.mp k (encm (fun v=>v) [(ac,(agg [o,p]))])]→K (boo true) w') :
  CallK Tryz.prog 53 [(ptr f 0),(str av)] w K:=by
 unfold zCU at h
 refine zAi (N':=18) Tryz.func53 rfl rfl kr rfl<|Ws<|Wg<|A<|We<|Ws<|Ws<|Wg<|M<|M<|B h fun _ a7 h=>callK rfl (zE9 hw (hG) S ay az a0 a1 z aa a7 ?_)
 intro bg bh a8 a9 z aa az a0 ay a1 bi S
 replace S:St t H0 _ a8 [.box am 108 [(int j.fKind),(int j.fIndex)],.box an 62 [u,x],.box ao 94 [(str d.1.fMethod),(str d.1.fTarget),(int d.1.fMinor),r,(str d.1.fBody)],.box ap 56 [(str []),(str [])],.box aq 56 [(str ah),(str [])],aw,.box ar 56 [(str []),(str af)],.box au 54 [(str c.fName),(int c.fBytes),(int c.fVariants),(int c.fTables),(boo c.fStrict),(boo c.fRefuse),(ptr f 0),(int (wr (0+(if 1099511627776<5 then 1099511627776 else 5)))),(.pointer none)],.box f 136 [(int c.fBytes),(int c.fVariants),(int c.fTables),(int (wr (0+(wr (ai - aj))))),ax,(mapv k)],.mp k (encm (fun v=>v) [(ac,(agg [o,p]))])]:=(S.pk [2,3,4,5,6,7,8,9,10,11])
 refine M ?_
 refine Ex ?_
 refine Ex ?_
 refine W.alloc [(.slice none 0 0),(.slice none 0 0)] S zer62 ?_
 intro bj bk S
 refine W.store (i:=0) [o,p] S rfl rfl rfl lay62 rfl (AllOne.all (l:=[o,p]) (.cons (Sl.oneC z) (.cons (Sl.oneC aa) .nil))) (Nat.le_of_ble_eq_true rfl) rfl ?_
 intro bn S
 refine A<|We<|Ws<|Wg<|M ?_
 refine WL.w (v:=boo false) (R.ofEq (R.not rfl) rfl)<|We<|WP.condF (b:=false) rfl rfl<|Wk<|Ws<|Wg<|M ?_
 refine M<|B h fun a2 ba h=>callK rfl (zFM hw (hG) S z aa az a0 ay a1 ba ?_)
 intro ad ae a4 bb bo bp bc bd be bf z aa bq S
 replace S:St t H0 _ a4 [ad,.box am 108 [(int j.fKind),(int j.fIndex)],.box an 62 [u,x],.box ao 94 [(str d.1.fMethod),(str d.1.fTarget),(int d.1.fMinor),r,(str d.1.fBody)],.box ap 56 [(str []),(str [])],.box aq 56 [(str ah),(str [])],.box ar 56 [(str []),(str af)],.box au 54 [(str c.fName),(int c.fBytes),(int c.fVariants),(int c.fTables),(boo c.fStrict),(boo c.fRefuse),(ptr f 0),(int (wr (0+(if 1099511627776<5 then 1099511627776 else 5)))),(.pointer none)],.box f 136 [(int c.fBytes),(int c.fVariants),(int c.fTables),(int (wr (0+(wr (ai - aj))))),ae,(mapv k)],.mp k (encm (fun v=>v) [(ac,(agg [o,p]))])]:=(S.pk [0,2,3,4,5,6,7,8,9,10])
 refine We<|Ws<|Wg<|A<|We ?_
 refine WP.ret (In.one rfl rfl ?_)
 obtain rfl:=oi h
 exact hK ad ae a4 (a9.trans bb) bc bd be bf z aa _ S
end Go.Proofs
