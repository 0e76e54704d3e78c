/- A part of the proof of laws of the seat: written by program over the translation. -/
import Derived.Test.YtljjaiijlaeoeaaGreatDoorEng38
import Derived.Test.YtljjaiijlaeoeaaGreatDoorEng36
import Derived.Test.YtljjaiijlaeoeaaGreatDoorGenP15
namespace Go.Proofs
set_option maxHeartbeats 4000000
set_option maxRecDepth 10000
open Go.Eng Go.Eng.Pure
set_option linter.unusedVariables false
theorem zHv {x:World} {z:Hp} (hw:Holds x z) (hG:Tryz.Gl x) {b:GConfig} {aa:Str} {c:Str} {ak:GTable} {t:Int} {u:Int} {l:Nat} {ab:Nat} {j:Value} {k:Value} {ac:Nat} {ad:Nat} {ae:Nat} {af:Nat} {d:Nat} {bk:Hp} {w:World} (S:St x z w bk [.box ab 62 [j,k],.box ac 56 [(str []),(str [])],.box ad 56 [(str []),(str [])],.box ae 56 [(str []),(str aa)],.box af 54 [(str b.fName),(int b.fBytes),(int b.fVariants),(int b.fTables),(boo b.fStrict),(boo b.fRefuse),(ptr l 0),(int 0),(.pointer none)],.box l 136 [(int b.fBytes),(int b.fVariants),(int b.fTables),(int (wr (0+(wr (t - u))))),(.slice none 0 0),(mapv d)],.mp d (encm (fun v=>v) [(c,(agg [j,k]))])]) (p:Sl (α:=GAxis) bk j ak.fAxes) (q:Sl (α:=GEntry) bk k ak.fEntries) {bn:(List Str)} (h:zCN c=some bn) {K:Value→World→Prop}
  (hK:∀ (a5:Ent) (a6:Value) (Hz:Hp),bk.le Hz→Sl (α:=GAxis) Hz j ak.fAxes→Sl (α:=GEntry) Hz k ak.fEntries→MR (α:=Str) Hz a5 9 a6 bn→Sl (α:=GAxis) Hz j ak.fAxes→Sl (α:=GEntry) Hz k ak.fEntries→∀ w',St x z w' Hz [a5,.box ab 62 [j,k],.box ac 56 [(str []),(str [])],.box ad 56 [(str []),(str [])],.box ae 56 [(str []),(str aa)],.box af 54 [(str b.fName),(int b.fBytes),(int b.fVariants),(int b.fTables),(boo b.fStrict),(boo b.fRefuse),(ptr l 0),(int 0),(.pointer none)],.box l 136 [(int b.fBytes),(int b.fVariants),(int b.fTables),(int (wr (0+(wr (t - u))))),a6,(mapv d)],.mp d (encm (fun v=>v) [(c,(agg [j,k]))])]→K (.tuple ⟨[]⟩) w') :
  CallK Tryz.prog 98 [(ptr l 0),(str c)] w K:=by
 unfold zCN at h
 refine zBB (N':=16) Tryz.func98 rfl rfl kr rfl<|Ws<|Wg ?_
 refine W.box [(str c)] S rfl rfl ?_
 intro bf dg S
 refine We ?_
 obtain ⟨al,am,ct,_,S⟩:=S.settle (i:=0) rfl
 replace S:St x z _ al [.box ab 62 [j,k],.box ac 56 [(str []),(str [])],.box ad 56 [(str []),(str [])],.box ae 56 [(str []),(str aa)],.box af 54 [(str b.fName),(int b.fBytes),(int b.fVariants),(int b.fTables),(boo b.fStrict),(boo b.fRefuse),(ptr l 0),(int 0),(.pointer none)],.box l 136 [(int b.fBytes),(int b.fVariants),(int b.fTables),(int (wr (0+(wr (t - u))))),(.slice none 0 0),(mapv d)],.mp d (encm (fun v=>v) [(c,(agg [j,k]))])]:=S
 have ah:At al ⟨bf,0,none⟩ [(str c)]:=⟨_,_,rfl,ct,[],by simp⟩
 have p:=Sl.mono p am
 have q:=Sl.mono q am
 refine B h fun dh aq h=>B h fun bn ar h=>WP.cut (fun f w=>∃ (an:Hp) (a5:Ent) (a6:Value),Sl (α:=GAxis) an j ak.fAxes∧Sl (α:=GEntry) an k ak.fEntries∧MR (α:=Str) an a5 9 a6 bn∧Sl (α:=GAxis) an j ak.fAxes∧Sl (α:=GEntry) an k ak.fEntries∧Hp.le bk an∧St x z w an [a5,.box ab 62 [j,k],.box ac 56 [(str []),(str [])],.box ad 56 [(str []),(str [])],.box ae 56 [(str []),(str aa)],.box af 54 [(str b.fName),(int b.fBytes),(int b.fVariants),(int b.fTables),(boo b.fStrict),(boo b.fRefuse),(ptr l 0),(int 0),(.pointer none)],.box l 136 [(int b.fBytes),(int b.fVariants),(int b.fTables),(int (wr (0+(wr (t - u))))),a6,(mapv d)],.mp d (encm (fun v=>v) [(c,(agg [j,k]))])]) ?_ ?_
 ·refine WP.drawC (Cl x z al [.box ab 62 [j,k],.box ac 56 [(str []),(str [])],.box ad 56 [(str []),(str [])],.box ae 56 [(str []),(str aa)],.box af 54 [(str b.fName),(int b.fBytes),(int b.fVariants),(int b.fTables),(boo b.fStrict),(boo b.fRefuse),(ptr l 0),(int 0),(.pointer none)],.mp d (encm (fun v=>v) [(c,(agg [j,k]))])]) kr 13 rfl (bm 13 0) rfl ?_
  have S:=S.drew
  refine WC.take (i:=0) (bm 13 1) rfl kr kr kr rfl (fun _ _=>(R.mv (v:=ptr l 0) rfl)) ?_
  refine WC.take (i:=1) (bm 13 3) rfl kr kr kr rfl (fun _ _=>(R.mv (v:=ptr l 0) rfl)) ?_
  refine WC.take (i:=2) (bm 13 7) rfl kr kr kr rfl (fun _ _=>(R.nilCheckB rfl)) ?_
  refine WC.take (i:=3) (bm 13 15) rfl kr kr kr rfl (fun _ _=>(R.fieldB rfl zBH)) ?_
  refine WC.take (i:=7) (bm 13 143) rfl kr kr kr rfl (fun w hw=>by obtain ⟨_,hq,S⟩:=hw; exact (R.loadH (v:=str c) S rfl (At.mono ah hq (by simp)) lay9 rfl)) ?_
  refine WC.next (rs:=[4,5,8]) ⟨al,(Hp.le.refl _),S.drop _ (.cons_cons _ (.cons_cons _ (.cons_cons _ (.cons_cons _ (.cons_cons _ (.cons _ (.cons_cons _ .slnil)))))))⟩ kr (List.cons_ne_nil _ _) (allS ?_ (allS ?_ (all1 ?_)))
  ·refine Nxt.mk (o:=_) (bm 13 159) rfl rfl ?_
   refine Lo 5 S<|We ?_
   refine WC.next (rs:=[5,8]) ⟨al,(Hp.le.refl _),S.drop _ (.cons_cons _ (.cons_cons _ (.cons_cons _ (.cons_cons _ (.cons_cons _ (.cons _ (.cons_cons _ .slnil)))))))⟩ kr (List.cons_ne_nil _ _) (allS ?_ (all1 ?_))
   ·refine Nxt.mk (o:=_) (bm 13 191) rfl rfl ?_
    refine WL.w (R.mkFunc (vs:=[(.pointer (some ⟨bf,0,none⟩))]) rfl)<|We ?_
    refine WC.next (rs:=[6,8]) ⟨al,(Hp.le.refl _),S.drop _ (.cons_cons _ (.cons_cons _ (.cons_cons _ (.cons_cons _ (.cons_cons _ (.cons _ (.cons_cons _ .slnil)))))))⟩ kr (List.cons_ne_nil _ _) (allS ?_ (all1 ?_))
    ·refine Nxt.mk (o:=_) (bm 13 255) rfl rfl ?_
     have S:=S.addNil 9 1
     replace S:St x z _ al (.row (.slice none 0 0) 9 1 0 :: [.box ab 62 [j,k],.box ac 56 [(str []),(str [])],.box ad 56 [(str []),(str [])],.box ae 56 [(str []),(str aa)],.box af 54 [(str b.fName),(int b.fBytes),(int b.fVariants),(int b.fTables),(boo b.fStrict),(boo b.fRefuse),(ptr l 0),(int 0),(.pointer none)],.box l 136 [(int b.fBytes),(int b.fVariants),(int b.fTables),(int (wr (0+(wr (t - u))))),(.slice none 0 0),(mapv d)],.mp d (encm (fun v=>v) [(c,(agg [j,k]))])]):=S
     refine W.callS rfl (zAB hG ([]:List Str) (fun x0=>zNL x0 c) S MR.nil (fun hle hw hG x0 r h=>zNM hw hG x0 c (At.mono ah hle (by simp)) h) aq) ?_
     rintro di dj ch dk au S ⟨cu,rfl,bw⟩
     replace S:St x z _ ch [cu,.box ab 62 [j,k],.box ac 56 [(str []),(str [])],.box ad 56 [(str []),(str [])],.box ae 56 [(str []),(str aa)],.box af 54 [(str b.fName),(int b.fBytes),(int b.fVariants),(int b.fTables),(boo b.fStrict),(boo b.fRefuse),(ptr l 0),(int 0),(.pointer none)],.box l 136 [(int b.fBytes),(int b.fVariants),(int b.fTables),(int (wr (0+(wr (t - u))))),(.slice none 0 0),(mapv d)],.mp d (encm (fun v=>v) [(c,(agg [j,k]))])]:=S
     have ah:=At.mono ah au (by simp)
     have p:=Sl.mono p au
     have q:=Sl.mono q au
     refine We ?_
     refine WC.next (rs:=[8]) ⟨ch,au,S.drop _ (.cons _ (.cons_cons _ (.cons_cons _ (.cons_cons _ (.cons_cons _ (.cons_cons _ (.cons _ (.cons_cons _ .slnil))))))))⟩ kr (List.cons_ne_nil _ _) (all1 ?_)
     refine Nxt.mk (o:=_) (bm 13 511) rfl rfl<|W.bslice (α:=Str) [(str c)] ([c]:List Str) S el45 rfl rfl rfl (by decide) (Go.Eng.encS ⟨rfl,rfl⟩ enc0) ?_
     intro cv dl bg av cw S
     have ah:=At.mono ah av (by simp)
     have bw:=MR.mono bw av
     have p:=Sl.mono p av
     have q:=Sl.mono q av
     refine We ?_
     refine WC.next (rs:=[9]) ⟨bg,(au.trans av),S.drop _ (.cons _ (.cons _ (.cons_cons _ (.cons_cons _ (.cons_cons _ (.cons_cons _ (.cons_cons _ (.cons _ (.cons_cons _ .slnil)))))))))⟩ kr (List.cons_ne_nil _ _) (all1 ?_)
     refine Nxt.mk (o:=_) (bm 13 1023) rfl rfl<|W.appM (α:=Str) (i:=1) S el45 rfl rfl rfl bw cw ar ?_
     intro bo bx dm ci S
     refine We ?_
     refine WC.take (i:=10) (bm 13 2047) rfl kr kr kr rfl (fun _ _=>(R.nilCheckB rfl)) ?_
     refine WC.take (i:=11) (bm 13 4095) rfl kr kr kr rfl (fun _ _=>(R.fieldB rfl zBH)) ?_
     refine WC.next (rs:=[12]) ⟨bg,(au.trans av),S.drop _ (.cons _ (.cons _ (.cons_cons _ (.cons_cons _ (.cons_cons _ (.cons_cons _ (.cons_cons _ (.cons _ (.cons_cons _ .slnil)))))))))⟩ kr (List.cons_ne_nil _ _) (all1 ?_)
     refine Nxt.mk (o:=_) (bm 13 8191) rfl rfl ?_
     refine W.storeMR (α:=Str) (i:=7) [(int b.fBytes),(int b.fVariants),(int b.fTables),(int (wr (0+(wr (t - u))))),bo,(mapv d)] S ci rfl rfl rfl lay45 (Nat.le_of_ble_eq_true rfl) rfl ?_
     intro dn S
     refine We<|WC.done ⟨bg,(au.trans av),S.drop _ (.cons _ (.cons _ (.cons_cons _ (.cons_cons _ (.cons_cons _ (.cons_cons _ (.cons_cons _ (.cons _ (.cons_cons _ .slnil)))))))))⟩ kr ?_
     have S3:=S
     replace S3:=S3.front 8 rfl
     replace S3:=S3.front 8 rfl
     replace S3:=S3.front 8 rfl
     replace S3:=S3.front 8 rfl
     replace S3:=S3.front 8 rfl
     replace S3:=S3.front 8 rfl
     replace S3:=S3.front 8 rfl
     replace S3:=S3.front 8 rfl
     replace S3:St x z _ bg [bx,.box ab 62 [j,k],.box ac 56 [(str []),(str [])],.box ad 56 [(str []),(str [])],.box ae 56 [(str []),(str aa)],.box af 54 [(str b.fName),(int b.fBytes),(int b.fVariants),(int b.fTables),(boo b.fStrict),(boo b.fRefuse),(ptr l 0),(int 0),(.pointer none)],.box l 136 [(int b.fBytes),(int b.fVariants),(int b.fTables),(int (wr (0+(wr (t - u))))),bo,(mapv d)],.mp d (encm (fun v=>v) [(c,(agg [j,k]))]),.row cv 9 1 ([c]:List Str).length]:=S3
     replace S3:St x z _ bg [bx,.box ab 62 [j,k],.box ac 56 [(str []),(str [])],.box ad 56 [(str []),(str [])],.box ae 56 [(str []),(str aa)],.box af 54 [(str b.fName),(int b.fBytes),(int b.fVariants),(int b.fTables),(boo b.fStrict),(boo b.fRefuse),(ptr l 0),(int 0),(.pointer none)],.box l 136 [(int b.fBytes),(int b.fVariants),(int b.fTables),(int (wr (0+(wr (t - u))))),bo,(mapv d)],.mp d (encm (fun v=>v) [(c,(agg [j,k]))])]:=S3.drop _ (.cons_cons _ (.cons_cons _ (.cons_cons _ (.cons_cons _ (.cons_cons _ (.cons_cons _ (.cons_cons _ (.cons_cons _ (.cons _ .slnil)))))))))
     exact ⟨bg,(bx),bo,p,q,ci,p,q,((am.trans au).trans av),S3⟩
    refine Nxt.mk (o:=_) (bm 13 447) rfl rfl<|W.bslice (α:=Str) [(str c)] ([c]:List Str) S el45 rfl rfl rfl (by decide) (Go.Eng.encS ⟨rfl,rfl⟩ enc0) ?_
    intro bz dp cj aw b0 S
    have ah:=At.mono ah aw (by simp)
    have p:=Sl.mono p aw
    have q:=Sl.mono q aw
    refine We ?_
    refine WC.next (rs:=[6]) ⟨cj,aw,S.drop _ (.cons _ (.cons_cons _ (.cons_cons _ (.cons_cons _ (.cons_cons _ (.cons_cons _ (.cons _ (.cons_cons _ .slnil))))))))⟩ kr (List.cons_ne_nil _ _) (all1 ?_)
    refine Nxt.mk (o:=_) (bm 13 511) rfl rfl ?_
    have S:=S.addNil 9 1
    replace S:St x z _ cj (.row (.slice none 0 0) 9 1 0 :: [.row bz 9 1 ([c]:List Str).length,.box ab 62 [j,k],.box ac 56 [(str []),(str [])],.box ad 56 [(str []),(str [])],.box ae 56 [(str []),(str aa)],.box af 54 [(str b.fName),(int b.fBytes),(int b.fVariants),(int b.fTables),(boo b.fStrict),(boo b.fRefuse),(ptr l 0),(int 0),(.pointer none)],.box l 136 [(int b.fBytes),(int b.fVariants),(int b.fTables),(int (wr (0+(wr (t - u))))),(.slice none 0 0),(mapv d)],.mp d (encm (fun v=>v) [(c,(agg [j,k]))])]):=S
    refine W.callS rfl (zAB hG ([]:List Str) (fun x0=>zNL x0 c) S MR.nil (fun hle hw hG x0 r h=>zNM hw hG x0 c (At.mono ah hle (by simp)) h) aq) ?_
    rintro dq dr a7 ds ax S ⟨cx,rfl,cy⟩
    replace S:St x z _ a7 [cx,.row bz 9 1 ([c]:List Str).length,.box ab 62 [j,k],.box ac 56 [(str []),(str [])],.box ad 56 [(str []),(str [])],.box ae 56 [(str []),(str aa)],.box af 54 [(str b.fName),(int b.fBytes),(int b.fVariants),(int b.fTables),(boo b.fStrict),(boo b.fRefuse),(ptr l 0),(int 0),(.pointer none)],.box l 136 [(int b.fBytes),(int b.fVariants),(int b.fTables),(int (wr (0+(wr (t - u))))),(.slice none 0 0),(mapv d)],.mp d (encm (fun v=>v) [(c,(agg [j,k]))])]:=S
    have ah:=At.mono ah ax (by simp)
    have b0:=Sl.mono b0 ax
    have p:=Sl.mono p ax
    have q:=Sl.mono q ax
    refine We ?_
    refine WC.next (rs:=[9]) ⟨a7,(aw.trans ax),S.drop _ (.cons _ (.cons _ (.cons_cons _ (.cons_cons _ (.cons_cons _ (.cons_cons _ (.cons_cons _ (.cons _ (.cons_cons _ .slnil)))))))))⟩ kr (List.cons_ne_nil _ _) (all1 ?_)
    refine Nxt.mk (o:=_) (bm 13 1023) rfl rfl<|W.appM (α:=Str) (i:=0) S el45 rfl rfl rfl cy b0 ar ?_
    intro bp b1 dt ck S
    refine We ?_
    refine WC.take (i:=10) (bm 13 2047) rfl kr kr kr rfl (fun _ _=>(R.nilCheckB rfl)) ?_
    refine WC.take (i:=11) (bm 13 4095) rfl kr kr kr rfl (fun _ _=>(R.fieldB rfl zBH)) ?_
    refine WC.next (rs:=[12]) ⟨a7,(aw.trans ax),S.drop _ (.cons _ (.cons _ (.cons_cons _ (.cons_cons _ (.cons_cons _ (.cons_cons _ (.cons_cons _ (.cons _ (.cons_cons _ .slnil)))))))))⟩ kr (List.cons_ne_nil _ _) (all1 ?_)
    refine Nxt.mk (o:=_) (bm 13 8191) rfl rfl ?_
    refine W.storeMR (α:=Str) (i:=7) [(int b.fBytes),(int b.fVariants),(int b.fTables),(int (wr (0+(wr (t - u))))),bp,(mapv d)] S ck rfl rfl rfl lay45 (Nat.le_of_ble_eq_true rfl) rfl ?_
    intro du S
    refine We<|WC.done ⟨a7,(aw.trans ax),S.drop _ (.cons _ (.cons _ (.cons_cons _ (.cons_cons _ (.cons_cons _ (.cons_cons _ (.cons_cons _ (.cons _ (.cons_cons _ .slnil)))))))))⟩ kr ?_
    have S3:=S
    replace S3:=S3.front 8 rfl
    replace S3:=S3.front 8 rfl
    replace S3:=S3.front 8 rfl
    replace S3:=S3.front 8 rfl
    replace S3:=S3.front 8 rfl
    replace S3:=S3.front 8 rfl
    replace S3:=S3.front 8 rfl
    replace S3:=S3.front 7 rfl
    replace S3:St x z _ a7 [b1,.box ab 62 [j,k],.box ac 56 [(str []),(str [])],.box ad 56 [(str []),(str [])],.box ae 56 [(str []),(str aa)],.box af 54 [(str b.fName),(int b.fBytes),(int b.fVariants),(int b.fTables),(boo b.fStrict),(boo b.fRefuse),(ptr l 0),(int 0),(.pointer none)],.box l 136 [(int b.fBytes),(int b.fVariants),(int b.fTables),(int (wr (0+(wr (t - u))))),bp,(mapv d)],.mp d (encm (fun v=>v) [(c,(agg [j,k]))]),.row bz 9 1 ([c]:List Str).length]:=S3
    replace S3:St x z _ a7 [b1,.box ab 62 [j,k],.box ac 56 [(str []),(str [])],.box ad 56 [(str []),(str [])],.box ae 56 [(str []),(str aa)],.box af 54 [(str b.fName),(int b.fBytes),(int b.fVariants),(int b.fTables),(boo b.fStrict),(boo b.fRefuse),(ptr l 0),(int 0),(.pointer none)],.box l 136 [(int b.fBytes),(int b.fVariants),(int b.fTables),(int (wr (0+(wr (t - u))))),bp,(mapv d)],.mp d (encm (fun v=>v) [(c,(agg [j,k]))])]:=S3.drop _ (.cons_cons _ (.cons_cons _ (.cons_cons _ (.cons_cons _ (.cons_cons _ (.cons_cons _ (.cons_cons _ (.cons_cons _ (.cons _ .slnil)))))))))
    exact ⟨a7,(b1),bp,p,q,ck,p,q,((am.trans aw).trans ax),S3⟩
   refine Nxt.mk (o:=_) (bm 13 415) rfl rfl<|W.bslice (α:=Str) [(str c)] ([c]:List Str) S el45 rfl rfl rfl (by decide) (Go.Eng.encS ⟨rfl,rfl⟩ enc0) ?_
   intro b2 dv b3 ao b4 S
   have ah:=At.mono ah ao (by simp)
   have p:=Sl.mono p ao
   have q:=Sl.mono q ao
   refine We ?_
   refine WC.next (rs:=[5]) ⟨b3,ao,S.drop _ (.cons _ (.cons_cons _ (.cons_cons _ (.cons_cons _ (.cons_cons _ (.cons_cons _ (.cons _ (.cons_cons _ .slnil))))))))⟩ kr (List.cons_ne_nil _ _) (all1 ?_)
   refine Nxt.mk (o:=_) (bm 13 447) rfl rfl ?_
   refine WL.w (R.mkFunc (vs:=[(.pointer (some ⟨bf,0,none⟩))]) rfl)<|We ?_
   refine WC.next (rs:=[6]) ⟨b3,ao,S.drop _ (.cons _ (.cons_cons _ (.cons_cons _ (.cons_cons _ (.cons_cons _ (.cons_cons _ (.cons _ (.cons_cons _ .slnil))))))))⟩ kr (List.cons_ne_nil _ _) (all1 ?_)
   refine Nxt.mk (o:=_) (bm 13 511) rfl rfl ?_
   have S:=S.addNil 9 1
   replace S:St x z _ b3 (.row (.slice none 0 0) 9 1 0 :: [.row b2 9 1 ([c]:List Str).length,.box ab 62 [j,k],.box ac 56 [(str []),(str [])],.box ad 56 [(str []),(str [])],.box ae 56 [(str []),(str aa)],.box af 54 [(str b.fName),(int b.fBytes),(int b.fVariants),(int b.fTables),(boo b.fStrict),(boo b.fRefuse),(ptr l 0),(int 0),(.pointer none)],.box l 136 [(int b.fBytes),(int b.fVariants),(int b.fTables),(int (wr (0+(wr (t - u))))),(.slice none 0 0),(mapv d)],.mp d (encm (fun v=>v) [(c,(agg [j,k]))])]):=S
   refine W.callS rfl (zAB hG ([]:List Str) (fun x0=>zNL x0 c) S MR.nil (fun hle hw hG x0 r h=>zNM hw hG x0 c (At.mono ah hle (by simp)) h) aq) ?_
   rintro dw dx a8 dy ay S ⟨cz,rfl,c0⟩
   replace S:St x z _ a8 [cz,.row b2 9 1 ([c]:List Str).length,.box ab 62 [j,k],.box ac 56 [(str []),(str [])],.box ad 56 [(str []),(str [])],.box ae 56 [(str []),(str aa)],.box af 54 [(str b.fName),(int b.fBytes),(int b.fVariants),(int b.fTables),(boo b.fStrict),(boo b.fRefuse),(ptr l 0),(int 0),(.pointer none)],.box l 136 [(int b.fBytes),(int b.fVariants),(int b.fTables),(int (wr (0+(wr (t - u))))),(.slice none 0 0),(mapv d)],.mp d (encm (fun v=>v) [(c,(agg [j,k]))])]:=S
   have ah:=At.mono ah ay (by simp)
   have b4:=Sl.mono b4 ay
   have p:=Sl.mono p ay
   have q:=Sl.mono q ay
   refine We ?_
   refine WC.next (rs:=[9]) ⟨a8,(ao.trans ay),S.drop _ (.cons _ (.cons _ (.cons_cons _ (.cons_cons _ (.cons_cons _ (.cons_cons _ (.cons_cons _ (.cons _ (.cons_cons _ .slnil)))))))))⟩ kr (List.cons_ne_nil _ _) (all1 ?_)
   refine Nxt.mk (o:=_) (bm 13 1023) rfl rfl<|W.appM (α:=Str) (i:=0) S el45 rfl rfl rfl c0 b4 ar ?_
   intro bq b5 dz cl S
   refine We ?_
   refine WC.take (i:=10) (bm 13 2047) rfl kr kr kr rfl (fun _ _=>(R.nilCheckB rfl)) ?_
   refine WC.take (i:=11) (bm 13 4095) rfl kr kr kr rfl (fun _ _=>(R.fieldB rfl zBH)) ?_
   refine WC.next (rs:=[12]) ⟨a8,(ao.trans ay),S.drop _ (.cons _ (.cons _ (.cons_cons _ (.cons_cons _ (.cons_cons _ (.cons_cons _ (.cons_cons _ (.cons _ (.cons_cons _ .slnil)))))))))⟩ kr (List.cons_ne_nil _ _) (all1 ?_)
   refine Nxt.mk (o:=_) (bm 13 8191) rfl rfl ?_
   refine W.storeMR (α:=Str) (i:=7) [(int b.fBytes),(int b.fVariants),(int b.fTables),(int (wr (0+(wr (t - u))))),bq,(mapv d)] S cl rfl rfl rfl lay45 (Nat.le_of_ble_eq_true rfl) rfl ?_
   intro d0 S
   refine We<|WC.done ⟨a8,(ao.trans ay),S.drop _ (.cons _ (.cons _ (.cons_cons _ (.cons_cons _ (.cons_cons _ (.cons_cons _ (.cons_cons _ (.cons _ (.cons_cons _ .slnil)))))))))⟩ kr ?_
   have S3:=S
   replace S3:=S3.front 8 rfl
   replace S3:=S3.front 8 rfl
   replace S3:=S3.front 8 rfl
   replace S3:=S3.front 8 rfl
   replace S3:=S3.front 8 rfl
   replace S3:=S3.front 8 rfl
   replace S3:=S3.front 8 rfl
   replace S3:=S3.front 7 rfl
   replace S3:St x z _ a8 [b5,.box ab 62 [j,k],.box ac 56 [(str []),(str [])],.box ad 56 [(str []),(str [])],.box ae 56 [(str []),(str aa)],.box af 54 [(str b.fName),(int b.fBytes),(int b.fVariants),(int b.fTables),(boo b.fStrict),(boo b.fRefuse),(ptr l 0),(int 0),(.pointer none)],.box l 136 [(int b.fBytes),(int b.fVariants),(int b.fTables),(int (wr (0+(wr (t - u))))),bq,(mapv d)],.mp d (encm (fun v=>v) [(c,(agg [j,k]))]),.row b2 9 1 ([c]:List Str).length]:=S3
   replace S3:St x z _ a8 [b5,.box ab 62 [j,k],.box ac 56 [(str []),(str [])],.box ad 56 [(str []),(str [])],.box ae 56 [(str []),(str aa)],.box af 54 [(str b.fName),(int b.fBytes),(int b.fVariants),(int b.fTables),(boo b.fStrict),(boo b.fRefuse),(ptr l 0),(int 0),(.pointer none)],.box l 136 [(int b.fBytes),(int b.fVariants),(int b.fTables),(int (wr (0+(wr (t - u))))),bq,(mapv d)],.mp d (encm (fun v=>v) [(c,(agg [j,k]))])]:=S3.drop _ (.cons_cons _ (.cons_cons _ (.cons_cons _ (.cons_cons _ (.cons_cons _ (.cons_cons _ (.cons_cons _ (.cons_cons _ (.cons _ .slnil)))))))))
   exact ⟨a8,(b5),bq,p,q,cl,p,q,((am.trans ao).trans ay),S3⟩
  ·refine Nxt.mk (o:=_) (bm 13 175) rfl rfl ?_
   refine WL.w (R.mkFunc (vs:=[(.pointer (some ⟨bf,0,none⟩))]) rfl)<|We ?_
   refine WC.next (rs:=[4,8]) ⟨al,(Hp.le.refl _),S.drop _ (.cons_cons _ (.cons_cons _ (.cons_cons _ (.cons_cons _ (.cons_cons _ (.cons _ (.cons_cons _ .slnil)))))))⟩ kr (List.cons_ne_nil _ _) (allS ?_ (all1 ?_))
   ·refine Nxt.mk (o:=_) (bm 13 191) rfl rfl ?_
    refine Lo 5 S<|We ?_
    refine WC.next (rs:=[6,8]) ⟨al,(Hp.le.refl _),S.drop _ (.cons_cons _ (.cons_cons _ (.cons_cons _ (.cons_cons _ (.cons_cons _ (.cons _ (.cons_cons _ .slnil)))))))⟩ kr (List.cons_ne_nil _ _) (allS ?_ (all1 ?_))
    ·refine Nxt.mk (o:=_) (bm 13 255) rfl rfl ?_
     have S:=S.addNil 9 1
     replace S:St x z _ al (.row (.slice none 0 0) 9 1 0 :: [.box ab 62 [j,k],.box ac 56 [(str []),(str [])],.box ad 56 [(str []),(str [])],.box ae 56 [(str []),(str aa)],.box af 54 [(str b.fName),(int b.fBytes),(int b.fVariants),(int b.fTables),(boo b.fStrict),(boo b.fRefuse),(ptr l 0),(int 0),(.pointer none)],.box l 136 [(int b.fBytes),(int b.fVariants),(int b.fTables),(int (wr (0+(wr (t - u))))),(.slice none 0 0),(mapv d)],.mp d (encm (fun v=>v) [(c,(agg [j,k]))])]):=S
     refine W.callS rfl (zAB hG ([]:List Str) (fun x0=>zNL x0 c) S MR.nil (fun hle hw hG x0 r h=>zNM hw hG x0 c (At.mono ah hle (by simp)) h) aq) ?_
     rintro d1 d2 cm d3 az S ⟨c1,rfl,b6⟩
     replace S:St x z _ cm [c1,.box ab 62 [j,k],.box ac 56 [(str []),(str [])],.box ad 56 [(str []),(str [])],.box ae 56 [(str []),(str aa)],.box af 54 [(str b.fName),(int b.fBytes),(int b.fVariants),(int b.fTables),(boo b.fStrict),(boo b.fRefuse),(ptr l 0),(int 0),(.pointer none)],.box l 136 [(int b.fBytes),(int b.fVariants),(int b.fTables),(int (wr (0+(wr (t - u))))),(.slice none 0 0),(mapv d)],.mp d (encm (fun v=>v) [(c,(agg [j,k]))])]:=S
     have ah:=At.mono ah az (by simp)
     have p:=Sl.mono p az
     have q:=Sl.mono q az
     refine We ?_
     refine WC.next (rs:=[8]) ⟨cm,az,S.drop _ (.cons _ (.cons_cons _ (.cons_cons _ (.cons_cons _ (.cons_cons _ (.cons_cons _ (.cons _ (.cons_cons _ .slnil))))))))⟩ kr (List.cons_ne_nil _ _) (all1 ?_)
     refine Nxt.mk (o:=_) (bm 13 511) rfl rfl<|W.bslice (α:=Str) [(str c)] ([c]:List Str) S el45 rfl rfl rfl (by decide) (Go.Eng.encS ⟨rfl,rfl⟩ enc0) ?_
     intro c2 d4 bh a0 c3 S
     have ah:=At.mono ah a0 (by simp)
     have b6:=MR.mono b6 a0
     have p:=Sl.mono p a0
     have q:=Sl.mono q a0
     refine We ?_
     refine WC.next (rs:=[9]) ⟨bh,(az.trans a0),S.drop _ (.cons _ (.cons _ (.cons_cons _ (.cons_cons _ (.cons_cons _ (.cons_cons _ (.cons_cons _ (.cons _ (.cons_cons _ .slnil)))))))))⟩ kr (List.cons_ne_nil _ _) (all1 ?_)
     refine Nxt.mk (o:=_) (bm 13 1023) rfl rfl<|W.appM (α:=Str) (i:=1) S el45 rfl rfl rfl b6 c3 ar ?_
     intro br b7 d5 cn S
     refine We ?_
     refine WC.take (i:=10) (bm 13 2047) rfl kr kr kr rfl (fun _ _=>(R.nilCheckB rfl)) ?_
     refine WC.take (i:=11) (bm 13 4095) rfl kr kr kr rfl (fun _ _=>(R.fieldB rfl zBH)) ?_
     refine WC.next (rs:=[12]) ⟨bh,(az.trans a0),S.drop _ (.cons _ (.cons _ (.cons_cons _ (.cons_cons _ (.cons_cons _ (.cons_cons _ (.cons_cons _ (.cons _ (.cons_cons _ .slnil)))))))))⟩ kr (List.cons_ne_nil _ _) (all1 ?_)
     refine Nxt.mk (o:=_) (bm 13 8191) rfl rfl ?_
     refine W.storeMR (α:=Str) (i:=7) [(int b.fBytes),(int b.fVariants),(int b.fTables),(int (wr (0+(wr (t - u))))),br,(mapv d)] S cn rfl rfl rfl lay45 (Nat.le_of_ble_eq_true rfl) rfl ?_
     intro d6 S
     refine We<|WC.done ⟨bh,(az.trans a0),S.drop _ (.cons _ (.cons _ (.cons_cons _ (.cons_cons _ (.cons_cons _ (.cons_cons _ (.cons_cons _ (.cons _ (.cons_cons _ .slnil)))))))))⟩ kr ?_
     have S3:=S
     replace S3:=S3.front 8 rfl
     replace S3:=S3.front 8 rfl
     replace S3:=S3.front 8 rfl
     replace S3:=S3.front 8 rfl
     replace S3:=S3.front 8 rfl
     replace S3:=S3.front 8 rfl
     replace S3:=S3.front 8 rfl
     replace S3:=S3.front 8 rfl
     replace S3:St x z _ bh [b7,.box ab 62 [j,k],.box ac 56 [(str []),(str [])],.box ad 56 [(str []),(str [])],.box ae 56 [(str []),(str aa)],.box af 54 [(str b.fName),(int b.fBytes),(int b.fVariants),(int b.fTables),(boo b.fStrict),(boo b.fRefuse),(ptr l 0),(int 0),(.pointer none)],.box l 136 [(int b.fBytes),(int b.fVariants),(int b.fTables),(int (wr (0+(wr (t - u))))),br,(mapv d)],.mp d (encm (fun v=>v) [(c,(agg [j,k]))]),.row c2 9 1 ([c]:List Str).length]:=S3
     replace S3:St x z _ bh [b7,.box ab 62 [j,k],.box ac 56 [(str []),(str [])],.box ad 56 [(str []),(str [])],.box ae 56 [(str []),(str aa)],.box af 54 [(str b.fName),(int b.fBytes),(int b.fVariants),(int b.fTables),(boo b.fStrict),(boo b.fRefuse),(ptr l 0),(int 0),(.pointer none)],.box l 136 [(int b.fBytes),(int b.fVariants),(int b.fTables),(int (wr (0+(wr (t - u))))),br,(mapv d)],.mp d (encm (fun v=>v) [(c,(agg [j,k]))])]:=S3.drop _ (.cons_cons _ (.cons_cons _ (.cons_cons _ (.cons_cons _ (.cons_cons _ (.cons_cons _ (.cons_cons _ (.cons_cons _ (.cons _ .slnil)))))))))
     exact ⟨bh,(b7),br,p,q,cn,p,q,((am.trans az).trans a0),S3⟩
    refine Nxt.mk (o:=_) (bm 13 447) rfl rfl<|W.bslice (α:=Str) [(str c)] ([c]:List Str) S el45 rfl rfl rfl (by decide) (Go.Eng.encS ⟨rfl,rfl⟩ enc0) ?_
    intro b8 d7 co a1 b9 S
    have ah:=At.mono ah a1 (by simp)
    have p:=Sl.mono p a1
    have q:=Sl.mono q a1
    refine We ?_
    refine WC.next (rs:=[6]) ⟨co,a1,S.drop _ (.cons _ (.cons_cons _ (.cons_cons _ (.cons_cons _ (.cons_cons _ (.cons_cons _ (.cons _ (.cons_cons _ .slnil))))))))⟩ kr (List.cons_ne_nil _ _) (all1 ?_)
    refine Nxt.mk (o:=_) (bm 13 511) rfl rfl ?_
    have S:=S.addNil 9 1
    replace S:St x z _ co (.row (.slice none 0 0) 9 1 0 :: [.row b8 9 1 ([c]:List Str).length,.box ab 62 [j,k],.box ac 56 [(str []),(str [])],.box ad 56 [(str []),(str [])],.box ae 56 [(str []),(str aa)],.box af 54 [(str b.fName),(int b.fBytes),(int b.fVariants),(int b.fTables),(boo b.fStrict),(boo b.fRefuse),(ptr l 0),(int 0),(.pointer none)],.box l 136 [(int b.fBytes),(int b.fVariants),(int b.fTables),(int (wr (0+(wr (t - u))))),(.slice none 0 0),(mapv d)],.mp d (encm (fun v=>v) [(c,(agg [j,k]))])]):=S
    refine W.callS rfl (zAB hG ([]:List Str) (fun x0=>zNL x0 c) S MR.nil (fun hle hw hG x0 r h=>zNM hw hG x0 c (At.mono ah hle (by simp)) h) aq) ?_
    rintro d8 d9 a9 ea a2 S ⟨c4,rfl,c5⟩
    replace S:St x z _ a9 [c4,.row b8 9 1 ([c]:List Str).length,.box ab 62 [j,k],.box ac 56 [(str []),(str [])],.box ad 56 [(str []),(str [])],.box ae 56 [(str []),(str aa)],.box af 54 [(str b.fName),(int b.fBytes),(int b.fVariants),(int b.fTables),(boo b.fStrict),(boo b.fRefuse),(ptr l 0),(int 0),(.pointer none)],.box l 136 [(int b.fBytes),(int b.fVariants),(int b.fTables),(int (wr (0+(wr (t - u))))),(.slice none 0 0),(mapv d)],.mp d (encm (fun v=>v) [(c,(agg [j,k]))])]:=S
    have ah:=At.mono ah a2 (by simp)
    have b9:=Sl.mono b9 a2
    have p:=Sl.mono p a2
    have q:=Sl.mono q a2
    refine We ?_
    refine WC.next (rs:=[9]) ⟨a9,(a1.trans a2),S.drop _ (.cons _ (.cons _ (.cons_cons _ (.cons_cons _ (.cons_cons _ (.cons_cons _ (.cons_cons _ (.cons _ (.cons_cons _ .slnil)))))))))⟩ kr (List.cons_ne_nil _ _) (all1 ?_)
    refine Nxt.mk (o:=_) (bm 13 1023) rfl rfl<|W.appM (α:=Str) (i:=0) S el45 rfl rfl rfl c5 b9 ar ?_
    intro bs ca eb cp S
    refine We ?_
    refine WC.take (i:=10) (bm 13 2047) rfl kr kr kr rfl (fun _ _=>(R.nilCheckB rfl)) ?_
    refine WC.take (i:=11) (bm 13 4095) rfl kr kr kr rfl (fun _ _=>(R.fieldB rfl zBH)) ?_
    refine WC.next (rs:=[12]) ⟨a9,(a1.trans a2),S.drop _ (.cons _ (.cons _ (.cons_cons _ (.cons_cons _ (.cons_cons _ (.cons_cons _ (.cons_cons _ (.cons _ (.cons_cons _ .slnil)))))))))⟩ kr (List.cons_ne_nil _ _) (all1 ?_)
    refine Nxt.mk (o:=_) (bm 13 8191) rfl rfl ?_
    refine W.storeMR (α:=Str) (i:=7) [(int b.fBytes),(int b.fVariants),(int b.fTables),(int (wr (0+(wr (t - u))))),bs,(mapv d)] S cp rfl rfl rfl lay45 (Nat.le_of_ble_eq_true rfl) rfl ?_
    intro ec S
    refine We<|WC.done ⟨a9,(a1.trans a2),S.drop _ (.cons _ (.cons _ (.cons_cons _ (.cons_cons _ (.cons_cons _ (.cons_cons _ (.cons_cons _ (.cons _ (.cons_cons _ .slnil)))))))))⟩ kr ?_
    have S3:=S
    replace S3:=S3.front 8 rfl
    replace S3:=S3.front 8 rfl
    replace S3:=S3.front 8 rfl
    replace S3:=S3.front 8 rfl
    replace S3:=S3.front 8 rfl
    replace S3:=S3.front 8 rfl
    replace S3:=S3.front 8 rfl
    replace S3:=S3.front 7 rfl
    replace S3:St x z _ a9 [ca,.box ab 62 [j,k],.box ac 56 [(str []),(str [])],.box ad 56 [(str []),(str [])],.box ae 56 [(str []),(str aa)],.box af 54 [(str b.fName),(int b.fBytes),(int b.fVariants),(int b.fTables),(boo b.fStrict),(boo b.fRefuse),(ptr l 0),(int 0),(.pointer none)],.box l 136 [(int b.fBytes),(int b.fVariants),(int b.fTables),(int (wr (0+(wr (t - u))))),bs,(mapv d)],.mp d (encm (fun v=>v) [(c,(agg [j,k]))]),.row b8 9 1 ([c]:List Str).length]:=S3
    replace S3:St x z _ a9 [ca,.box ab 62 [j,k],.box ac 56 [(str []),(str [])],.box ad 56 [(str []),(str [])],.box ae 56 [(str []),(str aa)],.box af 54 [(str b.fName),(int b.fBytes),(int b.fVariants),(int b.fTables),(boo b.fStrict),(boo b.fRefuse),(ptr l 0),(int 0),(.pointer none)],.box l 136 [(int b.fBytes),(int b.fVariants),(int b.fTables),(int (wr (0+(wr (t - u))))),bs,(mapv d)],.mp d (encm (fun v=>v) [(c,(agg [j,k]))])]:=S3.drop _ (.cons_cons _ (.cons_cons _ (.cons_cons _ (.cons_cons _ (.cons_cons _ (.cons_cons _ (.cons_cons _ (.cons_cons _ (.cons _ .slnil)))))))))
    exact ⟨a9,(ca),bs,p,q,cp,p,q,((am.trans a1).trans a2),S3⟩
   refine Nxt.mk (o:=_) (bm 13 431) rfl rfl<|W.bslice (α:=Str) [(str c)] ([c]:List Str) S el45 rfl rfl rfl (by decide) (Go.Eng.encS ⟨rfl,rfl⟩ enc0) ?_
   intro cb ed cc ap cd S
   have ah:=At.mono ah ap (by simp)
   have p:=Sl.mono p ap
   have q:=Sl.mono q ap
   refine We ?_
   refine WC.next (rs:=[4]) ⟨cc,ap,S.drop _ (.cons _ (.cons_cons _ (.cons_cons _ (.cons_cons _ (.cons_cons _ (.cons_cons _ (.cons _ (.cons_cons _ .slnil))))))))⟩ kr (List.cons_ne_nil _ _) (all1 ?_)
   refine Nxt.mk (o:=_) (bm 13 447) rfl rfl ?_
   refine Lo 6 S<|We ?_
   refine WC.next (rs:=[6]) ⟨cc,ap,S.drop _ (.cons _ (.cons_cons _ (.cons_cons _ (.cons_cons _ (.cons_cons _ (.cons_cons _ (.cons _ (.cons_cons _ .slnil))))))))⟩ kr (List.cons_ne_nil _ _) (all1 ?_)
   refine Nxt.mk (o:=_) (bm 13 511) rfl rfl ?_
   have S:=S.addNil 9 1
   replace S:St x z _ cc (.row (.slice none 0 0) 9 1 0 :: [.row cb 9 1 ([c]:List Str).length,.box ab 62 [j,k],.box ac 56 [(str []),(str [])],.box ad 56 [(str []),(str [])],.box ae 56 [(str []),(str aa)],.box af 54 [(str b.fName),(int b.fBytes),(int b.fVariants),(int b.fTables),(boo b.fStrict),(boo b.fRefuse),(ptr l 0),(int 0),(.pointer none)],.box l 136 [(int b.fBytes),(int b.fVariants),(int b.fTables),(int (wr (0+(wr (t - u))))),(.slice none 0 0),(mapv d)],.mp d (encm (fun v=>v) [(c,(agg [j,k]))])]):=S
   refine W.callS rfl (zAB hG ([]:List Str) (fun x0=>zNL x0 c) S MR.nil (fun hle hw hG x0 r h=>zNM hw hG x0 c (At.mono ah hle (by simp)) h) aq) ?_
   rintro ee ef ba eg a3 S ⟨c6,rfl,c7⟩
   replace S:St x z _ ba [c6,.row cb 9 1 ([c]:List Str).length,.box ab 62 [j,k],.box ac 56 [(str []),(str [])],.box ad 56 [(str []),(str [])],.box ae 56 [(str []),(str aa)],.box af 54 [(str b.fName),(int b.fBytes),(int b.fVariants),(int b.fTables),(boo b.fStrict),(boo b.fRefuse),(ptr l 0),(int 0),(.pointer none)],.box l 136 [(int b.fBytes),(int b.fVariants),(int b.fTables),(int (wr (0+(wr (t - u))))),(.slice none 0 0),(mapv d)],.mp d (encm (fun v=>v) [(c,(agg [j,k]))])]:=S
   have ah:=At.mono ah a3 (by simp)
   have cd:=Sl.mono cd a3
   have p:=Sl.mono p a3
   have q:=Sl.mono q a3
   refine We ?_
   refine WC.next (rs:=[9]) ⟨ba,(ap.trans a3),S.drop _ (.cons _ (.cons _ (.cons_cons _ (.cons_cons _ (.cons_cons _ (.cons_cons _ (.cons_cons _ (.cons _ (.cons_cons _ .slnil)))))))))⟩ kr (List.cons_ne_nil _ _) (all1 ?_)
   refine Nxt.mk (o:=_) (bm 13 1023) rfl rfl<|W.appM (α:=Str) (i:=0) S el45 rfl rfl rfl c7 cd ar ?_
   intro bt ce eh cq S
   refine We ?_
   refine WC.take (i:=10) (bm 13 2047) rfl kr kr kr rfl (fun _ _=>(R.nilCheckB rfl)) ?_
   refine WC.take (i:=11) (bm 13 4095) rfl kr kr kr rfl (fun _ _=>(R.fieldB rfl zBH)) ?_
   refine WC.next (rs:=[12]) ⟨ba,(ap.trans a3),S.drop _ (.cons _ (.cons _ (.cons_cons _ (.cons_cons _ (.cons_cons _ (.cons_cons _ (.cons_cons _ (.cons _ (.cons_cons _ .slnil)))))))))⟩ kr (List.cons_ne_nil _ _) (all1 ?_)
   refine Nxt.mk (o:=_) (bm 13 8191) rfl rfl ?_
   refine W.storeMR (α:=Str) (i:=7) [(int b.fBytes),(int b.fVariants),(int b.fTables),(int (wr (0+(wr (t - u))))),bt,(mapv d)] S cq rfl rfl rfl lay45 (Nat.le_of_ble_eq_true rfl) rfl ?_
   intro ei S
   refine We<|WC.done ⟨ba,(ap.trans a3),S.drop _ (.cons _ (.cons _ (.cons_cons _ (.cons_cons _ (.cons_cons _ (.cons_cons _ (.cons_cons _ (.cons _ (.cons_cons _ .slnil)))))))))⟩ kr ?_
   have S3:=S
   replace S3:=S3.front 8 rfl
   replace S3:=S3.front 8 rfl
   replace S3:=S3.front 8 rfl
   replace S3:=S3.front 8 rfl
   replace S3:=S3.front 8 rfl
   replace S3:=S3.front 8 rfl
   replace S3:=S3.front 8 rfl
   replace S3:=S3.front 7 rfl
   replace S3:St x z _ ba [ce,.box ab 62 [j,k],.box ac 56 [(str []),(str [])],.box ad 56 [(str []),(str [])],.box ae 56 [(str []),(str aa)],.box af 54 [(str b.fName),(int b.fBytes),(int b.fVariants),(int b.fTables),(boo b.fStrict),(boo b.fRefuse),(ptr l 0),(int 0),(.pointer none)],.box l 136 [(int b.fBytes),(int b.fVariants),(int b.fTables),(int (wr (0+(wr (t - u))))),bt,(mapv d)],.mp d (encm (fun v=>v) [(c,(agg [j,k]))]),.row cb 9 1 ([c]:List Str).length]:=S3
   replace S3:St x z _ ba [ce,.box ab 62 [j,k],.box ac 56 [(str []),(str [])],.box ad 56 [(str []),(str [])],.box ae 56 [(str []),(str aa)],.box af 54 [(str b.fName),(int b.fBytes),(int b.fVariants),(int b.fTables),(boo b.fStrict),(boo b.fRefuse),(ptr l 0),(int 0),(.pointer none)],.box l 136 [(int b.fBytes),(int b.fVariants),(int b.fTables),(int (wr (0+(wr (t - u))))),bt,(mapv d)],.mp d (encm (fun v=>v) [(c,(agg [j,k]))])]:=S3.drop _ (.cons_cons _ (.cons_cons _ (.cons_cons _ (.cons_cons _ (.cons_cons _ (.cons_cons _ (.cons_cons _ (.cons_cons _ (.cons _ .slnil)))))))))
   exact ⟨ba,(ce),bt,p,q,cq,p,q,((am.trans ap).trans a3),S3⟩
  refine Nxt.mk (o:=_) (bm 13 399) rfl rfl<|W.bslice (α:=Str) [(str c)] ([c]:List Str) S el45 rfl rfl rfl (by decide) (Go.Eng.encS ⟨rfl,rfl⟩ enc0) ?_
  intro bi ej bb aj bj S
  have ah:=At.mono ah aj (by simp)
  have p:=Sl.mono p aj
  have q:=Sl.mono q aj
  refine We ?_
  refine WC.next (rs:=[4,5]) ⟨bb,aj,S.drop _ (.cons _ (.cons_cons _ (.cons_cons _ (.cons_cons _ (.cons_cons _ (.cons_cons _ (.cons _ (.cons_cons _ .slnil))))))))⟩ kr (List.cons_ne_nil _ _) (allS ?_ (all1 ?_))
  ·refine Nxt.mk (o:=_) (bm 13 415) rfl rfl ?_
   refine Lo 6 S<|We ?_
   refine WC.next (rs:=[5]) ⟨bb,aj,S.drop _ (.cons _ (.cons_cons _ (.cons_cons _ (.cons_cons _ (.cons_cons _ (.cons_cons _ (.cons _ (.cons_cons _ .slnil))))))))⟩ kr (List.cons_ne_nil _ _) (all1 ?_)
   refine Nxt.mk (o:=_) (bm 13 447) rfl rfl ?_
   refine WL.w (R.mkFunc (vs:=[(.pointer (some ⟨bf,0,none⟩))]) rfl)<|We ?_
   refine WC.next (rs:=[6]) ⟨bb,aj,S.drop _ (.cons _ (.cons_cons _ (.cons_cons _ (.cons_cons _ (.cons_cons _ (.cons_cons _ (.cons _ (.cons_cons _ .slnil))))))))⟩ kr (List.cons_ne_nil _ _) (all1 ?_)
   refine Nxt.mk (o:=_) (bm 13 511) rfl rfl ?_
   have S:=S.addNil 9 1
   replace S:St x z _ bb (.row (.slice none 0 0) 9 1 0 :: [.row bi 9 1 ([c]:List Str).length,.box ab 62 [j,k],.box ac 56 [(str []),(str [])],.box ad 56 [(str []),(str [])],.box ae 56 [(str []),(str aa)],.box af 54 [(str b.fName),(int b.fBytes),(int b.fVariants),(int b.fTables),(boo b.fStrict),(boo b.fRefuse),(ptr l 0),(int 0),(.pointer none)],.box l 136 [(int b.fBytes),(int b.fVariants),(int b.fTables),(int (wr (0+(wr (t - u))))),(.slice none 0 0),(mapv d)],.mp d (encm (fun v=>v) [(c,(agg [j,k]))])]):=S
   refine W.callS rfl (zAB hG ([]:List Str) (fun x0=>zNL x0 c) S MR.nil (fun hle hw hG x0 r h=>zNM hw hG x0 c (At.mono ah hle (by simp)) h) aq) ?_
   rintro ek el bc em a4 S ⟨c8,rfl,c9⟩
   replace S:St x z _ bc [c8,.row bi 9 1 ([c]:List Str).length,.box ab 62 [j,k],.box ac 56 [(str []),(str [])],.box ad 56 [(str []),(str [])],.box ae 56 [(str []),(str aa)],.box af 54 [(str b.fName),(int b.fBytes),(int b.fVariants),(int b.fTables),(boo b.fStrict),(boo b.fRefuse),(ptr l 0),(int 0),(.pointer none)],.box l 136 [(int b.fBytes),(int b.fVariants),(int b.fTables),(int (wr (0+(wr (t - u))))),(.slice none 0 0),(mapv d)],.mp d (encm (fun v=>v) [(c,(agg [j,k]))])]:=S
   have ah:=At.mono ah a4 (by simp)
   have bj:=Sl.mono bj a4
   have p:=Sl.mono p a4
   have q:=Sl.mono q a4
   refine We ?_
   refine WC.next (rs:=[9]) ⟨bc,(aj.trans a4),S.drop _ (.cons _ (.cons _ (.cons_cons _ (.cons_cons _ (.cons_cons _ (.cons_cons _ (.cons_cons _ (.cons _ (.cons_cons _ .slnil)))))))))⟩ kr (List.cons_ne_nil _ _) (all1 ?_)
   refine Nxt.mk (o:=_) (bm 13 1023) rfl rfl<|W.appM (α:=Str) (i:=0) S el45 rfl rfl rfl c9 bj ar ?_
   intro bu cf en cr S
   refine We ?_
   refine WC.take (i:=10) (bm 13 2047) rfl kr kr kr rfl (fun _ _=>(R.nilCheckB rfl)) ?_
   refine WC.take (i:=11) (bm 13 4095) rfl kr kr kr rfl (fun _ _=>(R.fieldB rfl zBH)) ?_
   refine WC.next (rs:=[12]) ⟨bc,(aj.trans a4),S.drop _ (.cons _ (.cons _ (.cons_cons _ (.cons_cons _ (.cons_cons _ (.cons_cons _ (.cons_cons _ (.cons _ (.cons_cons _ .slnil)))))))))⟩ kr (List.cons_ne_nil _ _) (all1 ?_)
   refine Nxt.mk (o:=_) (bm 13 8191) rfl rfl ?_
   refine W.storeMR (α:=Str) (i:=7) [(int b.fBytes),(int b.fVariants),(int b.fTables),(int (wr (0+(wr (t - u))))),bu,(mapv d)] S cr rfl rfl rfl lay45 (Nat.le_of_ble_eq_true rfl) rfl ?_
   intro eo S
   refine We<|WC.done ⟨bc,(aj.trans a4),S.drop _ (.cons _ (.cons _ (.cons_cons _ (.cons_cons _ (.cons_cons _ (.cons_cons _ (.cons_cons _ (.cons _ (.cons_cons _ .slnil)))))))))⟩ kr ?_
   have S3:=S
   replace S3:=S3.front 8 rfl
   replace S3:=S3.front 8 rfl
   replace S3:=S3.front 8 rfl
   replace S3:=S3.front 8 rfl
   replace S3:=S3.front 8 rfl
   replace S3:=S3.front 8 rfl
   replace S3:=S3.front 8 rfl
   replace S3:=S3.front 7 rfl
   replace S3:St x z _ bc [cf,.box ab 62 [j,k],.box ac 56 [(str []),(str [])],.box ad 56 [(str []),(str [])],.box ae 56 [(str []),(str aa)],.box af 54 [(str b.fName),(int b.fBytes),(int b.fVariants),(int b.fTables),(boo b.fStrict),(boo b.fRefuse),(ptr l 0),(int 0),(.pointer none)],.box l 136 [(int b.fBytes),(int b.fVariants),(int b.fTables),(int (wr (0+(wr (t - u))))),bu,(mapv d)],.mp d (encm (fun v=>v) [(c,(agg [j,k]))]),.row bi 9 1 ([c]:List Str).length]:=S3
   replace S3:St x z _ bc [cf,.box ab 62 [j,k],.box ac 56 [(str []),(str [])],.box ad 56 [(str []),(str [])],.box ae 56 [(str []),(str aa)],.box af 54 [(str b.fName),(int b.fBytes),(int b.fVariants),(int b.fTables),(boo b.fStrict),(boo b.fRefuse),(ptr l 0),(int 0),(.pointer none)],.box l 136 [(int b.fBytes),(int b.fVariants),(int b.fTables),(int (wr (0+(wr (t - u))))),bu,(mapv d)],.mp d (encm (fun v=>v) [(c,(agg [j,k]))])]:=S3.drop _ (.cons_cons _ (.cons_cons _ (.cons_cons _ (.cons_cons _ (.cons_cons _ (.cons_cons _ (.cons_cons _ (.cons_cons _ (.cons _ .slnil)))))))))
   exact ⟨bc,(cf),bu,p,q,cr,p,q,((am.trans aj).trans a4),S3⟩
  refine Nxt.mk (o:=_) (bm 13 431) rfl rfl ?_
  refine WL.w (R.mkFunc (vs:=[(.pointer (some ⟨bf,0,none⟩))]) rfl)<|We ?_
  refine WC.next (rs:=[4]) ⟨bb,aj,S.drop _ (.cons _ (.cons_cons _ (.cons_cons _ (.cons_cons _ (.cons_cons _ (.cons_cons _ (.cons _ (.cons_cons _ .slnil))))))))⟩ kr (List.cons_ne_nil _ _) (all1 ?_)
  refine Nxt.mk (o:=_) (bm 13 447) rfl rfl ?_
  refine Lo 6 S<|We ?_
  refine WC.next (rs:=[6]) ⟨bb,aj,S.drop _ (.cons _ (.cons_cons _ (.cons_cons _ (.cons_cons _ (.cons_cons _ (.cons_cons _ (.cons _ (.cons_cons _ .slnil))))))))⟩ kr (List.cons_ne_nil _ _) (all1 ?_)
  refine Nxt.mk (o:=_) (bm 13 511) rfl rfl ?_
  have S:=S.addNil 9 1
  replace S:St x z _ bb (.row (.slice none 0 0) 9 1 0 :: [.row bi 9 1 ([c]:List Str).length,.box ab 62 [j,k],.box ac 56 [(str []),(str [])],.box ad 56 [(str []),(str [])],.box ae 56 [(str []),(str aa)],.box af 54 [(str b.fName),(int b.fBytes),(int b.fVariants),(int b.fTables),(boo b.fStrict),(boo b.fRefuse),(ptr l 0),(int 0),(.pointer none)],.box l 136 [(int b.fBytes),(int b.fVariants),(int b.fTables),(int (wr (0+(wr (t - u))))),(.slice none 0 0),(mapv d)],.mp d (encm (fun v=>v) [(c,(agg [j,k]))])]):=S
  refine W.callS rfl (zAB hG ([]:List Str) (fun x0=>zNL x0 c) S MR.nil (fun hle hw hG x0 r h=>zNM hw hG x0 c (At.mono ah hle (by simp)) h) aq) ?_
  rintro ep eq bd er be S ⟨da,rfl,db⟩
  replace S:St x z _ bd [da,.row bi 9 1 ([c]:List Str).length,.box ab 62 [j,k],.box ac 56 [(str []),(str [])],.box ad 56 [(str []),(str [])],.box ae 56 [(str []),(str aa)],.box af 54 [(str b.fName),(int b.fBytes),(int b.fVariants),(int b.fTables),(boo b.fStrict),(boo b.fRefuse),(ptr l 0),(int 0),(.pointer none)],.box l 136 [(int b.fBytes),(int b.fVariants),(int b.fTables),(int (wr (0+(wr (t - u))))),(.slice none 0 0),(mapv d)],.mp d (encm (fun v=>v) [(c,(agg [j,k]))])]:=S
  have bj:=Sl.mono bj be
  have p:=Sl.mono p be
  have q:=Sl.mono q be
  refine We ?_
  refine WC.next (rs:=[9]) ⟨bd,(aj.trans be),S.drop _ (.cons _ (.cons _ (.cons_cons _ (.cons_cons _ (.cons_cons _ (.cons_cons _ (.cons_cons _ (.cons _ (.cons_cons _ .slnil)))))))))⟩ kr (List.cons_ne_nil _ _) (all1 ?_)
  refine Nxt.mk (o:=_) (bm 13 1023) rfl rfl<|W.appM (α:=Str) (i:=0) S el45 rfl rfl rfl db bj ar ?_
  intro bv cg es cs S
  refine We ?_
  refine WC.take (i:=10) (bm 13 2047) rfl kr kr kr rfl (fun _ _=>(R.nilCheckB rfl)) ?_
  refine WC.take (i:=11) (bm 13 4095) rfl kr kr kr rfl (fun _ _=>(R.fieldB rfl zBH)) ?_
  refine WC.next (rs:=[12]) ⟨bd,(aj.trans be),S.drop _ (.cons _ (.cons _ (.cons_cons _ (.cons_cons _ (.cons_cons _ (.cons_cons _ (.cons_cons _ (.cons _ (.cons_cons _ .slnil)))))))))⟩ kr (List.cons_ne_nil _ _) (all1 ?_)
  refine Nxt.mk (o:=_) (bm 13 8191) rfl rfl ?_
  refine W.storeMR (α:=Str) (i:=7) [(int b.fBytes),(int b.fVariants),(int b.fTables),(int (wr (0+(wr (t - u))))),bv,(mapv d)] S cs rfl rfl rfl lay45 (Nat.le_of_ble_eq_true rfl) rfl ?_
  intro et S
  refine We<|WC.done ⟨bd,(aj.trans be),S.drop _ (.cons _ (.cons _ (.cons_cons _ (.cons_cons _ (.cons_cons _ (.cons_cons _ (.cons_cons _ (.cons _ (.cons_cons _ .slnil)))))))))⟩ kr ?_
  have S3:=S
  replace S3:=S3.front 8 rfl
  replace S3:=S3.front 8 rfl
  replace S3:=S3.front 8 rfl
  replace S3:=S3.front 8 rfl
  replace S3:=S3.front 8 rfl
  replace S3:=S3.front 8 rfl
  replace S3:=S3.front 8 rfl
  replace S3:=S3.front 7 rfl
  replace S3:St x z _ bd [cg,.box ab 62 [j,k],.box ac 56 [(str []),(str [])],.box ad 56 [(str []),(str [])],.box ae 56 [(str []),(str aa)],.box af 54 [(str b.fName),(int b.fBytes),(int b.fVariants),(int b.fTables),(boo b.fStrict),(boo b.fRefuse),(ptr l 0),(int 0),(.pointer none)],.box l 136 [(int b.fBytes),(int b.fVariants),(int b.fTables),(int (wr (0+(wr (t - u))))),bv,(mapv d)],.mp d (encm (fun v=>v) [(c,(agg [j,k]))]),.row bi 9 1 ([c]:List Str).length]:=S3
  replace S3:St x z _ bd [cg,.box ab 62 [j,k],.box ac 56 [(str []),(str [])],.box ad 56 [(str []),(str [])],.box ae 56 [(str []),(str aa)],.box af 54 [(str b.fName),(int b.fBytes),(int b.fVariants),(int b.fTables),(boo b.fStrict),(boo b.fRefuse),(ptr l 0),(int 0),(.pointer none)],.box l 136 [(int b.fBytes),(int b.fVariants),(int b.fTables),(int (wr (0+(wr (t - u))))),bv,(mapv d)],.mp d (encm (fun v=>v) [(c,(agg [j,k]))])]:=S3.drop _ (.cons_cons _ (.cons_cons _ (.cons_cons _ (.cons_cons _ (.cons_cons _ (.cons_cons _ (.cons_cons _ (.cons_cons _ (.cons _ .slnil)))))))))
  exact ⟨bd,(cg),bv,p,q,cs,p,q,((am.trans aj).trans be),S3⟩
 rintro f w ⟨an,a5,a6,dc,dd,de,p,q,df,S⟩
 refine In.zeroN rfl  ?_
 obtain rfl:=oi h
 exact hK a5 a6 an df dc dd de p q _ S
end Go.Proofs
