/- A part of the proof of laws of the seat: written by program over the translation. -/
import Derived.Test.YtljjaiijlaeoeaaGreatDoorEng38
import Derived.Test.YtljjaiijlaeoeaaGreatDoorEng36
import Derived.Test.YtljjaiijlaeoeaaGreatDoorGenP16
namespace Go.Proofs
set_option maxHeartbeats 4000000
set_option maxRecDepth 10000
open Go.Eng Go.Eng.Pure
set_option linter.unusedVariables false
theorem zIo {w0:World} {H0:Hp} (hw:Holds w0 H0) (hG:Tryz.Gl w0) {c:GConfig} {ae:Str} {k:(GRequest×GURI×Unit)} {ab:Str} {d:(GResponse×Int×Int)} {cz:(List GField)} {j:(GEntry×(List GAxis))} {p:Nat} {r:Value} {t:Value} {u:Value} {x:Value} {bj:Value} {av:Nat} {aw:Nat} {ap:Value} {af:Nat} {ax:Nat} {z:Value} {ay:Nat} {ah:Nat} {ai:Nat} {az:Nat} {aq:Value} {aj:Nat} {q:Nat} {ar:Hp} {w:World} (S:St w0 H0 w ar [.box av 92 [r,t,u,(str j.1.fReason),x,(str j.1.fBody),(int j.1.fRequested),(int j.1.fReceived)],.box aw 24 [(int 1),(int d.1.fStatus),(str d.1.fReason),ap,(str d.1.fBody)],.box af 56 [(str []),(str [])],.box ax 24 [(int d.1.fMinor),(int d.1.fStatus),(str d.1.fReason),z,(str d.1.fBody)],.box ay 24 [(int d.1.fMinor),(int d.1.fStatus),(str d.1.fReason),z,(str d.1.fBody)],.box ah 56 [(str []),(str [])],.box ai 56 [(str []),(str ae)],.box az 111 [(str k.1.fMethod),(str k.1.fTarget),(int k.1.fMinor),aq,(str k.1.fBody),(str k.2.1.fHost),(int k.2.1.fPort),(str k.2.1.fPath),(str k.2.1.fQuery),(boo k.2.1.fHasQuery),(str ab),(int 0),(boo false),(int 0),(.slice none 0 0),(.slice none 0 0),(.slice none 0 0),(str []),(.slice none 0 0),(str []),(int 0),(int 0)],.box aj 54 [(str c.fName),(int c.fBytes),(int c.fVariants),(int c.fTables),(boo c.fStrict),(boo c.fRefuse),(ptr p 0),(int 0),(.pointer none)],.box p 136 [(int c.fBytes),(int c.fVariants),(int c.fTables),(int 0),(.slice none 0 0),(mapv q)],.mp q []]) (ak:Sl (α:=(List Str)) ar r j.1.fKeys) (al:Sl (α:=Str) ar t j.1.fVary) (am:Sl (α:=Str) ar u j.1.fSnapshot) (an:Sl (α:=GField) ar x j.1.fFields) (ao:Sl (α:=GAxis) ar bj j.2) (a1:Sl (α:=GField) ar ap cz) (a2:Sl (α:=GField) ar z d.1.fFields) (a3:Sl (α:=GField) ar aq k.1.fFields) {bk:Int} {bn:Int} {b5:(List Str)} {a8:GTable} (h:zCb c ab j=some (bk,bn,b5,a8)) {K:Value→World→Prop}
  (hK:∀ (bt:Ent) (bo:Value) (a6:Value) (a7:Value) (Hz:Hp),ar.le Hz→MR (α:=Str) Hz bt 9 bo b5→Sl (α:=GAxis) Hz a6 a8.fAxes→Sl (α:=GEntry) Hz a7 a8.fEntries→∀ w',St w0 H0 w' Hz [bt,.box af 56 [(str []),(str [])],.box ah 56 [(str []),(str [])],.box ai 56 [(str []),(str ae)],.box aj 54 [(str c.fName),(int c.fBytes),(int c.fVariants),(int c.fTables),(boo c.fStrict),(boo c.fRefuse),(ptr p 0),(int 0),(.pointer none)],.box p 136 [(int c.fBytes),(int c.fVariants),(int c.fTables),(int (wr (0+(wr (bk - bn))))),bo,(mapv q)],.mp q (encm (fun v=>v) [(ab,(agg [a6,a7]))])]→K (boo true) w') :
  CallK Tryz.prog 128 [(ptr p 0),(str ab),(agg [r,t,u,(str j.1.fReason),x,(str j.1.fBody),(int j.1.fRequested),(int j.1.fReceived)]),bj] w K:=by
 unfold zCb at h
 refine zBB (N':=59) Tryz.func128 rfl rfl kr rfl<|Ws<|Wg ?_
 refine W.box [r,t,u,(str j.1.fReason),x,(str j.1.fBody),(int j.1.fRequested),(int j.1.fReceived)] S rfl rfl ?_
 intro a0 ea S
 refine A<|We<|Ws<|Ws<|B h fun b6 cb h=>B h fun b7 bb h=>WP.cut (fun f w=>∃ (a5:Hp),f 0=(ptr p 0)∧f 1=(str ab)∧f 3=bj∧f 6=(ptr a0 0)∧f 31=(boo b7)∧Sl (α:=GAxis) a5 bj j.2∧Sl (α:=(List Str)) a5 r j.1.fKeys∧Sl (α:=Str) a5 t j.1.fVary∧Sl (α:=Str) a5 u j.1.fSnapshot∧Sl (α:=GField) a5 x j.1.fFields∧Sl (α:=GField) a5 ap cz∧Sl (α:=GField) a5 z d.1.fFields∧Sl (α:=GField) a5 aq k.1.fFields∧Hp.le ar a5∧St w0 H0 w a5 [.box a0 92 [r,t,u,(str j.1.fReason),x,(str j.1.fBody),(int j.1.fRequested),(int j.1.fReceived)],.box av 92 [r,t,u,(str j.1.fReason),x,(str j.1.fBody),(int j.1.fRequested),(int j.1.fReceived)],.box aw 24 [(int 1),(int d.1.fStatus),(str d.1.fReason),ap,(str d.1.fBody)],.box af 56 [(str []),(str [])],.box ax 24 [(int d.1.fMinor),(int d.1.fStatus),(str d.1.fReason),z,(str d.1.fBody)],.box ay 24 [(int d.1.fMinor),(int d.1.fStatus),(str d.1.fReason),z,(str d.1.fBody)],.box ah 56 [(str []),(str [])],.box ai 56 [(str []),(str ae)],.box az 111 [(str k.1.fMethod),(str k.1.fTarget),(int k.1.fMinor),aq,(str k.1.fBody),(str k.2.1.fHost),(int k.2.1.fPort),(str k.2.1.fPath),(str k.2.1.fQuery),(boo k.2.1.fHasQuery),(str ab),(int 0),(boo false),(int 0),(.slice none 0 0),(.slice none 0 0),(.slice none 0 0),(str []),(.slice none 0 0),(str []),(int 0),(int 0)],.box aj 54 [(str c.fName),(int c.fBytes),(int c.fVariants),(int c.fTables),(boo c.fStrict),(boo c.fRefuse),(ptr p 0),(int 0),(.pointer none)],.box p 136 [(int c.fBytes),(int c.fVariants),(int c.fTables),(int 0),(.slice none 0 0),(mapv q)],.mp q []]) ?_ ?_
 ·refine WP.drawC (Cl w0 H0 ar [.box a0 92 [r,t,u,(str j.1.fReason),x,(str j.1.fBody),(int j.1.fRequested),(int j.1.fReceived)],.box av 92 [r,t,u,(str j.1.fReason),x,(str j.1.fBody),(int j.1.fRequested),(int j.1.fReceived)],.box aw 24 [(int 1),(int d.1.fStatus),(str d.1.fReason),ap,(str d.1.fBody)],.box af 56 [(str []),(str [])],.box ax 24 [(int d.1.fMinor),(int d.1.fStatus),(str d.1.fReason),z,(str d.1.fBody)],.box ay 24 [(int d.1.fMinor),(int d.1.fStatus),(str d.1.fReason),z,(str d.1.fBody)],.box ah 56 [(str []),(str [])],.box ai 56 [(str []),(str ae)],.box az 111 [(str k.1.fMethod),(str k.1.fTarget),(int k.1.fMinor),aq,(str k.1.fBody),(str k.2.1.fHost),(int k.2.1.fPort),(str k.2.1.fPath),(str k.2.1.fQuery),(boo k.2.1.fHasQuery),(str ab),(int 0),(boo false),(int 0),(.slice none 0 0),(.slice none 0 0),(.slice none 0 0),(str []),(.slice none 0 0),(str []),(int 0),(int 0)],.box aj 54 [(str c.fName),(int c.fBytes),(int c.fVariants),(int c.fTables),(boo c.fStrict),(boo c.fRefuse),(ptr p 0),(int 0),(.pointer none)]]) kr 22 rfl (bm 22 0) rfl ?_
  have S:=S.drew
  rcases boolE (decide (c.fBytes<b6)) with aa | aa
  ·replace bb:=condT bb aa
   refine WC.take (i:=0) (bm 22 1) rfl kr kr kr rfl (fun _ _=>(R.mv (v:=ptr p 0) rfl)) ?_
   refine WC.next (rs:=[1]) ⟨ar,(Hp.le.refl _),S.drop _ (.cons_cons _ (.cons_cons _ (.cons_cons _ (.cons_cons _ (.cons_cons _ (.cons_cons _ (.cons_cons _ (.cons_cons _ (.cons_cons _ (.cons_cons _ (.cons _ (.cons _ .slnil))))))))))))⟩ kr (List.cons_ne_nil _ _) (all1 ?_)
   refine Nxt.mk (o:=_) (bm 22 3) rfl rfl<|W.inl (args:=[(ptr p 0)]) rfl (N':=12) Tryz.func78 rfl rfl kr rfl<|Ws<|Wg<|A<|We<|Ws<|Wg<|M ?_
   refine WL.w (v:=boo true) (R.ofEq (R.neqPN rfl rfl Tryz.underlying51) rfl)<|M<|Gy rfl ?_
   refine M<|Gy rfl<|Nn<|Gy rfl<|Fb<|Gy rfl ?_
   refine Lo 10 S<|Gy rfl ?_
   refine WL.w (v:=boo true) (R.ofEq (R.neqMN rfl rfl Tryz.underlying134) rfl)<|Pt rfl<|A<|We ?_
   refine WP.ret (In.one rfl rfl ?_)
   refine We ?_
   refine WC.take (i:=2) (v:=boo false) (bm 22 7) rfl kr kr kr rfl (fun _ _=>(R.ofEq (R.not rfl) rfl)) ?_
   refine WC.take (i:=3) (bm 22 15) rfl kr kr kr rfl (fun _ _=>(R.mv (v:=boo false) rfl)) ?_
   refine WC.takeY (i:=4) (bm 22 31) rfl rfl rfl rfl kr kr kr rfl (fun w hw=>by obtain ⟨_,hq,S⟩:=hw; exact (R.loadBN (i:=0) (vs:=[r,t,u,(str j.1.fReason),x,(str j.1.fBody),(int j.1.fRequested),(int j.1.fReceived)]) S rfl rfl lay92 rfl rfl)) ?_
   refine WC.takeY (i:=6) (bm 22 95) rfl rfl rfl rfl kr kr kr rfl (fun _ _=>(R.mv (v:=ptr p 0) rfl)) ?_
   refine WC.takeY (i:=7) (bm 22 223) rfl rfl rfl rfl kr kr kr rfl (fun _ _=>(R.nilCheckB rfl)) ?_
   refine WC.takeY (i:=8) (bm 22 479) rfl rfl rfl rfl kr kr kr rfl (fun _ _=>(R.fieldB rfl zKF)) ?_
   refine WC.next (rs:=[5,9]) ⟨ar,(Hp.le.refl _),S.drop _ (.cons_cons _ (.cons_cons _ (.cons_cons _ (.cons_cons _ (.cons_cons _ (.cons_cons _ (.cons_cons _ (.cons_cons _ (.cons_cons _ (.cons_cons _ (.cons _ (.cons _ .slnil))))))))))))⟩ kr (List.cons_ne_nil _ _) (allS ?_ (all1 ?_))
   ·refine Nxt.mk (o:=_) (bm 22 511) rfl rfl<|Gy rfl<|W.call S rfl (zBb S.holds (hG.post S.post) j.1 ak al am an cb) ?_
    rintro eb ec cf bp S rfl
    have ao:=Sl.mono ao bp
    have ak:=Sl.mono ak bp
    have al:=Sl.mono al bp
    have am:=Sl.mono am bp
    have an:=Sl.mono an bp
    have a1:=Sl.mono a1 bp
    have a2:=Sl.mono a2 bp
    have a3:=Sl.mono a3 bp
    refine We ?_
    refine WC.next (rs:=[9]) ⟨cf,bp,S.drop _ (.cons_cons _ (.cons_cons _ (.cons_cons _ (.cons_cons _ (.cons_cons _ (.cons_cons _ (.cons_cons _ (.cons_cons _ (.cons_cons _ (.cons_cons _ (.cons _ (.cons _ .slnil))))))))))))⟩ kr (List.cons_ne_nil _ _) (all1 ?_)
    refine Nxt.mk (o:=_) (bm 22 1023) rfl rfl<|Gy rfl ?_
    refine Lo 10 S<|We ?_
    refine WC.takeY (i:=10) (bm 22 2047) rfl rfl rfl rfl kr kr kr rfl (fun _ _=>(R.gtr rfl rfl)) ?_
    refine WC.take (i:=11) (bm 22 4095) rfl kr kr kr rfl (fun _ _=>(R.pickF (b:=false) rfl rfl rfl)) ?_
    refine WC.take (i:=12) (bm 22 8191) rfl kr kr kr rfl (fun _ _=>(R.mv (v:=boo (decide (c.fBytes<b6))) rfl))<|WC.takeN (i:=13) (bm 22 16383) rfl rfl rfl aa kr kr kr rfl<|WC.takeN (i:=14) (bm 22 32767) rfl rfl rfl aa kr kr kr rfl<|WC.takeN (i:=15) (bm 22 65535) rfl rfl rfl aa kr kr kr rfl<|WC.takeN (i:=16) (bm 22 131071) rfl rfl rfl aa kr kr kr rfl<|WC.takeU (i:=17) (bm 22 262143) rfl rfl rfl kr kr kr rfl ?_
    refine WC.takeU (i:=18) (bm 22 524287) rfl rfl rfl kr kr kr rfl<|WC.takeU (i:=19) (bm 22 1048575) rfl rfl rfl kr kr kr rfl<|WC.takeN (i:=20) (bm 22 2097151) rfl rfl rfl aa kr kr kr rfl ?_
    refine WC.take (i:=21) (v:=boo b7) (bm 22 4194303) rfl kr kr kr rfl (fun _ _=>(R.ofEq (R.pickT rfl aa rfl) (congrArg boo (oi bb))))<|WC.done ⟨cf,bp,S.drop _ (.cons_cons _ (.cons_cons _ (.cons_cons _ (.cons_cons _ (.cons_cons _ (.cons_cons _ (.cons_cons _ (.cons_cons _ (.cons_cons _ (.cons_cons _ (.cons _ (.cons _ .slnil))))))))))))⟩ kr ?_
    have S3:=S
    replace S3:=S3.front 11 rfl
    replace S3:=S3.front 11 rfl
    replace S3:=S3.front 11 rfl
    replace S3:=S3.front 11 rfl
    replace S3:=S3.front 11 rfl
    replace S3:=S3.front 11 rfl
    replace S3:=S3.front 11 rfl
    replace S3:=S3.front 11 rfl
    replace S3:=S3.front 11 rfl
    replace S3:=S3.front 11 rfl
    replace S3:=S3.front 11 rfl
    replace S3:=S3.front 11 rfl
    replace S3:St w0 H0 _ cf [.box a0 92 [r,t,u,(str j.1.fReason),x,(str j.1.fBody),(int j.1.fRequested),(int j.1.fReceived)],.box av 92 [r,t,u,(str j.1.fReason),x,(str j.1.fBody),(int j.1.fRequested),(int j.1.fReceived)],.box aw 24 [(int 1),(int d.1.fStatus),(str d.1.fReason),ap,(str d.1.fBody)],.box af 56 [(str []),(str [])],.box ax 24 [(int d.1.fMinor),(int d.1.fStatus),(str d.1.fReason),z,(str d.1.fBody)],.box ay 24 [(int d.1.fMinor),(int d.1.fStatus),(str d.1.fReason),z,(str d.1.fBody)],.box ah 56 [(str []),(str [])],.box ai 56 [(str []),(str ae)],.box az 111 [(str k.1.fMethod),(str k.1.fTarget),(int k.1.fMinor),aq,(str k.1.fBody),(str k.2.1.fHost),(int k.2.1.fPort),(str k.2.1.fPath),(str k.2.1.fQuery),(boo k.2.1.fHasQuery),(str ab),(int 0),(boo false),(int 0),(.slice none 0 0),(.slice none 0 0),(.slice none 0 0),(str []),(.slice none 0 0),(str []),(int 0),(int 0)],.box aj 54 [(str c.fName),(int c.fBytes),(int c.fVariants),(int c.fTables),(boo c.fStrict),(boo c.fRefuse),(ptr p 0),(int 0),(.pointer none)],.box p 136 [(int c.fBytes),(int c.fVariants),(int c.fTables),(int 0),(.slice none 0 0),(mapv q)],.mp q []]:=S3
    replace S3:St w0 H0 _ cf [.box a0 92 [r,t,u,(str j.1.fReason),x,(str j.1.fBody),(int j.1.fRequested),(int j.1.fReceived)],.box av 92 [r,t,u,(str j.1.fReason),x,(str j.1.fBody),(int j.1.fRequested),(int j.1.fReceived)],.box aw 24 [(int 1),(int d.1.fStatus),(str d.1.fReason),ap,(str d.1.fBody)],.box af 56 [(str []),(str [])],.box ax 24 [(int d.1.fMinor),(int d.1.fStatus),(str d.1.fReason),z,(str d.1.fBody)],.box ay 24 [(int d.1.fMinor),(int d.1.fStatus),(str d.1.fReason),z,(str d.1.fBody)],.box ah 56 [(str []),(str [])],.box ai 56 [(str []),(str ae)],.box az 111 [(str k.1.fMethod),(str k.1.fTarget),(int k.1.fMinor),aq,(str k.1.fBody),(str k.2.1.fHost),(int k.2.1.fPort),(str k.2.1.fPath),(str k.2.1.fQuery),(boo k.2.1.fHasQuery),(str ab),(int 0),(boo false),(int 0),(.slice none 0 0),(.slice none 0 0),(.slice none 0 0),(str []),(.slice none 0 0),(str []),(int 0),(int 0)],.box aj 54 [(str c.fName),(int c.fBytes),(int c.fVariants),(int c.fTables),(boo c.fStrict),(boo c.fRefuse),(ptr p 0),(int 0),(.pointer none)],.box p 136 [(int c.fBytes),(int c.fVariants),(int c.fTables),(int 0),(.slice none 0 0),(mapv q)],.mp q []]:=S3.drop _ (.cons_cons _ (.cons_cons _ (.cons_cons _ (.cons_cons _ (.cons_cons _ (.cons_cons _ (.cons_cons _ (.cons_cons _ (.cons_cons _ (.cons_cons _ (.cons_cons _ (.cons_cons _ .slnil))))))))))))
    exact ⟨cf,rfl,rfl,rfl,rfl,rfl,ao,ak,al,am,an,a1,a2,a3,bp,S3⟩
   refine Nxt.mk (o:=_) (bm 22 991) rfl rfl<|Gy rfl ?_
   refine Lo 10 S<|We ?_
   refine WC.next (rs:=[5]) ⟨ar,(Hp.le.refl _),S.drop _ (.cons_cons _ (.cons_cons _ (.cons_cons _ (.cons_cons _ (.cons_cons _ (.cons_cons _ (.cons_cons _ (.cons_cons _ (.cons_cons _ (.cons_cons _ (.cons _ (.cons _ .slnil))))))))))))⟩ kr (List.cons_ne_nil _ _) (all1 ?_)
   refine Nxt.mk (o:=_) (bm 22 1023) rfl rfl<|Gy rfl<|W.call S rfl (zBb S.holds (hG.post S.post) j.1 ak al am an cb) ?_
   rintro ed ee cr bu S rfl
   have ao:=Sl.mono ao bu
   have ak:=Sl.mono ak bu
   have al:=Sl.mono al bu
   have am:=Sl.mono am bu
   have an:=Sl.mono an bu
   have a1:=Sl.mono a1 bu
   have a2:=Sl.mono a2 bu
   have a3:=Sl.mono a3 bu
   refine We ?_
   refine WC.takeY (i:=10) (bm 22 2047) rfl rfl rfl rfl kr kr kr rfl (fun _ _=>(R.gtr rfl rfl)) ?_
   refine WC.take (i:=11) (bm 22 4095) rfl kr kr kr rfl (fun _ _=>(R.pickF (b:=false) rfl rfl rfl)) ?_
   refine WC.take (i:=12) (bm 22 8191) rfl kr kr kr rfl (fun _ _=>(R.mv (v:=boo (decide (c.fBytes<b6))) rfl))<|WC.takeN (i:=13) (bm 22 16383) rfl rfl rfl aa kr kr kr rfl<|WC.takeN (i:=14) (bm 22 32767) rfl rfl rfl aa kr kr kr rfl<|WC.takeN (i:=15) (bm 22 65535) rfl rfl rfl aa kr kr kr rfl<|WC.takeN (i:=16) (bm 22 131071) rfl rfl rfl aa kr kr kr rfl<|WC.takeU (i:=17) (bm 22 262143) rfl rfl rfl kr kr kr rfl<|WC.takeU (i:=18) (bm 22 524287) rfl rfl rfl kr kr kr rfl<|WC.takeU (i:=19) (bm 22 1048575) rfl rfl rfl kr kr kr rfl<|WC.takeN (i:=20) (bm 22 2097151) rfl rfl rfl aa kr kr kr rfl ?_
   refine WC.take (i:=21) (v:=boo b7) (bm 22 4194303) rfl kr kr kr rfl (fun _ _=>(R.ofEq (R.pickT rfl aa rfl) (congrArg boo (oi bb))))<|WC.done ⟨cr,bu,S.drop _ (.cons_cons _ (.cons_cons _ (.cons_cons _ (.cons_cons _ (.cons_cons _ (.cons_cons _ (.cons_cons _ (.cons_cons _ (.cons_cons _ (.cons_cons _ (.cons _ (.cons _ .slnil))))))))))))⟩ kr ?_
   have S3:=S
   replace S3:=S3.front 11 rfl
   replace S3:=S3.front 11 rfl
   replace S3:=S3.front 11 rfl
   replace S3:=S3.front 11 rfl
   replace S3:=S3.front 11 rfl
   replace S3:=S3.front 11 rfl
   replace S3:=S3.front 11 rfl
   replace S3:=S3.front 11 rfl
   replace S3:=S3.front 11 rfl
   replace S3:=S3.front 11 rfl
   replace S3:=S3.front 11 rfl
   replace S3:=S3.front 11 rfl
   replace S3:St w0 H0 _ cr [.box a0 92 [r,t,u,(str j.1.fReason),x,(str j.1.fBody),(int j.1.fRequested),(int j.1.fReceived)],.box av 92 [r,t,u,(str j.1.fReason),x,(str j.1.fBody),(int j.1.fRequested),(int j.1.fReceived)],.box aw 24 [(int 1),(int d.1.fStatus),(str d.1.fReason),ap,(str d.1.fBody)],.box af 56 [(str []),(str [])],.box ax 24 [(int d.1.fMinor),(int d.1.fStatus),(str d.1.fReason),z,(str d.1.fBody)],.box ay 24 [(int d.1.fMinor),(int d.1.fStatus),(str d.1.fReason),z,(str d.1.fBody)],.box ah 56 [(str []),(str [])],.box ai 56 [(str []),(str ae)],.box az 111 [(str k.1.fMethod),(str k.1.fTarget),(int k.1.fMinor),aq,(str k.1.fBody),(str k.2.1.fHost),(int k.2.1.fPort),(str k.2.1.fPath),(str k.2.1.fQuery),(boo k.2.1.fHasQuery),(str ab),(int 0),(boo false),(int 0),(.slice none 0 0),(.slice none 0 0),(.slice none 0 0),(str []),(.slice none 0 0),(str []),(int 0),(int 0)],.box aj 54 [(str c.fName),(int c.fBytes),(int c.fVariants),(int c.fTables),(boo c.fStrict),(boo c.fRefuse),(ptr p 0),(int 0),(.pointer none)],.box p 136 [(int c.fBytes),(int c.fVariants),(int c.fTables),(int 0),(.slice none 0 0),(mapv q)],.mp q []]:=S3
   replace S3:St w0 H0 _ cr [.box a0 92 [r,t,u,(str j.1.fReason),x,(str j.1.fBody),(int j.1.fRequested),(int j.1.fReceived)],.box av 92 [r,t,u,(str j.1.fReason),x,(str j.1.fBody),(int j.1.fRequested),(int j.1.fReceived)],.box aw 24 [(int 1),(int d.1.fStatus),(str d.1.fReason),ap,(str d.1.fBody)],.box af 56 [(str []),(str [])],.box ax 24 [(int d.1.fMinor),(int d.1.fStatus),(str d.1.fReason),z,(str d.1.fBody)],.box ay 24 [(int d.1.fMinor),(int d.1.fStatus),(str d.1.fReason),z,(str d.1.fBody)],.box ah 56 [(str []),(str [])],.box ai 56 [(str []),(str ae)],.box az 111 [(str k.1.fMethod),(str k.1.fTarget),(int k.1.fMinor),aq,(str k.1.fBody),(str k.2.1.fHost),(int k.2.1.fPort),(str k.2.1.fPath),(str k.2.1.fQuery),(boo k.2.1.fHasQuery),(str ab),(int 0),(boo false),(int 0),(.slice none 0 0),(.slice none 0 0),(.slice none 0 0),(str []),(.slice none 0 0),(str []),(int 0),(int 0)],.box aj 54 [(str c.fName),(int c.fBytes),(int c.fVariants),(int c.fTables),(boo c.fStrict),(boo c.fRefuse),(ptr p 0),(int 0),(.pointer none)],.box p 136 [(int c.fBytes),(int c.fVariants),(int c.fTables),(int 0),(.slice none 0 0),(mapv q)],.mp q []]:=S3.drop _ (.cons_cons _ (.cons_cons _ (.cons_cons _ (.cons_cons _ (.cons_cons _ (.cons_cons _ (.cons_cons _ (.cons_cons _ (.cons_cons _ (.cons_cons _ (.cons_cons _ (.cons_cons _ .slnil))))))))))))
   exact ⟨cr,rfl,rfl,rfl,rfl,rfl,ao,ak,al,am,an,a1,a2,a3,bu,S3⟩
  replace bb:=condF bb aa
  refine B bb fun cs bv bb=>?_
  rcases boolE (decide (0<(j.2.length:Int))) with a4 | a4
  ·replace bv:=condT bv a4
   refine B bv fun ef db bv=>?_
   refine WC.take (i:=0) (bm 22 1) rfl kr kr kr rfl (fun _ _=>(R.mv (v:=ptr p 0) rfl)) ?_
   refine WC.next (rs:=[1]) ⟨ar,(Hp.le.refl _),S.drop _ (.cons_cons _ (.cons_cons _ (.cons_cons _ (.cons_cons _ (.cons_cons _ (.cons_cons _ (.cons_cons _ (.cons_cons _ (.cons_cons _ (.cons_cons _ (.cons _ (.cons _ .slnil))))))))))))⟩ kr (List.cons_ne_nil _ _) (all1 ?_)
   refine Nxt.mk (o:=_) (bm 22 3) rfl rfl<|W.inl (args:=[(ptr p 0)]) rfl (N':=12) Tryz.func78 rfl rfl kr rfl<|Ws<|Wg<|A<|We<|Ws<|Wg<|M ?_
   refine WL.w (v:=boo true) (R.ofEq (R.neqPN rfl rfl Tryz.underlying51) rfl)<|M<|Gy rfl ?_
   refine M<|Gy rfl<|Nn<|Gy rfl<|Fb<|Gy rfl ?_
   refine Lo 10 S<|Gy rfl ?_
   refine WL.w (v:=boo true) (R.ofEq (R.neqMN rfl rfl Tryz.underlying134) rfl)<|Pt rfl<|A<|We ?_
   refine WP.ret (In.one rfl rfl ?_)
   refine We ?_
   refine WC.take (i:=2) (v:=boo false) (bm 22 7) rfl kr kr kr rfl (fun _ _=>(R.ofEq (R.not rfl) rfl)) ?_
   refine WC.take (i:=3) (bm 22 15) rfl kr kr kr rfl (fun _ _=>(R.mv (v:=boo false) rfl)) ?_
   refine WC.takeY (i:=4) (bm 22 31) rfl rfl rfl rfl kr kr kr rfl (fun w hw=>by obtain ⟨_,hq,S⟩:=hw; exact (R.loadBN (i:=0) (vs:=[r,t,u,(str j.1.fReason),x,(str j.1.fBody),(int j.1.fRequested),(int j.1.fReceived)]) S rfl rfl lay92 rfl rfl)) ?_
   refine WC.takeY (i:=6) (bm 22 95) rfl rfl rfl rfl kr kr kr rfl (fun _ _=>(R.mv (v:=ptr p 0) rfl)) ?_
   refine WC.takeY (i:=7) (bm 22 223) rfl rfl rfl rfl kr kr kr rfl (fun _ _=>(R.nilCheckB rfl)) ?_
   refine WC.takeY (i:=8) (bm 22 479) rfl rfl rfl rfl kr kr kr rfl (fun _ _=>(R.fieldB rfl zKF)) ?_
   refine WC.next (rs:=[5,9]) ⟨ar,(Hp.le.refl _),S.drop _ (.cons_cons _ (.cons_cons _ (.cons_cons _ (.cons_cons _ (.cons_cons _ (.cons_cons _ (.cons_cons _ (.cons_cons _ (.cons_cons _ (.cons_cons _ (.cons _ (.cons _ .slnil))))))))))))⟩ kr (List.cons_ne_nil _ _) (allS ?_ (all1 ?_))
   ·refine Nxt.mk (o:=_) (bm 22 511) rfl rfl<|Gy rfl<|W.call S rfl (zBb S.holds (hG.post S.post) j.1 ak al am an cb) ?_
    rintro eg eh c0 bc S rfl
    have ao:=Sl.mono ao bc
    have ak:=Sl.mono ak bc
    have al:=Sl.mono al bc
    have am:=Sl.mono am bc
    have an:=Sl.mono an bc
    have a1:=Sl.mono a1 bc
    have a2:=Sl.mono a2 bc
    have a3:=Sl.mono a3 bc
    refine We ?_
    refine WC.next (rs:=[9]) ⟨c0,bc,S.drop _ (.cons_cons _ (.cons_cons _ (.cons_cons _ (.cons_cons _ (.cons_cons _ (.cons_cons _ (.cons_cons _ (.cons_cons _ (.cons_cons _ (.cons_cons _ (.cons _ (.cons _ .slnil))))))))))))⟩ kr (List.cons_ne_nil _ _) (all1 ?_)
    refine Nxt.mk (o:=_) (bm 22 1023) rfl rfl<|Gy rfl ?_
    refine Lo 10 S<|We ?_
    refine WC.takeY (i:=10) (bm 22 2047) rfl rfl rfl rfl kr kr kr rfl (fun _ _=>(R.gtr rfl rfl)) ?_
    refine WC.take (i:=11) (bm 22 4095) rfl kr kr kr rfl (fun _ _=>(R.pickF (b:=false) rfl rfl rfl)) ?_
    refine WC.take (i:=12) (bm 22 8191) rfl kr kr kr rfl (fun _ _=>(R.mv (v:=boo (decide (c.fBytes<b6))) rfl)) ?_
    refine WC.takeY (i:=13) (bm 22 16383) rfl rfl rfl aa kr kr kr rfl (fun _ _=>(R.mv (v:=bj) rfl)) ?_
    refine WC.takeY (i:=14) (bm 22 32767) rfl rfl rfl aa kr kr kr rfl (fun _ _=>(R.lenL (α:=GAxis) (xs:=j.2) (H:=c0) ao rfl Tryz.underlying59)) ?_
    refine WC.takeY (i:=15) (bm 22 65535) rfl rfl rfl aa kr kr kr rfl (fun _ _=>(R.gtr rfl rfl)) ?_
    refine WC.takeY (i:=16) (bm 22 131071) rfl rfl rfl aa kr kr kr rfl (fun _ _=>(R.mv (v:=boo (decide (0<(j.2.length:Int)))) rfl)) ?_
    refine WC.takeY (i:=17) (bm 22 262143) rfl rfl rfl a4 kr kr kr rfl (fun _ _=>(R.mv (v:=bj) rfl)) ?_
    refine WC.next (rs:=[18]) ⟨c0,bc,S.drop _ (.cons_cons _ (.cons_cons _ (.cons_cons _ (.cons_cons _ (.cons_cons _ (.cons_cons _ (.cons_cons _ (.cons_cons _ (.cons_cons _ (.cons_cons _ (.cons _ (.cons _ .slnil))))))))))))⟩ kr (List.cons_ne_nil _ _) (all1 ?_)
    refine Nxt.mk (o:=_) (bm 22 524287) rfl rfl<|Gy a4<|W.call S rfl (zEE S.holds (hG.post S.post) j.2 ao db) ?_
    rintro ei ej ct bw S rfl
    have ao:=Sl.mono ao bw
    have ak:=Sl.mono ak bw
    have al:=Sl.mono al bw
    have am:=Sl.mono am bw
    have an:=Sl.mono an bw
    have a1:=Sl.mono a1 bw
    have a2:=Sl.mono a2 bw
    have a3:=Sl.mono a3 bw
    refine We ?_
    refine WC.takeY (i:=19) (bm 22 1048575) rfl rfl rfl a4 kr kr kr rfl (fun _ _=>(R.not rfl)) ?_
    refine WC.takeY (i:=20) (v:=boo cs) (bm 22 2097151) rfl rfl rfl aa kr kr kr rfl (fun _ _=>(R.ofEq (R.pickT rfl a4 rfl) (congrArg boo (oi bv)))) ?_
    refine WC.take (i:=21) (v:=boo b7) (bm 22 4194303) rfl kr kr kr rfl (fun _ _=>(R.ofEq (R.pickF rfl aa rfl) (congrArg boo (oi bb))))<|WC.done ⟨ct,(bc.trans bw),S.drop _ (.cons_cons _ (.cons_cons _ (.cons_cons _ (.cons_cons _ (.cons_cons _ (.cons_cons _ (.cons_cons _ (.cons_cons _ (.cons_cons _ (.cons_cons _ (.cons _ (.cons _ .slnil))))))))))))⟩ kr ?_
    have S3:=S
    replace S3:=S3.front 11 rfl
    replace S3:=S3.front 11 rfl
    replace S3:=S3.front 11 rfl
    replace S3:=S3.front 11 rfl
    replace S3:=S3.front 11 rfl
    replace S3:=S3.front 11 rfl
    replace S3:=S3.front 11 rfl
    replace S3:=S3.front 11 rfl
    replace S3:=S3.front 11 rfl
    replace S3:=S3.front 11 rfl
    replace S3:=S3.front 11 rfl
    replace S3:=S3.front 11 rfl
    replace S3:St w0 H0 _ ct [.box a0 92 [r,t,u,(str j.1.fReason),x,(str j.1.fBody),(int j.1.fRequested),(int j.1.fReceived)],.box av 92 [r,t,u,(str j.1.fReason),x,(str j.1.fBody),(int j.1.fRequested),(int j.1.fReceived)],.box aw 24 [(int 1),(int d.1.fStatus),(str d.1.fReason),ap,(str d.1.fBody)],.box af 56 [(str []),(str [])],.box ax 24 [(int d.1.fMinor),(int d.1.fStatus),(str d.1.fReason),z,(str d.1.fBody)],.box ay 24 [(int d.1.fMinor),(int d.1.fStatus),(str d.1.fReason),z,(str d.1.fBody)],.box ah 56 [(str []),(str [])],.box ai 56 [(str []),(str ae)],.box az 111 [(str k.1.fMethod),(str k.1.fTarget),(int k.1.fMinor),aq,(str k.1.fBody),(str k.2.1.fHost),(int k.2.1.fPort),(str k.2.1.fPath),(str k.2.1.fQuery),(boo k.2.1.fHasQuery),(str ab),(int 0),(boo false),(int 0),(.slice none 0 0),(.slice none 0 0),(.slice none 0 0),(str []),(.slice none 0 0),(str []),(int 0),(int 0)],.box aj 54 [(str c.fName),(int c.fBytes),(int c.fVariants),(int c.fTables),(boo c.fStrict),(boo c.fRefuse),(ptr p 0),(int 0),(.pointer none)],.box p 136 [(int c.fBytes),(int c.fVariants),(int c.fTables),(int 0),(.slice none 0 0),(mapv q)],.mp q []]:=S3
    replace S3:St w0 H0 _ ct [.box a0 92 [r,t,u,(str j.1.fReason),x,(str j.1.fBody),(int j.1.fRequested),(int j.1.fReceived)],.box av 92 [r,t,u,(str j.1.fReason),x,(str j.1.fBody),(int j.1.fRequested),(int j.1.fReceived)],.box aw 24 [(int 1),(int d.1.fStatus),(str d.1.fReason),ap,(str d.1.fBody)],.box af 56 [(str []),(str [])],.box ax 24 [(int d.1.fMinor),(int d.1.fStatus),(str d.1.fReason),z,(str d.1.fBody)],.box ay 24 [(int d.1.fMinor),(int d.1.fStatus),(str d.1.fReason),z,(str d.1.fBody)],.box ah 56 [(str []),(str [])],.box ai 56 [(str []),(str ae)],.box az 111 [(str k.1.fMethod),(str k.1.fTarget),(int k.1.fMinor),aq,(str k.1.fBody),(str k.2.1.fHost),(int k.2.1.fPort),(str k.2.1.fPath),(str k.2.1.fQuery),(boo k.2.1.fHasQuery),(str ab),(int 0),(boo false),(int 0),(.slice none 0 0),(.slice none 0 0),(.slice none 0 0),(str []),(.slice none 0 0),(str []),(int 0),(int 0)],.box aj 54 [(str c.fName),(int c.fBytes),(int c.fVariants),(int c.fTables),(boo c.fStrict),(boo c.fRefuse),(ptr p 0),(int 0),(.pointer none)],.box p 136 [(int c.fBytes),(int c.fVariants),(int c.fTables),(int 0),(.slice none 0 0),(mapv q)],.mp q []]:=S3.drop _ (.cons_cons _ (.cons_cons _ (.cons_cons _ (.cons_cons _ (.cons_cons _ (.cons_cons _ (.cons_cons _ (.cons_cons _ (.cons_cons _ (.cons_cons _ (.cons_cons _ (.cons_cons _ .slnil))))))))))))
    exact ⟨ct,rfl,rfl,rfl,rfl,rfl,ao,ak,al,am,an,a1,a2,a3,(bc.trans bw),S3⟩
   refine Nxt.mk (o:=_) (bm 22 991) rfl rfl<|Gy rfl ?_
   refine Lo 10 S<|We ?_
   refine WC.next (rs:=[5]) ⟨ar,(Hp.le.refl _),S.drop _ (.cons_cons _ (.cons_cons _ (.cons_cons _ (.cons_cons _ (.cons_cons _ (.cons_cons _ (.cons_cons _ (.cons_cons _ (.cons_cons _ (.cons_cons _ (.cons _ (.cons _ .slnil))))))))))))⟩ kr (List.cons_ne_nil _ _) (all1 ?_)
   refine Nxt.mk (o:=_) (bm 22 1023) rfl rfl<|Gy rfl<|W.call S rfl (zBb S.holds (hG.post S.post) j.1 ak al am an cb) ?_
   rintro ek el dc bq S rfl
   have ao:=Sl.mono ao bq
   have ak:=Sl.mono ak bq
   have al:=Sl.mono al bq
   have am:=Sl.mono am bq
   have an:=Sl.mono an bq
   have a1:=Sl.mono a1 bq
   have a2:=Sl.mono a2 bq
   have a3:=Sl.mono a3 bq
   refine We ?_
   refine WC.takeY (i:=10) (bm 22 2047) rfl rfl rfl rfl kr kr kr rfl (fun _ _=>(R.gtr rfl rfl)) ?_
   refine WC.take (i:=11) (bm 22 4095) rfl kr kr kr rfl (fun _ _=>(R.pickF (b:=false) rfl rfl rfl)) ?_
   refine WC.take (i:=12) (bm 22 8191) rfl kr kr kr rfl (fun _ _=>(R.mv (v:=boo (decide (c.fBytes<b6))) rfl)) ?_
   refine WC.takeY (i:=13) (bm 22 16383) rfl rfl rfl aa kr kr kr rfl (fun _ _=>(R.mv (v:=bj) rfl)) ?_
   refine WC.takeY (i:=14) (bm 22 32767) rfl rfl rfl aa kr kr kr rfl (fun _ _=>(R.lenL (α:=GAxis) (xs:=j.2) (H:=dc) ao rfl Tryz.underlying59)) ?_
   refine WC.takeY (i:=15) (bm 22 65535) rfl rfl rfl aa kr kr kr rfl (fun _ _=>(R.gtr rfl rfl)) ?_
   refine WC.takeY (i:=16) (bm 22 131071) rfl rfl rfl aa kr kr kr rfl (fun _ _=>(R.mv (v:=boo (decide (0<(j.2.length:Int)))) rfl)) ?_
   refine WC.takeY (i:=17) (bm 22 262143) rfl rfl rfl a4 kr kr kr rfl (fun _ _=>(R.mv (v:=bj) rfl)) ?_
   refine WC.next (rs:=[18]) ⟨dc,bq,S.drop _ (.cons_cons _ (.cons_cons _ (.cons_cons _ (.cons_cons _ (.cons_cons _ (.cons_cons _ (.cons_cons _ (.cons_cons _ (.cons_cons _ (.cons_cons _ (.cons _ (.cons _ .slnil))))))))))))⟩ kr (List.cons_ne_nil _ _) (all1 ?_)
   refine Nxt.mk (o:=_) (bm 22 524287) rfl rfl<|Gy a4<|W.call S rfl (zEE S.holds (hG.post S.post) j.2 ao db) ?_
   rintro em en cu bx S rfl
   have ao:=Sl.mono ao bx
   have ak:=Sl.mono ak bx
   have al:=Sl.mono al bx
   have am:=Sl.mono am bx
   have an:=Sl.mono an bx
   have a1:=Sl.mono a1 bx
   have a2:=Sl.mono a2 bx
   have a3:=Sl.mono a3 bx
   refine We ?_
   refine WC.takeY (i:=19) (bm 22 1048575) rfl rfl rfl a4 kr kr kr rfl (fun _ _=>(R.not rfl)) ?_
   refine WC.takeY (i:=20) (v:=boo cs) (bm 22 2097151) rfl rfl rfl aa kr kr kr rfl (fun _ _=>(R.ofEq (R.pickT rfl a4 rfl) (congrArg boo (oi bv)))) ?_
   refine WC.take (i:=21) (v:=boo b7) (bm 22 4194303) rfl kr kr kr rfl (fun _ _=>(R.ofEq (R.pickF rfl aa rfl) (congrArg boo (oi bb))))<|WC.done ⟨cu,(bq.trans bx),S.drop _ (.cons_cons _ (.cons_cons _ (.cons_cons _ (.cons_cons _ (.cons_cons _ (.cons_cons _ (.cons_cons _ (.cons_cons _ (.cons_cons _ (.cons_cons _ (.cons _ (.cons _ .slnil))))))))))))⟩ kr ?_
   have S3:=S
   replace S3:=S3.front 11 rfl
   replace S3:=S3.front 11 rfl
   replace S3:=S3.front 11 rfl
   replace S3:=S3.front 11 rfl
   replace S3:=S3.front 11 rfl
   replace S3:=S3.front 11 rfl
   replace S3:=S3.front 11 rfl
   replace S3:=S3.front 11 rfl
   replace S3:=S3.front 11 rfl
   replace S3:=S3.front 11 rfl
   replace S3:=S3.front 11 rfl
   replace S3:=S3.front 11 rfl
   replace S3:St w0 H0 _ cu [.box a0 92 [r,t,u,(str j.1.fReason),x,(str j.1.fBody),(int j.1.fRequested),(int j.1.fReceived)],.box av 92 [r,t,u,(str j.1.fReason),x,(str j.1.fBody),(int j.1.fRequested),(int j.1.fReceived)],.box aw 24 [(int 1),(int d.1.fStatus),(str d.1.fReason),ap,(str d.1.fBody)],.box af 56 [(str []),(str [])],.box ax 24 [(int d.1.fMinor),(int d.1.fStatus),(str d.1.fReason),z,(str d.1.fBody)],.box ay 24 [(int d.1.fMinor),(int d.1.fStatus),(str d.1.fReason),z,(str d.1.fBody)],.box ah 56 [(str []),(str [])],.box ai 56 [(str []),(str ae)],.box az 111 [(str k.1.fMethod),(str k.1.fTarget),(int k.1.fMinor),aq,(str k.1.fBody),(str k.2.1.fHost),(int k.2.1.fPort),(str k.2.1.fPath),(str k.2.1.fQuery),(boo k.2.1.fHasQuery),(str ab),(int 0),(boo false),(int 0),(.slice none 0 0),(.slice none 0 0),(.slice none 0 0),(str []),(.slice none 0 0),(str []),(int 0),(int 0)],.box aj 54 [(str c.fName),(int c.fBytes),(int c.fVariants),(int c.fTables),(boo c.fStrict),(boo c.fRefuse),(ptr p 0),(int 0),(.pointer none)],.box p 136 [(int c.fBytes),(int c.fVariants),(int c.fTables),(int 0),(.slice none 0 0),(mapv q)],.mp q []]:=S3
   replace S3:St w0 H0 _ cu [.box a0 92 [r,t,u,(str j.1.fReason),x,(str j.1.fBody),(int j.1.fRequested),(int j.1.fReceived)],.box av 92 [r,t,u,(str j.1.fReason),x,(str j.1.fBody),(int j.1.fRequested),(int j.1.fReceived)],.box aw 24 [(int 1),(int d.1.fStatus),(str d.1.fReason),ap,(str d.1.fBody)],.box af 56 [(str []),(str [])],.box ax 24 [(int d.1.fMinor),(int d.1.fStatus),(str d.1.fReason),z,(str d.1.fBody)],.box ay 24 [(int d.1.fMinor),(int d.1.fStatus),(str d.1.fReason),z,(str d.1.fBody)],.box ah 56 [(str []),(str [])],.box ai 56 [(str []),(str ae)],.box az 111 [(str k.1.fMethod),(str k.1.fTarget),(int k.1.fMinor),aq,(str k.1.fBody),(str k.2.1.fHost),(int k.2.1.fPort),(str k.2.1.fPath),(str k.2.1.fQuery),(boo k.2.1.fHasQuery),(str ab),(int 0),(boo false),(int 0),(.slice none 0 0),(.slice none 0 0),(.slice none 0 0),(str []),(.slice none 0 0),(str []),(int 0),(int 0)],.box aj 54 [(str c.fName),(int c.fBytes),(int c.fVariants),(int c.fTables),(boo c.fStrict),(boo c.fRefuse),(ptr p 0),(int 0),(.pointer none)],.box p 136 [(int c.fBytes),(int c.fVariants),(int c.fTables),(int 0),(.slice none 0 0),(mapv q)],.mp q []]:=S3.drop _ (.cons_cons _ (.cons_cons _ (.cons_cons _ (.cons_cons _ (.cons_cons _ (.cons_cons _ (.cons_cons _ (.cons_cons _ (.cons_cons _ (.cons_cons _ (.cons_cons _ (.cons_cons _ .slnil))))))))))))
   exact ⟨cu,rfl,rfl,rfl,rfl,rfl,ao,ak,al,am,an,a1,a2,a3,(bq.trans bx),S3⟩
  replace bv:=condF bv a4
  refine WC.take (i:=0) (bm 22 1) rfl kr kr kr rfl (fun _ _=>(R.mv (v:=ptr p 0) rfl)) ?_
  refine WC.next (rs:=[1]) ⟨ar,(Hp.le.refl _),S.drop _ (.cons_cons _ (.cons_cons _ (.cons_cons _ (.cons_cons _ (.cons_cons _ (.cons_cons _ (.cons_cons _ (.cons_cons _ (.cons_cons _ (.cons_cons _ (.cons _ (.cons _ .slnil))))))))))))⟩ kr (List.cons_ne_nil _ _) (all1 ?_)
  refine Nxt.mk (o:=_) (bm 22 3) rfl rfl<|W.inl (args:=[(ptr p 0)]) rfl (N':=12) Tryz.func78 rfl rfl kr rfl<|Ws<|Wg<|A<|We<|Ws<|Wg<|M ?_
  refine WL.w (v:=boo true) (R.ofEq (R.neqPN rfl rfl Tryz.underlying51) rfl)<|M<|Gy rfl ?_
  refine M<|Gy rfl<|Nn<|Gy rfl<|Fb<|Gy rfl ?_
  refine Lo 10 S<|Gy rfl ?_
  refine WL.w (v:=boo true) (R.ofEq (R.neqMN rfl rfl Tryz.underlying134) rfl)<|Pt rfl<|A<|We ?_
  refine WP.ret (In.one rfl rfl ?_)
  refine We ?_
  refine WC.take (i:=2) (v:=boo false) (bm 22 7) rfl kr kr kr rfl (fun _ _=>(R.ofEq (R.not rfl) rfl)) ?_
  refine WC.take (i:=3) (bm 22 15) rfl kr kr kr rfl (fun _ _=>(R.mv (v:=boo false) rfl)) ?_
  refine WC.takeY (i:=4) (bm 22 31) rfl rfl rfl rfl kr kr kr rfl (fun w hw=>by obtain ⟨_,hq,S⟩:=hw; exact (R.loadBN (i:=0) (vs:=[r,t,u,(str j.1.fReason),x,(str j.1.fBody),(int j.1.fRequested),(int j.1.fReceived)]) S rfl rfl lay92 rfl rfl)) ?_
  refine WC.takeY (i:=6) (bm 22 95) rfl rfl rfl rfl kr kr kr rfl (fun _ _=>(R.mv (v:=ptr p 0) rfl)) ?_
  refine WC.takeY (i:=7) (bm 22 223) rfl rfl rfl rfl kr kr kr rfl (fun _ _=>(R.nilCheckB rfl)) ?_
  refine WC.takeY (i:=8) (bm 22 479) rfl rfl rfl rfl kr kr kr rfl (fun _ _=>(R.fieldB rfl zKF)) ?_
  refine WC.next (rs:=[5,9]) ⟨ar,(Hp.le.refl _),S.drop _ (.cons_cons _ (.cons_cons _ (.cons_cons _ (.cons_cons _ (.cons_cons _ (.cons_cons _ (.cons_cons _ (.cons_cons _ (.cons_cons _ (.cons_cons _ (.cons _ (.cons _ .slnil))))))))))))⟩ kr (List.cons_ne_nil _ _) (allS ?_ (all1 ?_))
  ·refine Nxt.mk (o:=_) (bm 22 511) rfl rfl<|Gy rfl<|W.call S rfl (zBb S.holds (hG.post S.post) j.1 ak al am an cb) ?_
   rintro eo ep cc br S rfl
   have ao:=Sl.mono ao br
   have ak:=Sl.mono ak br
   have al:=Sl.mono al br
   have am:=Sl.mono am br
   have an:=Sl.mono an br
   have a1:=Sl.mono a1 br
   have a2:=Sl.mono a2 br
   have a3:=Sl.mono a3 br
   refine We ?_
   refine WC.next (rs:=[9]) ⟨cc,br,S.drop _ (.cons_cons _ (.cons_cons _ (.cons_cons _ (.cons_cons _ (.cons_cons _ (.cons_cons _ (.cons_cons _ (.cons_cons _ (.cons_cons _ (.cons_cons _ (.cons _ (.cons _ .slnil))))))))))))⟩ kr (List.cons_ne_nil _ _) (all1 ?_)
   refine Nxt.mk (o:=_) (bm 22 1023) rfl rfl<|Gy rfl ?_
   refine Lo 10 S<|We ?_
   refine WC.takeY (i:=10) (bm 22 2047) rfl rfl rfl rfl kr kr kr rfl (fun _ _=>(R.gtr rfl rfl)) ?_
   refine WC.take (i:=11) (bm 22 4095) rfl kr kr kr rfl (fun _ _=>(R.pickF (b:=false) rfl rfl rfl)) ?_
   refine WC.take (i:=12) (bm 22 8191) rfl kr kr kr rfl (fun _ _=>(R.mv (v:=boo (decide (c.fBytes<b6))) rfl)) ?_
   refine WC.takeY (i:=13) (bm 22 16383) rfl rfl rfl aa kr kr kr rfl (fun _ _=>(R.mv (v:=bj) rfl)) ?_
   refine WC.takeY (i:=14) (bm 22 32767) rfl rfl rfl aa kr kr kr rfl (fun _ _=>(R.lenL (α:=GAxis) (xs:=j.2) (H:=cc) ao rfl Tryz.underlying59)) ?_
   refine WC.takeY (i:=15) (bm 22 65535) rfl rfl rfl aa kr kr kr rfl (fun _ _=>(R.gtr rfl rfl)) ?_
   refine WC.takeY (i:=16) (bm 22 131071) rfl rfl rfl aa kr kr kr rfl (fun _ _=>(R.mv (v:=boo (decide (0<(j.2.length:Int)))) rfl))<|WC.takeN (i:=17) (bm 22 262143) rfl rfl rfl a4 kr kr kr rfl ?_
   refine WC.takeN (i:=18) (bm 22 524287) rfl rfl rfl a4 kr kr kr rfl<|WC.takeN (i:=19) (bm 22 1048575) rfl rfl rfl a4 kr kr kr rfl ?_
   refine WC.takeY (i:=20) (v:=boo cs) (bm 22 2097151) rfl rfl rfl aa kr kr kr rfl (fun _ _=>(R.ofEq (R.pickF rfl a4 rfl) (congrArg boo (oi bv)))) ?_
   refine WC.take (i:=21) (v:=boo b7) (bm 22 4194303) rfl kr kr kr rfl (fun _ _=>(R.ofEq (R.pickF rfl aa rfl) (congrArg boo (oi bb))))<|WC.done ⟨cc,br,S.drop _ (.cons_cons _ (.cons_cons _ (.cons_cons _ (.cons_cons _ (.cons_cons _ (.cons_cons _ (.cons_cons _ (.cons_cons _ (.cons_cons _ (.cons_cons _ (.cons _ (.cons _ .slnil))))))))))))⟩ kr ?_
   have S3:=S
   replace S3:=S3.front 11 rfl
   replace S3:=S3.front 11 rfl
   replace S3:=S3.front 11 rfl
   replace S3:=S3.front 11 rfl
   replace S3:=S3.front 11 rfl
   replace S3:=S3.front 11 rfl
   replace S3:=S3.front 11 rfl
   replace S3:=S3.front 11 rfl
   replace S3:=S3.front 11 rfl
   replace S3:=S3.front 11 rfl
   replace S3:=S3.front 11 rfl
   replace S3:=S3.front 11 rfl
   replace S3:St w0 H0 _ cc [.box a0 92 [r,t,u,(str j.1.fReason),x,(str j.1.fBody),(int j.1.fRequested),(int j.1.fReceived)],.box av 92 [r,t,u,(str j.1.fReason),x,(str j.1.fBody),(int j.1.fRequested),(int j.1.fReceived)],.box aw 24 [(int 1),(int d.1.fStatus),(str d.1.fReason),ap,(str d.1.fBody)],.box af 56 [(str []),(str [])],.box ax 24 [(int d.1.fMinor),(int d.1.fStatus),(str d.1.fReason),z,(str d.1.fBody)],.box ay 24 [(int d.1.fMinor),(int d.1.fStatus),(str d.1.fReason),z,(str d.1.fBody)],.box ah 56 [(str []),(str [])],.box ai 56 [(str []),(str ae)],.box az 111 [(str k.1.fMethod),(str k.1.fTarget),(int k.1.fMinor),aq,(str k.1.fBody),(str k.2.1.fHost),(int k.2.1.fPort),(str k.2.1.fPath),(str k.2.1.fQuery),(boo k.2.1.fHasQuery),(str ab),(int 0),(boo false),(int 0),(.slice none 0 0),(.slice none 0 0),(.slice none 0 0),(str []),(.slice none 0 0),(str []),(int 0),(int 0)],.box aj 54 [(str c.fName),(int c.fBytes),(int c.fVariants),(int c.fTables),(boo c.fStrict),(boo c.fRefuse),(ptr p 0),(int 0),(.pointer none)],.box p 136 [(int c.fBytes),(int c.fVariants),(int c.fTables),(int 0),(.slice none 0 0),(mapv q)],.mp q []]:=S3
   replace S3:St w0 H0 _ cc [.box a0 92 [r,t,u,(str j.1.fReason),x,(str j.1.fBody),(int j.1.fRequested),(int j.1.fReceived)],.box av 92 [r,t,u,(str j.1.fReason),x,(str j.1.fBody),(int j.1.fRequested),(int j.1.fReceived)],.box aw 24 [(int 1),(int d.1.fStatus),(str d.1.fReason),ap,(str d.1.fBody)],.box af 56 [(str []),(str [])],.box ax 24 [(int d.1.fMinor),(int d.1.fStatus),(str d.1.fReason),z,(str d.1.fBody)],.box ay 24 [(int d.1.fMinor),(int d.1.fStatus),(str d.1.fReason),z,(str d.1.fBody)],.box ah 56 [(str []),(str [])],.box ai 56 [(str []),(str ae)],.box az 111 [(str k.1.fMethod),(str k.1.fTarget),(int k.1.fMinor),aq,(str k.1.fBody),(str k.2.1.fHost),(int k.2.1.fPort),(str k.2.1.fPath),(str k.2.1.fQuery),(boo k.2.1.fHasQuery),(str ab),(int 0),(boo false),(int 0),(.slice none 0 0),(.slice none 0 0),(.slice none 0 0),(str []),(.slice none 0 0),(str []),(int 0),(int 0)],.box aj 54 [(str c.fName),(int c.fBytes),(int c.fVariants),(int c.fTables),(boo c.fStrict),(boo c.fRefuse),(ptr p 0),(int 0),(.pointer none)],.box p 136 [(int c.fBytes),(int c.fVariants),(int c.fTables),(int 0),(.slice none 0 0),(mapv q)],.mp q []]:=S3.drop _ (.cons_cons _ (.cons_cons _ (.cons_cons _ (.cons_cons _ (.cons_cons _ (.cons_cons _ (.cons_cons _ (.cons_cons _ (.cons_cons _ (.cons_cons _ (.cons_cons _ (.cons_cons _ .slnil))))))))))))
   exact ⟨cc,rfl,rfl,rfl,rfl,rfl,ao,ak,al,am,an,a1,a2,a3,br,S3⟩
  refine Nxt.mk (o:=_) (bm 22 991) rfl rfl<|Gy rfl ?_
  refine Lo 10 S<|We ?_
  refine WC.next (rs:=[5]) ⟨ar,(Hp.le.refl _),S.drop _ (.cons_cons _ (.cons_cons _ (.cons_cons _ (.cons_cons _ (.cons_cons _ (.cons_cons _ (.cons_cons _ (.cons_cons _ (.cons_cons _ (.cons_cons _ (.cons _ (.cons _ .slnil))))))))))))⟩ kr (List.cons_ne_nil _ _) (all1 ?_)
  refine Nxt.mk (o:=_) (bm 22 1023) rfl rfl<|Gy rfl<|W.call S rfl (zBb S.holds (hG.post S.post) j.1 ak al am an cb) ?_
  rintro eq er cg bz S rfl
  have ao:=Sl.mono ao bz
  have ak:=Sl.mono ak bz
  have al:=Sl.mono al bz
  have am:=Sl.mono am bz
  have an:=Sl.mono an bz
  have a1:=Sl.mono a1 bz
  have a2:=Sl.mono a2 bz
  have a3:=Sl.mono a3 bz
  refine We ?_
  refine WC.takeY (i:=10) (bm 22 2047) rfl rfl rfl rfl kr kr kr rfl (fun _ _=>(R.gtr rfl rfl)) ?_
  refine WC.take (i:=11) (bm 22 4095) rfl kr kr kr rfl (fun _ _=>(R.pickF (b:=false) rfl rfl rfl)) ?_
  refine WC.take (i:=12) (bm 22 8191) rfl kr kr kr rfl (fun _ _=>(R.mv (v:=boo (decide (c.fBytes<b6))) rfl)) ?_
  refine WC.takeY (i:=13) (bm 22 16383) rfl rfl rfl aa kr kr kr rfl (fun _ _=>(R.mv (v:=bj) rfl)) ?_
  refine WC.takeY (i:=14) (bm 22 32767) rfl rfl rfl aa kr kr kr rfl (fun _ _=>(R.lenL (α:=GAxis) (xs:=j.2) (H:=cg) ao rfl Tryz.underlying59)) ?_
  refine WC.takeY (i:=15) (bm 22 65535) rfl rfl rfl aa kr kr kr rfl (fun _ _=>(R.gtr rfl rfl)) ?_
  refine WC.takeY (i:=16) (bm 22 131071) rfl rfl rfl aa kr kr kr rfl (fun _ _=>(R.mv (v:=boo (decide (0<(j.2.length:Int)))) rfl))<|WC.takeN (i:=17) (bm 22 262143) rfl rfl rfl a4 kr kr kr rfl<|WC.takeN (i:=18) (bm 22 524287) rfl rfl rfl a4 kr kr kr rfl<|WC.takeN (i:=19) (bm 22 1048575) rfl rfl rfl a4 kr kr kr rfl ?_
  refine WC.takeY (i:=20) (v:=boo cs) (bm 22 2097151) rfl rfl rfl aa kr kr kr rfl (fun _ _=>(R.ofEq (R.pickF rfl a4 rfl) (congrArg boo (oi bv)))) ?_
  refine WC.take (i:=21) (v:=boo b7) (bm 22 4194303) rfl kr kr kr rfl (fun _ _=>(R.ofEq (R.pickF rfl aa rfl) (congrArg boo (oi bb))))<|WC.done ⟨cg,bz,S.drop _ (.cons_cons _ (.cons_cons _ (.cons_cons _ (.cons_cons _ (.cons_cons _ (.cons_cons _ (.cons_cons _ (.cons_cons _ (.cons_cons _ (.cons_cons _ (.cons _ (.cons _ .slnil))))))))))))⟩ kr ?_
  have S3:=S
  replace S3:=S3.front 11 rfl
  replace S3:=S3.front 11 rfl
  replace S3:=S3.front 11 rfl
  replace S3:=S3.front 11 rfl
  replace S3:=S3.front 11 rfl
  replace S3:=S3.front 11 rfl
  replace S3:=S3.front 11 rfl
  replace S3:=S3.front 11 rfl
  replace S3:=S3.front 11 rfl
  replace S3:=S3.front 11 rfl
  replace S3:=S3.front 11 rfl
  replace S3:=S3.front 11 rfl
  replace S3:St w0 H0 _ cg [.box a0 92 [r,t,u,(str j.1.fReason),x,(str j.1.fBody),(int j.1.fRequested),(int j.1.fReceived)],.box av 92 [r,t,u,(str j.1.fReason),x,(str j.1.fBody),(int j.1.fRequested),(int j.1.fReceived)],.box aw 24 [(int 1),(int d.1.fStatus),(str d.1.fReason),ap,(str d.1.fBody)],.box af 56 [(str []),(str [])],.box ax 24 [(int d.1.fMinor),(int d.1.fStatus),(str d.1.fReason),z,(str d.1.fBody)],.box ay 24 [(int d.1.fMinor),(int d.1.fStatus),(str d.1.fReason),z,(str d.1.fBody)],.box ah 56 [(str []),(str [])],.box ai 56 [(str []),(str ae)],.box az 111 [(str k.1.fMethod),(str k.1.fTarget),(int k.1.fMinor),aq,(str k.1.fBody),(str k.2.1.fHost),(int k.2.1.fPort),(str k.2.1.fPath),(str k.2.1.fQuery),(boo k.2.1.fHasQuery),(str ab),(int 0),(boo false),(int 0),(.slice none 0 0),(.slice none 0 0),(.slice none 0 0),(str []),(.slice none 0 0),(str []),(int 0),(int 0)],.box aj 54 [(str c.fName),(int c.fBytes),(int c.fVariants),(int c.fTables),(boo c.fStrict),(boo c.fRefuse),(ptr p 0),(int 0),(.pointer none)],.box p 136 [(int c.fBytes),(int c.fVariants),(int c.fTables),(int 0),(.slice none 0 0),(mapv q)],.mp q []]:=S3
  replace S3:St w0 H0 _ cg [.box a0 92 [r,t,u,(str j.1.fReason),x,(str j.1.fBody),(int j.1.fRequested),(int j.1.fReceived)],.box av 92 [r,t,u,(str j.1.fReason),x,(str j.1.fBody),(int j.1.fRequested),(int j.1.fReceived)],.box aw 24 [(int 1),(int d.1.fStatus),(str d.1.fReason),ap,(str d.1.fBody)],.box af 56 [(str []),(str [])],.box ax 24 [(int d.1.fMinor),(int d.1.fStatus),(str d.1.fReason),z,(str d.1.fBody)],.box ay 24 [(int d.1.fMinor),(int d.1.fStatus),(str d.1.fReason),z,(str d.1.fBody)],.box ah 56 [(str []),(str [])],.box ai 56 [(str []),(str ae)],.box az 111 [(str k.1.fMethod),(str k.1.fTarget),(int k.1.fMinor),aq,(str k.1.fBody),(str k.2.1.fHost),(int k.2.1.fPort),(str k.2.1.fPath),(str k.2.1.fQuery),(boo k.2.1.fHasQuery),(str ab),(int 0),(boo false),(int 0),(.slice none 0 0),(.slice none 0 0),(.slice none 0 0),(str []),(.slice none 0 0),(str []),(int 0),(int 0)],.box aj 54 [(str c.fName),(int c.fBytes),(int c.fVariants),(int c.fTables),(boo c.fStrict),(boo c.fRefuse),(ptr p 0),(int 0),(.pointer none)],.box p 136 [(int c.fBytes),(int c.fVariants),(int c.fTables),(int 0),(.slice none 0 0),(mapv q)],.mp q []]:=S3.drop _ (.cons_cons _ (.cons_cons _ (.cons_cons _ (.cons_cons _ (.cons_cons _ (.cons_cons _ (.cons_cons _ (.cons_cons _ (.cons_cons _ (.cons_cons _ (.cons_cons _ (.cons_cons _ .slnil))))))))))))
  exact ⟨cg,rfl,rfl,rfl,rfl,rfl,ao,ak,al,am,an,a1,a2,a3,bz,S3⟩
 rintro f w ⟨a5,ch,cv,dt,du,dd,b8,bd,be,bf,bg,b2,b3,b4,c1,S⟩
 rcases condE h with ⟨c2,h⟩ | ⟨c2,h⟩
 ·refine WP.condT dd c2 ?_
  cases h
 refine WP.condF dd c2<|Wk<|Ws<|B h fun a8 c3 h=>WP.cut (fun f w=>∃ (bh:Hp) (cw:Nat) (a6:Value) (a7:Value),f 0=(ptr p 0)∧f 1=(str ab)∧f 9=(ptr cw 0)∧Sl (α:=GAxis) bh a6 a8.fAxes∧Sl (α:=GEntry) bh a7 a8.fEntries∧Sl (α:=(List Str)) bh r j.1.fKeys∧Sl (α:=Str) bh t j.1.fVary∧Sl (α:=Str) bh u j.1.fSnapshot∧Sl (α:=GField) bh x j.1.fFields∧Sl (α:=GField) bh ap cz∧Sl (α:=GField) bh z d.1.fFields∧Sl (α:=GField) bh aq k.1.fFields∧Hp.le ar bh∧St w0 H0 w bh [.box cw 62 [a6,a7],.box a0 92 [r,t,u,(str j.1.fReason),x,(str j.1.fBody),(int j.1.fRequested),(int j.1.fReceived)],.box av 92 [r,t,u,(str j.1.fReason),x,(str j.1.fBody),(int j.1.fRequested),(int j.1.fReceived)],.box aw 24 [(int 1),(int d.1.fStatus),(str d.1.fReason),ap,(str d.1.fBody)],.box af 56 [(str []),(str [])],.box ax 24 [(int d.1.fMinor),(int d.1.fStatus),(str d.1.fReason),z,(str d.1.fBody)],.box ay 24 [(int d.1.fMinor),(int d.1.fStatus),(str d.1.fReason),z,(str d.1.fBody)],.box ah 56 [(str []),(str [])],.box ai 56 [(str []),(str ae)],.box az 111 [(str k.1.fMethod),(str k.1.fTarget),(int k.1.fMinor),aq,(str k.1.fBody),(str k.2.1.fHost),(int k.2.1.fPort),(str k.2.1.fPath),(str k.2.1.fQuery),(boo k.2.1.fHasQuery),(str ab),(int 0),(boo false),(int 0),(.slice none 0 0),(.slice none 0 0),(.slice none 0 0),(str []),(.slice none 0 0),(str []),(int 0),(int 0)],.box aj 54 [(str c.fName),(int c.fBytes),(int c.fVariants),(int c.fTables),(boo c.fStrict),(boo c.fRefuse),(ptr p 0),(int 0),(.pointer none)],.box p 136 [(int c.fBytes),(int c.fVariants),(int c.fTables),(int 0),(.slice none 0 0),(mapv q)],.mp q []]) ?_ ?_
 ·refine WP.drawC (Cl w0 H0 a5 [.box a0 92 [r,t,u,(str j.1.fReason),x,(str j.1.fBody),(int j.1.fRequested),(int j.1.fReceived)],.box av 92 [r,t,u,(str j.1.fReason),x,(str j.1.fBody),(int j.1.fRequested),(int j.1.fReceived)],.box aw 24 [(int 1),(int d.1.fStatus),(str d.1.fReason),ap,(str d.1.fBody)],.box af 56 [(str []),(str [])],.box ax 24 [(int d.1.fMinor),(int d.1.fStatus),(str d.1.fReason),z,(str d.1.fBody)],.box ay 24 [(int d.1.fMinor),(int d.1.fStatus),(str d.1.fReason),z,(str d.1.fBody)],.box ah 56 [(str []),(str [])],.box ai 56 [(str []),(str ae)],.box az 111 [(str k.1.fMethod),(str k.1.fTarget),(int k.1.fMinor),aq,(str k.1.fBody),(str k.2.1.fHost),(int k.2.1.fPort),(str k.2.1.fPath),(str k.2.1.fQuery),(boo k.2.1.fHasQuery),(str ab),(int 0),(boo false),(int 0),(.slice none 0 0),(.slice none 0 0),(.slice none 0 0),(str []),(.slice none 0 0),(str []),(int 0),(int 0)],.box aj 54 [(str c.fName),(int c.fBytes),(int c.fVariants),(int c.fTables),(boo c.fStrict),(boo c.fRefuse),(ptr p 0),(int 0),(.pointer none)],.box p 136 [(int c.fBytes),(int c.fVariants),(int c.fTables),(int 0),(.slice none 0 0),(mapv q)],.mp q []]) kr 15 rfl (bm 15 0) rfl ?_
  have S:=S.drew
  refine WC.take (i:=0) (bm 15 1) rfl kr kr kr rfl (fun _ _=>(R.mv (v:=ptr p 0) ch)) ?_
  refine WC.take (i:=1) (bm 15 3) rfl kr kr kr rfl (fun _ _=>(R.nilCheckB rfl)) ?_
  refine WC.take (i:=2) (bm 15 7) rfl kr kr kr rfl (fun _ _=>(R.fieldB rfl zLP)) ?_
  refine WC.take (i:=3) (bm 15 15) rfl kr kr kr rfl (fun w hw=>by obtain ⟨_,hq,S⟩:=hw; exact (R.loadB (i:=10) (v:=mapv q) S rfl rfl zLQ rfl)) ?_
  refine WC.take (i:=4) (bm 15 31) rfl kr kr kr rfl (fun _ _=>(R.mv (v:=str ab) cv)) ?_
  refine WC.take (i:=6) (bm 15 95) rfl kr kr kr rfl (fun w hw=>by obtain ⟨_,hq,S⟩:=hw; exact (R.loadBN (i:=0) (vs:=[r,t,u,(str j.1.fReason),x,(str j.1.fBody),(int j.1.fRequested),(int j.1.fReceived)]) S du rfl lay92 rfl rfl)) ?_
  refine WC.take (i:=7) (bm 15 223) rfl kr kr kr rfl (fun _ _=>(R.mv (v:=bj) dt)) ?_
  refine WC.take (i:=8) (bm 15 479) rfl kr kr kr rfl (fun _ _=>(R.mv (v:=ptr p 0) ch)) ?_
  refine WC.take (i:=9) (bm 15 991) rfl kr kr kr rfl (fun _ _=>(R.nilCheckB rfl)) ?_
  refine WC.take (i:=10) (bm 15 2015) rfl kr kr kr rfl (fun _ _=>(R.fieldB rfl zLE)) ?_
  refine WC.take (i:=11) (bm 15 4063) rfl kr kr kr rfl (fun w hw=>by obtain ⟨_,hq,S⟩:=hw; exact (R.loadB (i:=10) (v:=int c.fVariants) S rfl rfl lay3 rfl)) ?_
  refine WC.next (rs:=[5,13]) ⟨a5,(Hp.le.refl _),S.drop _ (.cons_cons _ (.cons_cons _ (.cons_cons _ (.cons_cons _ (.cons_cons _ (.cons_cons _ (.cons_cons _ (.cons_cons _ (.cons_cons _ (.cons_cons _ (.cons_cons _ (.cons_cons _ .slnil))))))))))))⟩ kr (List.cons_ne_nil _ _) (allS ?_ (all1 ?_))
  ·refine Nxt.mk (o:=_) (bm 15 4095) rfl rfl ?_
   refine WL.w (v:=agg [(.slice none 0 0),(.slice none 0 0)]) (R.lookX1 (i:=11) (m:=[]) S rfl rfl rfl Tryz.underlying134 Tryz.underlying9 mz62 zKn)<|We ?_
   refine WC.next (rs:=[12,13]) ⟨a5,(Hp.le.refl _),S.drop _ (.cons_cons _ (.cons_cons _ (.cons_cons _ (.cons_cons _ (.cons_cons _ (.cons_cons _ (.cons_cons _ (.cons_cons _ (.cons_cons _ (.cons_cons _ (.cons_cons _ (.cons_cons _ .slnil))))))))))))⟩ kr (List.cons_ne_nil _ _) (allS ?_ (all1 ?_))
   ·refine Nxt.mk (o:=_) (bm 15 8191) rfl rfl<|W.call S rfl (zHA S.holds (hG.post S.post) (⟨([]:List GAxis),([]:List GEntry)⟩:GTable) j.1 j.2 c.fVariants Sl.nil Sl.nil bd be bf bg b8 c3) ?_
    rintro es et cd bi S ⟨ci,cj,rfl,de,df⟩
    have b8:=Sl.mono b8 bi
    have bd:=Sl.mono bd bi
    have be:=Sl.mono be bi
    have bf:=Sl.mono bf bi
    have bg:=Sl.mono bg bi
    have b2:=Sl.mono b2 bi
    have b3:=Sl.mono b3 bi
    have b4:=Sl.mono b4 bi
    refine We ?_
    refine WC.next (rs:=[13]) ⟨cd,bi,S.drop _ (.cons_cons _ (.cons_cons _ (.cons_cons _ (.cons_cons _ (.cons_cons _ (.cons_cons _ (.cons_cons _ (.cons_cons _ (.cons_cons _ (.cons_cons _ (.cons_cons _ (.cons_cons _ .slnil))))))))))))⟩ kr (List.cons_ne_nil _ _) (all1 ?_)
    refine Nxt.mk (o:=_) (bm 15 16383) rfl rfl ?_
    refine W.alloc [(.slice none 0 0),(.slice none 0 0)] S zer62 ?_
    intro c4 eu S
    refine We ?_
    refine WC.next (rs:=[14]) ⟨cd,bi,S.drop _ (.cons _ (.cons_cons _ (.cons_cons _ (.cons_cons _ (.cons_cons _ (.cons_cons _ (.cons_cons _ (.cons_cons _ (.cons_cons _ (.cons_cons _ (.cons_cons _ (.cons_cons _ (.cons_cons _ .slnil)))))))))))))⟩ kr (List.cons_ne_nil _ _) (all1 ?_)
    refine Nxt.mk (o:=_) (bm 15 32767) rfl rfl ?_
    refine W.store (i:=0) [ci,cj] S rfl rfl rfl lay62 rfl (AllOne.all (l:=[ci,cj]) (.cons (Sl.oneC de) (.cons (Sl.oneC df) .nil))) (Nat.le_of_ble_eq_true rfl) rfl ?_
    intro ew S
    refine We<|WC.done ⟨cd,bi,S.drop _ (.cons _ (.cons_cons _ (.cons_cons _ (.cons_cons _ (.cons_cons _ (.cons_cons _ (.cons_cons _ (.cons_cons _ (.cons_cons _ (.cons_cons _ (.cons_cons _ (.cons_cons _ (.cons_cons _ .slnil)))))))))))))⟩ kr ?_
    have S3:=S
    replace S3:=S3.front 12 rfl
    replace S3:=S3.front 12 rfl
    replace S3:=S3.front 12 rfl
    replace S3:=S3.front 12 rfl
    replace S3:=S3.front 12 rfl
    replace S3:=S3.front 12 rfl
    replace S3:=S3.front 12 rfl
    replace S3:=S3.front 12 rfl
    replace S3:=S3.front 12 rfl
    replace S3:=S3.front 12 rfl
    replace S3:=S3.front 12 rfl
    replace S3:=S3.front 12 rfl
    replace S3:=S3.front 12 rfl
    replace S3:St w0 H0 _ cd [.box c4 62 [ci,cj],.box a0 92 [r,t,u,(str j.1.fReason),x,(str j.1.fBody),(int j.1.fRequested),(int j.1.fReceived)],.box av 92 [r,t,u,(str j.1.fReason),x,(str j.1.fBody),(int j.1.fRequested),(int j.1.fReceived)],.box aw 24 [(int 1),(int d.1.fStatus),(str d.1.fReason),ap,(str d.1.fBody)],.box af 56 [(str []),(str [])],.box ax 24 [(int d.1.fMinor),(int d.1.fStatus),(str d.1.fReason),z,(str d.1.fBody)],.box ay 24 [(int d.1.fMinor),(int d.1.fStatus),(str d.1.fReason),z,(str d.1.fBody)],.box ah 56 [(str []),(str [])],.box ai 56 [(str []),(str ae)],.box az 111 [(str k.1.fMethod),(str k.1.fTarget),(int k.1.fMinor),aq,(str k.1.fBody),(str k.2.1.fHost),(int k.2.1.fPort),(str k.2.1.fPath),(str k.2.1.fQuery),(boo k.2.1.fHasQuery),(str ab),(int 0),(boo false),(int 0),(.slice none 0 0),(.slice none 0 0),(.slice none 0 0),(str []),(.slice none 0 0),(str []),(int 0),(int 0)],.box aj 54 [(str c.fName),(int c.fBytes),(int c.fVariants),(int c.fTables),(boo c.fStrict),(boo c.fRefuse),(ptr p 0),(int 0),(.pointer none)],.box p 136 [(int c.fBytes),(int c.fVariants),(int c.fTables),(int 0),(.slice none 0 0),(mapv q)],.mp q []]:=S3
    replace S3:St w0 H0 _ cd [.box c4 62 [ci,cj],.box a0 92 [r,t,u,(str j.1.fReason),x,(str j.1.fBody),(int j.1.fRequested),(int j.1.fReceived)],.box av 92 [r,t,u,(str j.1.fReason),x,(str j.1.fBody),(int j.1.fRequested),(int j.1.fReceived)],.box aw 24 [(int 1),(int d.1.fStatus),(str d.1.fReason),ap,(str d.1.fBody)],.box af 56 [(str []),(str [])],.box ax 24 [(int d.1.fMinor),(int d.1.fStatus),(str d.1.fReason),z,(str d.1.fBody)],.box ay 24 [(int d.1.fMinor),(int d.1.fStatus),(str d.1.fReason),z,(str d.1.fBody)],.box ah 56 [(str []),(str [])],.box ai 56 [(str []),(str ae)],.box az 111 [(str k.1.fMethod),(str k.1.fTarget),(int k.1.fMinor),aq,(str k.1.fBody),(str k.2.1.fHost),(int k.2.1.fPort),(str k.2.1.fPath),(str k.2.1.fQuery),(boo k.2.1.fHasQuery),(str ab),(int 0),(boo false),(int 0),(.slice none 0 0),(.slice none 0 0),(.slice none 0 0),(str []),(.slice none 0 0),(str []),(int 0),(int 0)],.box aj 54 [(str c.fName),(int c.fBytes),(int c.fVariants),(int c.fTables),(boo c.fStrict),(boo c.fRefuse),(ptr p 0),(int 0),(.pointer none)],.box p 136 [(int c.fBytes),(int c.fVariants),(int c.fTables),(int 0),(.slice none 0 0),(mapv q)],.mp q []]:=S3.drop _ (.cons_cons _ (.cons_cons _ (.cons_cons _ (.cons_cons _ (.cons_cons _ (.cons_cons _ (.cons_cons _ (.cons_cons _ (.cons_cons _ (.cons_cons _ (.cons_cons _ (.cons_cons _ (.cons_cons _ .slnil)))))))))))))
    exact ⟨cd,c4,ci,cj,ch,cv,rfl,de,df,bd,be,bf,bg,b2,b3,b4,(c1.trans bi),S3⟩
   refine Nxt.mk (o:=_) (bm 15 12287) rfl rfl ?_
   refine W.alloc [(.slice none 0 0),(.slice none 0 0)] S zer62 ?_
   intro c5 ex S
   refine We ?_
   refine WC.next (rs:=[12]) ⟨a5,(Hp.le.refl _),S.drop _ (.cons _ (.cons_cons _ (.cons_cons _ (.cons_cons _ (.cons_cons _ (.cons_cons _ (.cons_cons _ (.cons_cons _ (.cons_cons _ (.cons_cons _ (.cons_cons _ (.cons_cons _ (.cons_cons _ .slnil)))))))))))))⟩ kr (List.cons_ne_nil _ _) (all1 ?_)
   refine Nxt.mk (o:=_) (bm 15 16383) rfl rfl<|W.call S rfl (zHA S.holds (hG.post S.post) (⟨([]:List GAxis),([]:List GEntry)⟩:GTable) j.1 j.2 c.fVariants Sl.nil Sl.nil bd be bf bg b8 c3) ?_
   rintro ey ez ck bs S ⟨cl,cm,rfl,dg,dh⟩
   have b8:=Sl.mono b8 bs
   have bd:=Sl.mono bd bs
   have be:=Sl.mono be bs
   have bf:=Sl.mono bf bs
   have bg:=Sl.mono bg bs
   have b2:=Sl.mono b2 bs
   have b3:=Sl.mono b3 bs
   have b4:=Sl.mono b4 bs
   refine We ?_
   refine WC.next (rs:=[14]) ⟨ck,bs,S.drop _ (.cons _ (.cons_cons _ (.cons_cons _ (.cons_cons _ (.cons_cons _ (.cons_cons _ (.cons_cons _ (.cons_cons _ (.cons_cons _ (.cons_cons _ (.cons_cons _ (.cons_cons _ (.cons_cons _ .slnil)))))))))))))⟩ kr (List.cons_ne_nil _ _) (all1 ?_)
   refine Nxt.mk (o:=_) (bm 15 32767) rfl rfl ?_
   refine W.store (i:=0) [cl,cm] S rfl rfl rfl lay62 rfl (AllOne.all (l:=[cl,cm]) (.cons (Sl.oneC dg) (.cons (Sl.oneC dh) .nil))) (Nat.le_of_ble_eq_true rfl) rfl ?_
   intro e0 S
   refine We<|WC.done ⟨ck,bs,S.drop _ (.cons _ (.cons_cons _ (.cons_cons _ (.cons_cons _ (.cons_cons _ (.cons_cons _ (.cons_cons _ (.cons_cons _ (.cons_cons _ (.cons_cons _ (.cons_cons _ (.cons_cons _ (.cons_cons _ .slnil)))))))))))))⟩ kr ?_
   have S3:=S
   replace S3:=S3.front 12 rfl
   replace S3:=S3.front 12 rfl
   replace S3:=S3.front 12 rfl
   replace S3:=S3.front 12 rfl
   replace S3:=S3.front 12 rfl
   replace S3:=S3.front 12 rfl
   replace S3:=S3.front 12 rfl
   replace S3:=S3.front 12 rfl
   replace S3:=S3.front 12 rfl
   replace S3:=S3.front 12 rfl
   replace S3:=S3.front 12 rfl
   replace S3:=S3.front 12 rfl
   replace S3:=S3.front 12 rfl
   replace S3:St w0 H0 _ ck [.box c5 62 [cl,cm],.box a0 92 [r,t,u,(str j.1.fReason),x,(str j.1.fBody),(int j.1.fRequested),(int j.1.fReceived)],.box av 92 [r,t,u,(str j.1.fReason),x,(str j.1.fBody),(int j.1.fRequested),(int j.1.fReceived)],.box aw 24 [(int 1),(int d.1.fStatus),(str d.1.fReason),ap,(str d.1.fBody)],.box af 56 [(str []),(str [])],.box ax 24 [(int d.1.fMinor),(int d.1.fStatus),(str d.1.fReason),z,(str d.1.fBody)],.box ay 24 [(int d.1.fMinor),(int d.1.fStatus),(str d.1.fReason),z,(str d.1.fBody)],.box ah 56 [(str []),(str [])],.box ai 56 [(str []),(str ae)],.box az 111 [(str k.1.fMethod),(str k.1.fTarget),(int k.1.fMinor),aq,(str k.1.fBody),(str k.2.1.fHost),(int k.2.1.fPort),(str k.2.1.fPath),(str k.2.1.fQuery),(boo k.2.1.fHasQuery),(str ab),(int 0),(boo false),(int 0),(.slice none 0 0),(.slice none 0 0),(.slice none 0 0),(str []),(.slice none 0 0),(str []),(int 0),(int 0)],.box aj 54 [(str c.fName),(int c.fBytes),(int c.fVariants),(int c.fTables),(boo c.fStrict),(boo c.fRefuse),(ptr p 0),(int 0),(.pointer none)],.box p 136 [(int c.fBytes),(int c.fVariants),(int c.fTables),(int 0),(.slice none 0 0),(mapv q)],.mp q []]:=S3
   replace S3:St w0 H0 _ ck [.box c5 62 [cl,cm],.box a0 92 [r,t,u,(str j.1.fReason),x,(str j.1.fBody),(int j.1.fRequested),(int j.1.fReceived)],.box av 92 [r,t,u,(str j.1.fReason),x,(str j.1.fBody),(int j.1.fRequested),(int j.1.fReceived)],.box aw 24 [(int 1),(int d.1.fStatus),(str d.1.fReason),ap,(str d.1.fBody)],.box af 56 [(str []),(str [])],.box ax 24 [(int d.1.fMinor),(int d.1.fStatus),(str d.1.fReason),z,(str d.1.fBody)],.box ay 24 [(int d.1.fMinor),(int d.1.fStatus),(str d.1.fReason),z,(str d.1.fBody)],.box ah 56 [(str []),(str [])],.box ai 56 [(str []),(str ae)],.box az 111 [(str k.1.fMethod),(str k.1.fTarget),(int k.1.fMinor),aq,(str k.1.fBody),(str k.2.1.fHost),(int k.2.1.fPort),(str k.2.1.fPath),(str k.2.1.fQuery),(boo k.2.1.fHasQuery),(str ab),(int 0),(boo false),(int 0),(.slice none 0 0),(.slice none 0 0),(.slice none 0 0),(str []),(.slice none 0 0),(str []),(int 0),(int 0)],.box aj 54 [(str c.fName),(int c.fBytes),(int c.fVariants),(int c.fTables),(boo c.fStrict),(boo c.fRefuse),(ptr p 0),(int 0),(.pointer none)],.box p 136 [(int c.fBytes),(int c.fVariants),(int c.fTables),(int 0),(.slice none 0 0),(mapv q)],.mp q []]:=S3.drop _ (.cons_cons _ (.cons_cons _ (.cons_cons _ (.cons_cons _ (.cons_cons _ (.cons_cons _ (.cons_cons _ (.cons_cons _ (.cons_cons _ (.cons_cons _ (.cons_cons _ (.cons_cons _ (.cons_cons _ .slnil)))))))))))))
   exact ⟨ck,c5,cl,cm,ch,cv,rfl,dg,dh,bd,be,bf,bg,b2,b3,b4,(c1.trans bs),S3⟩
  refine Nxt.mk (o:=_) (bm 15 12255) rfl rfl ?_
  refine W.alloc [(.slice none 0 0),(.slice none 0 0)] S zer62 ?_
  intro c6 e1 S
  refine We ?_
  refine WC.next (rs:=[5]) ⟨a5,(Hp.le.refl _),S.drop _ (.cons _ (.cons_cons _ (.cons_cons _ (.cons_cons _ (.cons_cons _ (.cons_cons _ (.cons_cons _ (.cons_cons _ (.cons_cons _ (.cons_cons _ (.cons_cons _ (.cons_cons _ (.cons_cons _ .slnil)))))))))))))⟩ kr (List.cons_ne_nil _ _) (all1 ?_)
  refine Nxt.mk (o:=_) (bm 15 12287) rfl rfl ?_
  refine WL.w (v:=agg [(.slice none 0 0),(.slice none 0 0)]) (R.lookX1 (i:=12) (m:=[]) S rfl rfl rfl Tryz.underlying134 Tryz.underlying9 mz62 zKn)<|We ?_
  refine WC.next (rs:=[12]) ⟨a5,(Hp.le.refl _),S.drop _ (.cons _ (.cons_cons _ (.cons_cons _ (.cons_cons _ (.cons_cons _ (.cons_cons _ (.cons_cons _ (.cons_cons _ (.cons_cons _ (.cons_cons _ (.cons_cons _ (.cons_cons _ (.cons_cons _ .slnil)))))))))))))⟩ kr (List.cons_ne_nil _ _) (all1 ?_)
  refine Nxt.mk (o:=_) (bm 15 16383) rfl rfl<|W.call S rfl (zHA S.holds (hG.post S.post) (⟨([]:List GAxis),([]:List GEntry)⟩:GTable) j.1 j.2 c.fVariants Sl.nil Sl.nil bd be bf bg b8 c3) ?_
  rintro e2 e3 cn b0 S ⟨co,cp,rfl,di,dj⟩
  have bd:=Sl.mono bd b0
  have be:=Sl.mono be b0
  have bf:=Sl.mono bf b0
  have bg:=Sl.mono bg b0
  have b2:=Sl.mono b2 b0
  have b3:=Sl.mono b3 b0
  have b4:=Sl.mono b4 b0
  refine We ?_
  refine WC.next (rs:=[14]) ⟨cn,b0,S.drop _ (.cons _ (.cons_cons _ (.cons_cons _ (.cons_cons _ (.cons_cons _ (.cons_cons _ (.cons_cons _ (.cons_cons _ (.cons_cons _ (.cons_cons _ (.cons_cons _ (.cons_cons _ (.cons_cons _ .slnil)))))))))))))⟩ kr (List.cons_ne_nil _ _) (all1 ?_)
  refine Nxt.mk (o:=_) (bm 15 32767) rfl rfl ?_
  refine W.store (i:=0) [co,cp] S rfl rfl rfl lay62 rfl (AllOne.all (l:=[co,cp]) (.cons (Sl.oneC di) (.cons (Sl.oneC dj) .nil))) (Nat.le_of_ble_eq_true rfl) rfl ?_
  intro e4 S
  refine We<|WC.done ⟨cn,b0,S.drop _ (.cons _ (.cons_cons _ (.cons_cons _ (.cons_cons _ (.cons_cons _ (.cons_cons _ (.cons_cons _ (.cons_cons _ (.cons_cons _ (.cons_cons _ (.cons_cons _ (.cons_cons _ (.cons_cons _ .slnil)))))))))))))⟩ kr ?_
  have S3:=S
  replace S3:=S3.front 12 rfl
  replace S3:=S3.front 12 rfl
  replace S3:=S3.front 12 rfl
  replace S3:=S3.front 12 rfl
  replace S3:=S3.front 12 rfl
  replace S3:=S3.front 12 rfl
  replace S3:=S3.front 12 rfl
  replace S3:=S3.front 12 rfl
  replace S3:=S3.front 12 rfl
  replace S3:=S3.front 12 rfl
  replace S3:=S3.front 12 rfl
  replace S3:=S3.front 12 rfl
  replace S3:=S3.front 12 rfl
  replace S3:St w0 H0 _ cn [.box c6 62 [co,cp],.box a0 92 [r,t,u,(str j.1.fReason),x,(str j.1.fBody),(int j.1.fRequested),(int j.1.fReceived)],.box av 92 [r,t,u,(str j.1.fReason),x,(str j.1.fBody),(int j.1.fRequested),(int j.1.fReceived)],.box aw 24 [(int 1),(int d.1.fStatus),(str d.1.fReason),ap,(str d.1.fBody)],.box af 56 [(str []),(str [])],.box ax 24 [(int d.1.fMinor),(int d.1.fStatus),(str d.1.fReason),z,(str d.1.fBody)],.box ay 24 [(int d.1.fMinor),(int d.1.fStatus),(str d.1.fReason),z,(str d.1.fBody)],.box ah 56 [(str []),(str [])],.box ai 56 [(str []),(str ae)],.box az 111 [(str k.1.fMethod),(str k.1.fTarget),(int k.1.fMinor),aq,(str k.1.fBody),(str k.2.1.fHost),(int k.2.1.fPort),(str k.2.1.fPath),(str k.2.1.fQuery),(boo k.2.1.fHasQuery),(str ab),(int 0),(boo false),(int 0),(.slice none 0 0),(.slice none 0 0),(.slice none 0 0),(str []),(.slice none 0 0),(str []),(int 0),(int 0)],.box aj 54 [(str c.fName),(int c.fBytes),(int c.fVariants),(int c.fTables),(boo c.fStrict),(boo c.fRefuse),(ptr p 0),(int 0),(.pointer none)],.box p 136 [(int c.fBytes),(int c.fVariants),(int c.fTables),(int 0),(.slice none 0 0),(mapv q)],.mp q []]:=S3
  replace S3:St w0 H0 _ cn [.box c6 62 [co,cp],.box a0 92 [r,t,u,(str j.1.fReason),x,(str j.1.fBody),(int j.1.fRequested),(int j.1.fReceived)],.box av 92 [r,t,u,(str j.1.fReason),x,(str j.1.fBody),(int j.1.fRequested),(int j.1.fReceived)],.box aw 24 [(int 1),(int d.1.fStatus),(str d.1.fReason),ap,(str d.1.fBody)],.box af 56 [(str []),(str [])],.box ax 24 [(int d.1.fMinor),(int d.1.fStatus),(str d.1.fReason),z,(str d.1.fBody)],.box ay 24 [(int d.1.fMinor),(int d.1.fStatus),(str d.1.fReason),z,(str d.1.fBody)],.box ah 56 [(str []),(str [])],.box ai 56 [(str []),(str ae)],.box az 111 [(str k.1.fMethod),(str k.1.fTarget),(int k.1.fMinor),aq,(str k.1.fBody),(str k.2.1.fHost),(int k.2.1.fPort),(str k.2.1.fPath),(str k.2.1.fQuery),(boo k.2.1.fHasQuery),(str ab),(int 0),(boo false),(int 0),(.slice none 0 0),(.slice none 0 0),(.slice none 0 0),(str []),(.slice none 0 0),(str []),(int 0),(int 0)],.box aj 54 [(str c.fName),(int c.fBytes),(int c.fVariants),(int c.fTables),(boo c.fStrict),(boo c.fRefuse),(ptr p 0),(int 0),(.pointer none)],.box p 136 [(int c.fBytes),(int c.fVariants),(int c.fTables),(int 0),(.slice none 0 0),(mapv q)],.mp q []]:=S3.drop _ (.cons_cons _ (.cons_cons _ (.cons_cons _ (.cons_cons _ (.cons_cons _ (.cons_cons _ (.cons_cons _ (.cons_cons _ (.cons_cons _ (.cons_cons _ (.cons_cons _ (.cons_cons _ (.cons_cons _ .slnil)))))))))))))
  exact ⟨cn,c6,co,cp,ch,cv,rfl,di,dj,bd,be,bf,bg,b2,b3,b4,(c1.trans b0),S3⟩
 rintro f w ⟨bh,cw,a6,a7,c7,c8,dk,a9,ba,dl,dm,dn,dp,dq,dr,ds,dv,S⟩
 refine Ws<|Wg<|M' c7<|M' c8 ?_
 refine WL.w (R.loadBN (i:=0) (vs:=[a6,a7]) S dk rfl lay62 rfl rfl) ?_
 obtain ⟨⟨bk,bn⟩,dw,h⟩:=bindE h
 refine callK rfl (zH0 hw (hG) S a9 ba dl dm dn dp dq dr ds dw ?_)
 intro e5 e6 dx dy a9 ba dl dm dn dp dq dr ds e7 S
 replace S:St w0 H0 _ dx [.box cw 62 [a6,a7],.box af 56 [(str []),(str [])],.box ah 56 [(str []),(str [])],.box ai 56 [(str []),(str ae)],.box aj 54 [(str c.fName),(int c.fBytes),(int c.fVariants),(int c.fTables),(boo c.fStrict),(boo c.fRefuse),(ptr p 0),(int 0),(.pointer none)],.box p 136 [(int c.fBytes),(int c.fVariants),(int c.fTables),(int (wr (0+(wr (bk - bn))))),(.slice none 0 0),(mapv q)],.mp q (encm (fun v=>v) [(ab,(agg [a6,a7]))])]:=(S.drop _ (.cons _ (.cons _ (.cons_cons _ (.cons _ (.cons _ (.cons _ (.cons_cons _ (.cons _ (.cons _ (.cons_cons _ (.cons_cons _ (.cons _ (.cons_cons _ (.cons_cons _ (.cons_cons _ .slnil))))))))))))))))
 refine We<|Ws<|Wg<|M' c7<|M' c8<|B h fun b5 dz h=>callK rfl (zHv hw (hG) S a9 ba dz ?_)
 intro bt bo d0 d1 e8 d2 b1 a9 ba e9 S
 refine We<|Ws<|Wg<|M' c7<|M' c8<|Fb' dk ?_
 refine Lo 1 S<|Nq d2<|Lh<|B h fun _ c9 h=>W.inl (args:=[(ptr p 0),(str ab),(int (wr ((a8.fEntries.length:Int) - 1)))]) rfl (N':=62) Tryz.func188 rfl rfl kr rfl (WP.inC (fun f w=>∃ (b9:Hp),MR (α:=Str) b9 bt 9 bo b5∧Sl (α:=GAxis) b9 a6 a8.fAxes∧Sl (α:=GEntry) b9 a7 a8.fEntries∧Hp.le ar b9∧St w0 H0 w b9 [bt,.box af 56 [(str []),(str [])],.box ah 56 [(str []),(str [])],.box ai 56 [(str []),(str ae)],.box aj 54 [(str c.fName),(int c.fBytes),(int c.fVariants),(int c.fTables),(boo c.fStrict),(boo c.fRefuse),(ptr p 0),(int 0),(.pointer none)],.box p 136 [(int c.fBytes),(int c.fVariants),(int c.fTables),(int (wr (0+(wr (bk - bn))))),bo,(mapv q)],.mp q (encm (fun v=>v) [(ab,(agg [a6,a7]))])]) ?_ ?_)
 ·refine B c9 fun d3 d4 c9=>WP.cut (fun f w=>∃ (ca:Hp),MR (α:=Str) ca bt 9 bo b5∧Sl (α:=GAxis) ca a6 a8.fAxes∧Sl (α:=GEntry) ca a7 a8.fEntries∧Hp.le ar ca∧St w0 H0 w ca [bt,.box af 56 [(str []),(str [])],.box ah 56 [(str []),(str [])],.box ai 56 [(str []),(str ae)],.box aj 54 [(str c.fName),(int c.fBytes),(int c.fVariants),(int c.fTables),(boo c.fStrict),(boo c.fRefuse),(ptr p 0),(int 0),(.pointer none)],.box p 136 [(int c.fBytes),(int c.fVariants),(int c.fTables),(int (wr (0+(wr (bk - bn))))),bo,(mapv q)],.mp q (encm (fun v=>v) [(ab,(agg [a6,a7]))])]) ?_ ?_
  ·refine Wb ?_
   refine WP.loopM (zFa c bk bn b5) (fun s f w=>match s with | _=>∃ (ce:Hp),f 0=(ptr p 0)∧MR (α:=Str) ce bt 9 bo b5∧Sl (α:=GAxis) ce a6 a8.fAxes∧Sl (α:=GEntry) ce a7 a8.fEntries∧Hp.le ar ce∧St w0 H0 w ce [bt,.box af 56 [(str []),(str [])],.box ah 56 [(str []),(str [])],.box ai 56 [(str []),(str ae)],.box aj 54 [(str c.fName),(int c.fBytes),(int c.fVariants),(int c.fTables),(boo c.fStrict),(boo c.fRefuse),(ptr p 0),(int 0),(.pointer none)],.box p 136 [(int c.fBytes),(int c.fVariants),(int c.fTables),(int (wr (0+(wr (bk - bn))))),bo,(mapv q)],.mp q (encm (fun v=>v) [(ab,(agg [a6,a7]))])]) () d3 (lfW d4) ?_ ?_
   ·exact ⟨d0,rfl,b1,a9,ba,((dv.trans dy).trans d1),(S.drop _ (.cons_cons _ (.cons _ (.cons_cons _ (.cons_cons _ (.cons_cons _ (.cons_cons _ (.cons_cons _ (.cons_cons _ .slnil)))))))))⟩
   intro s f w hI fa cq d5
   obtain ⟨ce,cx,b1,a9,ba,d6,S⟩:=hI
   refine Ws<|Ws<|WP.quiet S kr kr<|QM' cx<|QNn<|QFb ?_
   refine WQ.val (fun w hw=>by obtain ⟨_,hq,S⟩:=hw; exact (R.loadB (i:=5) (v:=int (wr (0+(wr (bk - bn))))) S rfl rfl lay3 rfl))<|QM' cx<|QNn<|QFb ?_
   refine WQ.val (fun w hw=>by obtain ⟨_,hq,S⟩:=hw; exact (R.loadB (i:=5) (v:=int c.fBytes) S rfl rfl lay3 rfl))<|QLc ?_
   refine QM ?_
   refine WQ.grp 11 [18,19,20,21,22,23,24,25,26,27] 28 (boo ((decide (c.fBytes<(wr (0+(wr (bk - bn))))))||(decide (c.fTables<(b5.length:Int))))) ?_ ?_
   ·rcases boolE (decide (c.fBytes<(wr (0+(wr (bk - bn)))))) with au | au
    ·refine QGn au<|QGn au<|QGn au<|QGn au<|QGn au<|QGn au<|QGn au<|QGn au<|QGn au<|QGn au<|QPt au ?_
     exact WQ.nil ⟨(orT au),ag⟩
    refine QGy au<|QM' cx<|QGy au<|QNn<|QGy au<|QFb<|QGy au ?_
    refine WQ.val (fun w hw=>by obtain ⟨_,hq,S⟩:=hw; exact (R.loadB (i:=5) (v:=bo) S rfl rfl lay45 rfl))<|QGy au ?_
    refine WQ.val (fun _ _=>(R.lenMR (α:=Str) b1 rfl Tryz.underlying45))<|QGy au<|QM' cx ?_
    refine QGy au<|QNn<|QGy au<|QFb<|QGy au ?_
    refine WQ.val (fun w hw=>by obtain ⟨_,hq,S⟩:=hw; exact (R.loadB (i:=5) (v:=int c.fTables) S rfl rfl lay3 rfl))<|QGy au<|QLc<|QPf au ?_
    exact WQ.nil ⟨(orF au),ag⟩
   intro us
   refine WQ.nil ?_
   intro fb d7 cy S
   have b1:=MR.mono b1 cy
   have a9:=Sl.mono a9 cy
   have ba:=Sl.mono ba cy
   rcases condE cq with ⟨da,cq⟩ | ⟨da,cq⟩
   ·refine CT da ?_
    cases cq
   refine CF da<|Wx ?_
   obtain rfl:=oi cq
   obtain rfl:=d5
   exact ⟨d7,b1,a9,ba,(d6.trans cy),S⟩
  rintro f w ⟨ca,b1,a9,ba,d8,S⟩
  cases oi c9
  skip
  exact ⟨.inr rfl,⟨ca,b1,a9,ba,d8,S⟩⟩
 rintro f w ⟨b9,b1,a9,ba,d9,S⟩
 refine InR.zero rfl <|We<|Ws<|Wg<|A<|We ?_
 refine WP.ret (In.one rfl rfl ?_)
 cases oi h
 exact hK bt bo a6 a7 b9 d9 b1 a9 ba _ S
end Go.Proofs
