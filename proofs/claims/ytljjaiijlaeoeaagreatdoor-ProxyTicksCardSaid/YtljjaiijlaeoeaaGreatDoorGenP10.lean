/- A part of the proof of laws of the seat: written by program over the translation. -/
import Derived.Test.YtljjaiijlaeoeaaGreatDoorEng38
import Derived.Test.YtljjaiijlaeoeaaGreatDoorEng36
import Derived.Test.YtljjaiijlaeoeaaGreatDoorGenP9
namespace Go.Proofs
set_option maxHeartbeats 4000000
set_option maxRecDepth 10000
open Go.Eng Go.Eng.Pure
set_option linter.unusedVariables false
theorem zIr {f ws:World} {h Hs:Hp} {i:List Ent} (S:St f h ws Hs i) (s sep:Str) (n:Int) :
  ConS Tryz.prog 255 [str s,str sep,int n] f h ws Hs i (fun H' v L'=>∃ b c d:Nat,L'=[.box b 9 [str sep],.box c 9 [str s],.box d 3 [int n]]∧v=.func (.func 291) #[] [ptr b 0,ptr c 0,ptr d 0].toArray):=by
 refine ConS.mk (N:=8) Tryz.func255 rfl rfl kr rfl<|Ws<|Wg ?_
 refine W.box [str s] S rfl rfl ?_
 intro c j S
 refine W.box [str sep] S rfl rfl ?_
 intro b k S
 refine W.box [int n] S rfl rfl ?_
 intro d l S
 refine A<|We<|Ws<|Wg ?_
 refine WL.w (R.mkFunc (vs:=[ptr b 0,ptr c 0,ptr d 0]) rfl)<|A<|We ?_
 have S3:=(S.front 2 rfl).front 2 rfl
 refine WP.ret (OutS.one (L':=[.box b 9 [str sep],.box c 9 [str s],.box d 3 [int n]]) rfl (Hp.le.refl _) S3 rfl ?_)
 exact ⟨_,_,_,rfl,rfl⟩
theorem zFv {f ws:World} {h Hs:Hp} {i:List Ent} (S:St f h ws Hs i) (s sep:Str) :
  ConS Tryz.prog 190 [str s,str sep] f h ws Hs i (fun H' v L'=>∃ b c d:Nat,L'=[.box b 9 [str sep],.box c 9 [str s],.box d 3 [int 0]]∧v=.func (.func 291) #[] [ptr b 0,ptr c 0,ptr d 0].toArray):=by
 refine ConS.mk (N:=8) Tryz.func190 rfl rfl kr rfl<|Ws<|Wg<|A<|We<|Ws<|Wg<|M<|M<|W.callS rfl (zIr S s sep 0) ?_
 rintro _ j k _ hle S ⟨b,c,d,rfl,rfl⟩
 refine WL.w (R.as rfl)<|We ?_
 refine WP.ret (OutS.one rfl hle S rfl ?_)
 exact ⟨_,_,_,rfl,rfl⟩
theorem zAR {j:World} {l:Hp} (hw:Holds j l) (hG:Tryz.Gl j) (q:(List GField)) {t:Value} (b:Sl (α:=GField) l t q) {r:(List GField)} (h:zFB q=some r) :
  Con Tryz.prog 123 [t] j l (fun H' v=>Sl (α:=GField) H' v r):=by
 refine Con.mkR (N:=49) Tryz.func123 rfl rfl kr rfl ?_
 have S:=St.start hw
 refine WPR.seq<|WPR.of<|Wg<|A<|We<|WPR.seq<|WPR.of<|Wg<|W.makeMap S ?_
 intro c w2 S
 refine W.alloc [(.map none)] S zNJ ?_
 intro o w4 S
 refine W.store (i:=0) [(mapv c)] S rfl rfl rfl zK0 rfl rfl (Nat.le_of_ble_eq_true rfl) rfl ?_
 intro w5 S
 refine We<|WPR.seq<|WPR.of<|Ws<|Wg<|M<|B h fun r6 be h=>W.call S rfl (zF6 S.holds (hG.post S.post) q [67,111,110,110,101,99,116,105,111,110] b be) ?_
 rintro v7 w8 H9 bg S bh
 have b:=Sl.mono b bg
 refine Nq bh<|M<|We<|B h fun bi bj h=>WP.cut (fun f w=>∃ (ao:Hp),f 0=t∧f 3=(ptr o 0)∧Sl (α:=GField) ao t q∧St j l w ao [.box o 269 [(mapv c)],.mp c (encm boo ([]:List (Str×Bool)))]) ?_ ?_
 ·refine Wb ?_
  refine WP.loopM (zG3 r6) (fun s f w=>match s with | _=>∃ (ad:Hp),f 0=t∧f 3=(ptr o 0)∧f 14=(int (r6.length:Int))∧f 15=(int 0)∧Sl (α:=GField) ad t q∧St j l w ad [.box o 269 [(mapv c)],.mp c (encm boo ([]:List (Str×Bool)))]) () bi (lfW bj) ?_ ?_
  ·exact ⟨H9,rfl,rfl,rfl,rfl,b,S⟩
  intro s f w hI cj aa bk
  obtain ⟨ad,bn,bo,bp,bq,b,S⟩:=hI
  refine Ws<|Wg<|La' bq bp<|We<|Ws ?_
  rcases condE aa with ⟨ap,aa⟩ | ⟨ap,aa⟩
  ·refine CT ap ?_
   cases aa
  refine CF ap<|Wx ?_
  obtain rfl:=oi aa
  obtain rfl:=bk
  exact ⟨ad,bn,bo,b,S⟩
 rintro f w ⟨ao,br,aq,b,S⟩
 refine WPR.seq<|WPR.seq<|WPR.of<|Wg<|W.callS rfl (zFv S [104,111,115,116,32,99,97,99,104,101,45,99,111,110,116,114,111,108,32,118,97,114,121,32,118,97,114,105,97,110,116,115,32,118,97,114,105,97,110,116,45,107,101,121,32,118,105,97] [32]) ?_
 rintro _ ck a3 _ bs S ⟨ae,af,ah,rfl,rfl⟩
 replace S:St j l _ a3 [.box ae 9 [(str [32])],.box af 9 [(str [104,111,115,116,32,99,97,99,104,101,45,99,111,110,116,114,111,108,32,118,97,114,121,32,118,97,114,105,97,110,116,115,32,118,97,114,105,97,110,116,45,107,101,121,32,118,105,97])],.box ah 3 [(int 0)],.box o 269 [(mapv c)],.mp c (encm boo ([]:List (Str×Bool)))]:=S
 have b:=Sl.mono b bs
 refine We<|WPR.block ?_
 replace S:=S.front 2 rfl
 replace S:=S.front 2 rfl
 replace S:=S.front 2 rfl
 replace S:=S.front 4 rfl
 replace S:=S.front 4 rfl
 replace S:St j l _ a3 [.box o 269 [(mapv c)],.mp c (encm boo ([]:List (Str×Bool))),.box ae 9 [(str [32])],.box af 9 [(str [104,111,115,116,32,99,97,99,104,101,45,99,111,110,116,114,111,108,32,118,97,114,121,32,118,97,114,105,97,110,116,115,32,118,97,114,105,97,110,116,45,107,101,121,32,118,105,97])],.box ah 3 [(int 0)]]:=S
 refine B h fun ar bt h=>WPR.range (caps:=[(ptr ae 0),(ptr af 0),(ptr ah 0)]) S rfl (zJZ Tryz.func291 rfl kr) ?_
 intro fn x cl S
 replace S:=S.front 3 rfl
 replace S:=S.front 3 rfl
 replace S:=S.front 2 rfl
 replace S:=S.front 6 rfl
 replace S:=S.front 6 rfl
 replace S:=S.front 6 rfl
 replace S:=S.front 5 rfl
 replace S:=S.front 5 rfl
 replace S:=S.front 5 rfl
 refine Calls.mono (zEs hG (fun m k=>mdel m k) (Nat.le_of_ble_eq_true rfl) rfl (by exact fun k m w H L S=>Round.del S ⟨rfl,aq,rfl,rfl,rfl⟩ (i1:=0) (i2:=1) rfl rfl zK0 rfl Tryz.underlying269 Tryz.underlying9) S).2 ?_
 rintro _ cm ⟨v,a4,L3,rfl,bv,S,s9,rfl,rfl⟩
 refine ⟨_,rfl,a4,_,S,?_⟩
 intro cn S
 rw [oi bt] at S
 replace S:St j l _ a4 [.box o 269 [(mapv c)],.mp c (encm boo ar),.box ae 9 [(str [32])],.box af 9 [(str s9)],.box ah 3 [(int 0)],.obj x (.deferred (some []))]:=S
 replace S:=S.drop _ (.cons_cons _ (.cons_cons _ (.cons _ (.cons _ (.cons _ (.cons_cons _ .slnil))))))
 have b:=Sl.mono b bv
 refine WPR.seq<|WPR.seq<|WPR.of<|Wg<|W.callS rfl (zFv S [99,111,110,110,101,99,116,105,111,110,32,107,101,101,112,45,97,108,105,118,101,32,112,114,111,120,121,45,99,111,110,110,101,99,116,105,111,110,32,112,114,111,120,121,45,97,117,116,104,101,110,116,105,99,97,116,101,32,112,114,111,120,121,45,97,117,116,104,111,114,105,122,97,116,105,111,110,32,116,101,32,116,114,97,105,108,101,114,32,116,114,97,110,115,102,101,114,45,101,110,99,111,100,105,110,103,32,99,111,110,116,101,110,116,45,108,101,110,103,116,104,32,117,112,103,114,97,100,101] [32]) ?_
 rintro _ co a5 _ bw S ⟨ai,aj,ak,rfl,rfl⟩
 replace S:St j l _ a5 [.box ai 9 [(str [32])],.box aj 9 [(str [99,111,110,110,101,99,116,105,111,110,32,107,101,101,112,45,97,108,105,118,101,32,112,114,111,120,121,45,99,111,110,110,101,99,116,105,111,110,32,112,114,111,120,121,45,97,117,116,104,101,110,116,105,99,97,116,101,32,112,114,111,120,121,45,97,117,116,104,111,114,105,122,97,116,105,111,110,32,116,101,32,116,114,97,105,108,101,114,32,116,114,97,110,115,102,101,114,45,101,110,99,111,100,105,110,103,32,99,111,110,116,101,110,116,45,108,101,110,103,116,104,32,117,112,103,114,97,100,101])],.box ak 3 [(int 0)],.box o 269 [(mapv c)],.mp c (encm boo ar),.obj x (.deferred (some []))]:=S
 have b:=Sl.mono b bw
 refine We<|WPR.block ?_
 replace S:=S.front 5 rfl
 replace S:=S.front 3 rfl
 replace S:=S.front 3 rfl
 replace S:=S.front 3 rfl
 replace S:=S.front 5 rfl
 replace S:=S.front 5 rfl
 replace S:St j l _ a5 [.box o 269 [(mapv c)],.mp c (encm boo ar),.box ai 9 [(str [32])],.box aj 9 [(str [99,111,110,110,101,99,116,105,111,110,32,107,101,101,112,45,97,108,105,118,101,32,112,114,111,120,121,45,99,111,110,110,101,99,116,105,111,110,32,112,114,111,120,121,45,97,117,116,104,101,110,116,105,99,97,116,101,32,112,114,111,120,121,45,97,117,116,104,111,114,105,122,97,116,105,111,110,32,116,101,32,116,114,97,105,108,101,114,32,116,114,97,110,115,102,101,114,45,101,110,99,111,100,105,110,103,32,99,111,110,116,101,110,116,45,108,101,110,103,116,104,32,117,112,103,114,97,100,101])],.box ak 3 [(int 0)],.obj x (.deferred (some []))]:=S
 refine B h fun al bx h=>WPR.range (caps:=[(ptr ai 0),(ptr aj 0),(ptr ak 0)]) S rfl (zJZ Tryz.func291 rfl kr) ?_
 intro fn am cp S
 replace S:=S.front 3 rfl
 replace S:=S.front 3 rfl
 replace S:=S.front 2 rfl
 replace S:=S.front 6 rfl
 replace S:=S.front 6 rfl
 replace S:=S.front 6 rfl
 replace S:=S.front 5 rfl
 replace S:=S.front 5 rfl
 replace S:=S.front 5 rfl
 refine Calls.mono (zEs hG (fun m k=>mset m k true) (Nat.le_of_ble_eq_true rfl) rfl (by exact fun k m w H L S=>Round.set S ⟨rfl,aq,rfl,rfl,rfl⟩ (i1:=0) (i2:=1) rfl rfl zK0 Tryz.underlying269 Tryz.underlying9) S).2 ?_
 rintro _ cq ⟨v,av,L3,rfl,bz,S,s9,rfl,rfl⟩
 refine ⟨_,rfl,av,_,S,?_⟩
 intro cr S
 rw [oi bx] at S
 replace S:St j l _ av [.box o 269 [(mapv c)],.mp c (encm boo al),.box ai 9 [(str [32])],.box aj 9 [(str s9)],.box ak 3 [(int 0)],.obj am (.deferred (some [])),.obj x (.deferred (some []))]:=S
 replace S:=S.drop _ (.cons_cons _ (.cons_cons _ (.cons _ (.cons _ (.cons _ (.cons_cons _ (.cons_cons _ .slnil)))))))
 have b:=Sl.mono b bz
 refine WPR.of<|Ws<|Wg<|A<|We<|Ws<|Ws<|Wg<|M' br<|Nq b<|M<|We ?_
 have S:=S.addNil 68 2
 refine B h fun aw b0 h=>WP.cut (fun f w=>∃ (ax:Hp) (an:Value),f 8=an∧Sl (α:=GField) ax an aw∧St j l w ax [.row an 68 2 aw.length,.obj am (.deferred (some [])),.obj x (.deferred (some []))]) ?_ ?_
 ·refine Wb ?_
  refine WP.loopM (zFF q al) (fun s f w=>match s with | (ay,a6)=>∃ (ab:Hp) (ac:Value),f 3=(ptr o 0)∧f 8=ac∧f 31=t∧f 32=(int (q.length:Int))∧f 33=(int a6)∧Sl (α:=GField) ab ac ay∧Sl (α:=GField) ab t q∧St j l w ab [.row ac 68 2 ay.length,.box o 269 [(mapv c)],.mp c (encm boo al),.obj am (.deferred (some [])),.obj x (.deferred (some []))]) (([]:List GField),0) aw (lfW b0) ?_ ?_
  ·exact ⟨av,.slice none 0 0,aq,rfl,rfl,rfl,rfl,Sl.nil,b,S⟩
  intro s f w hI cs d b1
  obtain ⟨ay,a6⟩:=s
  obtain ⟨ab,ac,a7,a8,a9,ba,az,u,b,S⟩:=hI
  refine Ws<|Wg<|La' az ba<|We<|Ws ?_
  rcases condE d with ⟨a0,d⟩ | ⟨a0,d⟩
  ·refine CT a0<|Wk<|Ws<|Wb<|Ws<|Wg<|B d fun p b2 d=>W.idx (α:=GField) b a9 az el22 b2 ?_
   rintro ct _ b3 rfl
   refine WL.w (R.loadHN (vs:=[(str p.fName),(str p.fValue)]) S rfl b3 lay68 rfl rfl) ?_
   refine W.alloc [(str []),(str [])] S zer68 ?_
   intro cu cv S
   refine W.store (i:=0) [(str p.fName),(str p.fValue)] S rfl rfl rfl lay68 rfl rfl (Nat.le_of_ble_eq_true rfl) rfl ?_
   intro cw S
   refine We<|Ws<|WP.quiet S kr kr ?_
   refine WQ.val (fun w hw=>by obtain ⟨_,hq,S⟩:=hw; exact (R.loadB (i:=2) (v:=mapv c) S a7 rfl zK0 rfl))<|QFb ?_
   refine WQ.val (fun w hw=>by obtain ⟨_,hq,S⟩:=hw; exact (R.loadB (i:=0) (v:=str p.fName) S rfl rfl lay9 rfl))<|B d fun b4 b5 d=>WQ.call (v:=str b4) rfl (fun w H' hq S=>zNT S.holds (hG.post S.post) p.fName b5)<|B d fun g87 b6 d=>?_
   refine WQ.val (v:=boo g87.1) (fun w hw=>by obtain ⟨_,hq,S⟩:=hw; exact (R.ofEq (R.lookup1 boo (i:=3) (m:=al) (z:=false) S rfl rfl rfl Tryz.underlying269 Tryz.underlying9 mz4 rfl) (by rw [oi b6])))<|QNo<|WQ.nil ?_
   intro cx cy bb S
   have u:=Sl.mono u bb
   have b:=Sl.mono b bb
   rcases condE d with ⟨a1,d⟩ | ⟨a1,d⟩
   ·refine CT a1<|Wg<|M' a8 ?_
    refine WL.w (R.loadBN (i:=0) (vs:=[(str p.fName),(str p.fValue)]) S rfl rfl lay68 rfl rfl)<|W.bslice (α:=GField) [(agg [(str p.fName),(str p.fValue)])] ([p]:List GField) S el22 rfl rfl rfl (by decide) (Go.Eng.encS ⟨rfl,rfl⟩ enc0) ?_
    intro cz c0 c1 bc b7 S
    have u:=Sl.mono u bc
    have b:=Sl.mono b bc
    refine B d fun c2 b8 d=>W.app (α:=GField) (i:=2) S el22 rfl rfl rfl u b7 b8 ?_
    intro b9 c3 ca bd cb S
    have u:=Sl.mono u bd
    have b:=Sl.mono b bd
    refine A<|We<|Wg<|Lg' az rfl<|M<|We ?_
    obtain rfl:=oi d
    exact ⟨rfl,⟨ca,b9,a7,rfl,a9,ba,rfl,cb,b,(S.drop _ (.cons _ (.cons _ (.cons_cons _ (.cons_cons _ (.cons_cons _ (.cons_cons _ (.cons_cons _ .slnil))))))))⟩⟩
   refine CF a1 ?_
   cases d
  refine CF a0<|Wx ?_
  obtain rfl:=oi d
  obtain rfl:=b1
  exact ⟨ab,ac,a8,u,(S.drop _ (.cons_cons _ (.cons _ (.cons _ (.cons_cons _ (.cons_cons _ .slnil))))))⟩
 rintro f w ⟨ax,an,cc,cd,S⟩
 refine Ws<|Wg<|M' cc<|A<|We ?_
 obtain rfl:=oi h
 replace S:=S.front 2 rfl
 replace S:=S.front 2 rfl
 refine WP.ret (OutR.one [am,x] rfl rfl S rfl ?_)
 exact cd
theorem zNN {j:World} {d:Hp} (hw:Holds j d) (hG:Tryz.Gl j) (ab:(List GField)) (k:(List Str)) {ac:Value} {o:Value} (ak:Sl (α:=GField) d ac ab) (b:Sl (α:=Str) d o k) {r:(List GField)} (h:zN5 ab k=some r) :
  Con Tryz.prog 107 [ac,o] j d (fun H' v=>Sl (α:=GField) H' v r):=by
 refine Con.mk (N:=21) Tryz.func107 rfl rfl kr rfl ?_
 have S:=St.start hw
 refine Ws<|Wg<|A<|We<|Ws<|Wg<|M ?_
 have S:=S.addNil 68 2
 refine B h fun l1 am h=>W.app (α:=GField) (i:=0) S el22 rfl rfl rfl Sl.nil ak am ?_
 intro v2 w3 H4 ap R6 S
 have b:=Sl.mono b ap
 refine A<|We<|Ws<|Ws<|Wg<|M<|Nq b<|M<|We<|B h fun ad ar h=>WP.cut (fun f w=>∃ (t:Hp) (u:Value),f 5=u∧Sl (α:=GField) t u ad∧St j d w t []) ?_ ?_
 ·refine Wb ?_
  refine WP.loopM (zNx k) (fun s f w=>match s with | (x,ae)=>∃ (l:Hp) (p:Value),f 5=p∧f 10=o∧f 11=(int (k.length:Int))∧f 12=(int ae)∧Sl (α:=GField) l p x∧Sl (α:=Str) l o k∧St j d w l []) (l1,0) ad (lfW ar) ?_ ?_
  ·exact ⟨H4,v2,rfl,rfl,rfl,rfl,R6,b,(S.drop _ (.cons _ .slnil))⟩
  intro s f w hI a5 c au
  obtain ⟨x,ae⟩:=s
  obtain ⟨l,p,af,ah,ai,z,q,b,S⟩:=hI
  refine Ws<|Wg<|La' z ai<|We<|Ws ?_
  rcases condE c with ⟨aa,c⟩ | ⟨aa,c⟩
  ·refine CT aa<|Wk<|Ws<|Wb<|Ws<|Wg<|B c fun av aw c=>W.idx (α:=Str) b ah z el45 aw ?_
   rintro a6 _ ax rfl
   refine Lq S ax<|A<|We<|Wg<|M' af<|M<|B c fun a7 ay c=>W.call S rfl (zOM S.holds (hG.post S.post) x av q ay) ?_
   rintro az a8 a0 aj S a1
   have q:=Sl.mono q aj
   have b:=Sl.mono b aj
   refine A<|We<|Wg<|Lg' z rfl<|M<|We ?_
   obtain rfl:=oi c
   exact ⟨rfl,⟨a0,az,rfl,ah,ai,rfl,a1,b,S⟩⟩
  refine CF aa<|Wx ?_
  obtain rfl:=oi c
  obtain rfl:=au
  exact ⟨l,p,af,q,S⟩
 rintro f w ⟨t,u,a2,a3,S⟩
 refine Ws<|Wg<|M' a2<|A<|We ?_
 obtain rfl:=oi h
 refine WP.ret (Out.one rfl S rfl ?_)
 exact a3
theorem zHR {j:World} {d:Hp} (hw:Holds j d) (hG:Tryz.Gl j) (b:GRequest) (u:Str) {cv:Value} (c:Sl (α:=GField) d cv b.fFields) {r:GRequest} (h:zB6 b u=some r) :
  Con Tryz.prog 102 [(agg [(str b.fMethod),(str b.fTarget),(int b.fMinor),cv,(str b.fBody)]),(str u)] j d (fun H' v=>∃ u1:Value,v=(agg [(str r.fMethod),(str r.fTarget),(int r.fMinor),u1,(str r.fBody)])∧Sl (α:=GField) H' u1 r.fFields):=by
 refine Con.mk (N:=17) Tryz.func102 rfl rfl kr rfl ?_
 have S:=St.start hw
 refine Ws<|Wg ?_
 refine W.box [(str b.fMethod),(str b.fTarget),(int b.fMinor),cv,(str b.fBody)] S rfl rfl ?_
 intro p w2 S
 refine W.alloc [(str []),(str []),(int 0),(.slice none 0 0),(str [])] S zer94 ?_
 intro k w4 S
 refine We<|Ws<|B h fun r5 ah h=>B h fun ab ac h=>B h fun d4 ad h=>WP.cut (fun f w=>∃ (cw:Hp) (am:Value),f 2=(ptr p 0)∧f 4=(ptr k 0)∧Sl (α:=GField) cw am d4∧St j d w cw [.box k 94 [(str []),(str []),(int 0),(.slice none 0 0),(str [])],.box p 94 [(str b.fMethod),(str b.fTarget),(int b.fMinor),am,(str b.fBody)]]) ?_ ?_
 ·refine WP.drawC (Cl j d d [.box k 94 [(str []),(str []),(int 0),(.slice none 0 0),(str [])]]) kr 11 rfl (bm 11 0) rfl ?_
  have S:=S.drew
  refine WC.take (i:=0) (bm 11 1) rfl kr kr kr rfl (fun _ _=>(R.fieldB rfl zDP)) ?_
  refine WC.take (i:=3) (bm 11 9) rfl kr kr kr rfl (fun _ _=>(R.fieldB rfl zLn)) ?_
  refine WC.take (i:=5) (bm 11 41) rfl kr kr kr rfl (fun _ _=>(R.mv (v:=str u) rfl)) ?_
  refine WC.next (rs:=[1,4,7]) ⟨d,(Hp.le.refl _),S.drop _ (.cons_cons _ (.cons _ .slnil))⟩ kr (List.cons_ne_nil _ _) (allS ?_ (allS ?_ (all1 ?_)))
  ·refine Nxt.mk (o:=_) (bm 11 43) rfl rfl ?_
   refine Lo 1 S<|We ?_
   refine WC.next (rs:=[2,4,7]) ⟨d,(Hp.le.refl _),S.drop _ (.cons_cons _ (.cons _ .slnil))⟩ kr (List.cons_ne_nil _ _) (allS ?_ (allS ?_ (all1 ?_)))
   ·refine Nxt.mk (o:=_) (bm 11 47) rfl rfl<|W.call S rfl (zAR S.holds (hG.post S.post) b.fFields c ah) ?_
    rintro f0 f1 dd z S x
    have c:=Sl.mono c z
    refine We ?_
    refine WC.next (rs:=[4,7]) ⟨dd,z,S.drop _ (.cons_cons _ (.cons _ .slnil))⟩ kr (List.cons_ne_nil _ _) (allS ?_ (all1 ?_))
    ·refine Nxt.mk (o:=_) (bm 11 63) rfl rfl ?_
     refine Lo 1 S<|We ?_
     refine WC.next (rs:=[6,7]) ⟨dd,z,S.drop _ (.cons_cons _ (.cons _ .slnil))⟩ kr (List.cons_ne_nil _ _) (allS ?_ (all1 ?_))
     ·refine Nxt.mk (o:=_) (bm 11 127) rfl rfl<|W.call S rfl (zNO S.holds (hG.post S.post) r5 b.fMinor u x ac) ?_
      rintro f2 f3 d5 ar S cx
      have c:=Sl.mono c ar
      have x:=Sl.mono x ar
      refine We ?_
      refine WC.next (rs:=[7]) ⟨d5,(z.trans ar),S.drop _ (.cons_cons _ (.cons _ .slnil))⟩ kr (List.cons_ne_nil _ _) (all1 ?_)
      refine Nxt.mk (o:=_) (bm 11 255) rfl rfl<|W.bslice (α:=Str) [(str [82,97,110,103,101]),(str [73,102,45,82,97,110,103,101])] ([[82,97,110,103,101],[73,102,45,82,97,110,103,101]]:List Str) S el45 rfl rfl rfl (by decide) (Go.Eng.encS ⟨rfl,rfl⟩ (Go.Eng.encS ⟨rfl,rfl⟩ enc0)) ?_
      intro d6 f4 d7 au d8 S
      have c:=Sl.mono c au
      have x:=Sl.mono x au
      have cx:=Sl.mono cx au
      refine We ?_
      refine WC.next (rs:=[8]) ⟨d7,((z.trans ar).trans au),S.drop _ (.cons _ (.cons_cons _ (.cons _ .slnil)))⟩ kr (List.cons_ne_nil _ _) (all1 ?_)
      refine Nxt.mk (o:=_) (bm 11 511) rfl rfl<|W.call S rfl (zNN S.holds (hG.post S.post) ab ([[82,97,110,103,101],[73,102,45,82,97,110,103,101]]:List Str) cx d8 ad) ?_
      rintro b7 f5 ba b8 S de
      have c:=Sl.mono c b8
      have x:=Sl.mono x b8
      refine We ?_
      refine WC.take (i:=9) (bm 11 1023) rfl kr kr kr rfl (fun _ _=>(R.fieldB rfl zDP)) ?_
      refine WC.next (rs:=[10]) ⟨ba,(((z.trans ar).trans au).trans b8),S.drop _ (.cons _ (.cons_cons _ (.cons _ .slnil)))⟩ kr (List.cons_ne_nil _ _) (all1 ?_)
      refine Nxt.mk (o:=_) (bm 11 2047) rfl rfl ?_
      refine W.storeSl (α:=GField) (i:=2) [(str b.fMethod),(str b.fTarget),(int b.fMinor),b7,(str b.fBody)] S de rfl rfl rfl lay22 (Nat.le_of_ble_eq_true rfl) rfl ?_
      intro f6 S
      refine We<|WC.done ⟨ba,(((z.trans ar).trans au).trans b8),S.drop _ (.cons _ (.cons_cons _ (.cons _ .slnil)))⟩ kr ?_
      have S3:=S
      replace S3:=S3.front 2 rfl
      replace S3:=S3.front 2 rfl
      replace S3:St j d _ ba [.box k 94 [(str []),(str []),(int 0),(.slice none 0 0),(str [])],.box p 94 [(str b.fMethod),(str b.fTarget),(int b.fMinor),b7,(str b.fBody)],.row d6 9 1 ([[82,97,110,103,101],[73,102,45,82,97,110,103,101]]:List Str).length]:=S3
      replace S3:St j d _ ba [.box k 94 [(str []),(str []),(int 0),(.slice none 0 0),(str [])],.box p 94 [(str b.fMethod),(str b.fTarget),(int b.fMinor),b7,(str b.fBody)]]:=S3.drop _ (.cons_cons _ (.cons_cons _ (.cons _ .slnil)))
      exact ⟨ba,b7,rfl,rfl,de,S3⟩
     refine Nxt.mk (o:=_) (bm 11 191) rfl rfl<|W.bslice (α:=Str) [(str [82,97,110,103,101]),(str [73,102,45,82,97,110,103,101])] ([[82,97,110,103,101],[73,102,45,82,97,110,103,101]]:List Str) S el45 rfl rfl rfl (by decide) (Go.Eng.encS ⟨rfl,rfl⟩ (Go.Eng.encS ⟨rfl,rfl⟩ enc0)) ?_
     intro d9 f7 ea av cy S
     have c:=Sl.mono c av
     have x:=Sl.mono x av
     refine We ?_
     refine WC.next (rs:=[6]) ⟨ea,(z.trans av),S.drop _ (.cons _ (.cons_cons _ (.cons _ .slnil)))⟩ kr (List.cons_ne_nil _ _) (all1 ?_)
     refine Nxt.mk (o:=_) (bm 11 255) rfl rfl<|W.call S rfl (zNO S.holds (hG.post S.post) r5 b.fMinor u x ac) ?_
     rintro f8 f9 eb aw S ec
     have c:=Sl.mono c aw
     have x:=Sl.mono x aw
     have cy:=Sl.mono cy aw
     refine We ?_
     refine WC.next (rs:=[8]) ⟨eb,((z.trans av).trans aw),S.drop _ (.cons _ (.cons_cons _ (.cons _ .slnil)))⟩ kr (List.cons_ne_nil _ _) (all1 ?_)
     refine Nxt.mk (o:=_) (bm 11 511) rfl rfl<|W.call S rfl (zNN S.holds (hG.post S.post) ab ([[82,97,110,103,101],[73,102,45,82,97,110,103,101]]:List Str) ec cy ad) ?_
     rintro b9 ga bb ca S df
     have c:=Sl.mono c ca
     have x:=Sl.mono x ca
     refine We ?_
     refine WC.take (i:=9) (bm 11 1023) rfl kr kr kr rfl (fun _ _=>(R.fieldB rfl zDP)) ?_
     refine WC.next (rs:=[10]) ⟨bb,(((z.trans av).trans aw).trans ca),S.drop _ (.cons _ (.cons_cons _ (.cons _ .slnil)))⟩ kr (List.cons_ne_nil _ _) (all1 ?_)
     refine Nxt.mk (o:=_) (bm 11 2047) rfl rfl ?_
     refine W.storeSl (α:=GField) (i:=2) [(str b.fMethod),(str b.fTarget),(int b.fMinor),b9,(str b.fBody)] S df rfl rfl rfl lay22 (Nat.le_of_ble_eq_true rfl) rfl ?_
     intro gb S
     refine We<|WC.done ⟨bb,(((z.trans av).trans aw).trans ca),S.drop _ (.cons _ (.cons_cons _ (.cons _ .slnil)))⟩ kr ?_
     have S3:=S
     replace S3:=S3.front 2 rfl
     replace S3:=S3.front 2 rfl
     replace S3:St j d _ bb [.box k 94 [(str []),(str []),(int 0),(.slice none 0 0),(str [])],.box p 94 [(str b.fMethod),(str b.fTarget),(int b.fMinor),b9,(str b.fBody)],.row d9 9 1 ([[82,97,110,103,101],[73,102,45,82,97,110,103,101]]:List Str).length]:=S3
     replace S3:St j d _ bb [.box k 94 [(str []),(str []),(int 0),(.slice none 0 0),(str [])],.box p 94 [(str b.fMethod),(str b.fTarget),(int b.fMinor),b9,(str b.fBody)]]:=S3.drop _ (.cons_cons _ (.cons_cons _ (.cons _ .slnil)))
     exact ⟨bb,b9,rfl,rfl,df,S3⟩
    refine Nxt.mk (o:=_) (bm 11 175) rfl rfl<|W.bslice (α:=Str) [(str [82,97,110,103,101]),(str [73,102,45,82,97,110,103,101])] ([[82,97,110,103,101],[73,102,45,82,97,110,103,101]]:List Str) S el45 rfl rfl rfl (by decide) (Go.Eng.encS ⟨rfl,rfl⟩ (Go.Eng.encS ⟨rfl,rfl⟩ enc0)) ?_
    intro ed gc dg an cz S
    have c:=Sl.mono c an
    have x:=Sl.mono x an
    refine We ?_
    refine WC.next (rs:=[4]) ⟨dg,(z.trans an),S.drop _ (.cons _ (.cons_cons _ (.cons _ .slnil)))⟩ kr (List.cons_ne_nil _ _) (all1 ?_)
    refine Nxt.mk (o:=_) (bm 11 191) rfl rfl ?_
    refine Lo 2 S<|We ?_
    refine WC.next (rs:=[6]) ⟨dg,(z.trans an),S.drop _ (.cons _ (.cons_cons _ (.cons _ .slnil)))⟩ kr (List.cons_ne_nil _ _) (all1 ?_)
    refine Nxt.mk (o:=_) (bm 11 255) rfl rfl<|W.call S rfl (zNO S.holds (hG.post S.post) r5 b.fMinor u x ac) ?_
    rintro gd ge ee bc S ef
    have c:=Sl.mono c bc
    have cz:=Sl.mono cz bc
    refine We ?_
    refine WC.next (rs:=[8]) ⟨ee,((z.trans an).trans bc),S.drop _ (.cons _ (.cons_cons _ (.cons _ .slnil)))⟩ kr (List.cons_ne_nil _ _) (all1 ?_)
    refine Nxt.mk (o:=_) (bm 11 511) rfl rfl<|W.call S rfl (zNN S.holds (hG.post S.post) ab ([[82,97,110,103,101],[73,102,45,82,97,110,103,101]]:List Str) ef cz ad) ?_
    rintro cb gf bd c0 S dh
    have c:=Sl.mono c c0
    refine We ?_
    refine WC.take (i:=9) (bm 11 1023) rfl kr kr kr rfl (fun _ _=>(R.fieldB rfl zDP)) ?_
    refine WC.next (rs:=[10]) ⟨bd,(((z.trans an).trans bc).trans c0),S.drop _ (.cons _ (.cons_cons _ (.cons _ .slnil)))⟩ kr (List.cons_ne_nil _ _) (all1 ?_)
    refine Nxt.mk (o:=_) (bm 11 2047) rfl rfl ?_
    refine W.storeSl (α:=GField) (i:=2) [(str b.fMethod),(str b.fTarget),(int b.fMinor),cb,(str b.fBody)] S dh rfl rfl rfl lay22 (Nat.le_of_ble_eq_true rfl) rfl ?_
    intro gg S
    refine We<|WC.done ⟨bd,(((z.trans an).trans bc).trans c0),S.drop _ (.cons _ (.cons_cons _ (.cons _ .slnil)))⟩ kr ?_
    have S3:=S
    replace S3:=S3.front 2 rfl
    replace S3:=S3.front 2 rfl
    replace S3:St j d _ bd [.box k 94 [(str []),(str []),(int 0),(.slice none 0 0),(str [])],.box p 94 [(str b.fMethod),(str b.fTarget),(int b.fMinor),cb,(str b.fBody)],.row ed 9 1 ([[82,97,110,103,101],[73,102,45,82,97,110,103,101]]:List Str).length]:=S3
    replace S3:St j d _ bd [.box k 94 [(str []),(str []),(int 0),(.slice none 0 0),(str [])],.box p 94 [(str b.fMethod),(str b.fTarget),(int b.fMinor),cb,(str b.fBody)]]:=S3.drop _ (.cons_cons _ (.cons_cons _ (.cons _ .slnil)))
    exact ⟨bd,cb,rfl,rfl,dh,S3⟩
   ·refine Nxt.mk (o:=_) (bm 11 59) rfl rfl ?_
    refine Lo 1 S<|We ?_
    refine WC.next (rs:=[2,7]) ⟨d,(Hp.le.refl _),S.drop _ (.cons_cons _ (.cons _ .slnil))⟩ kr (List.cons_ne_nil _ _) (allS ?_ (all1 ?_))
    ·refine Nxt.mk (o:=_) (bm 11 63) rfl rfl<|W.call S rfl (zAR S.holds (hG.post S.post) b.fFields c ah) ?_
     rintro gh gi eg ai S aj
     have c:=Sl.mono c ai
     refine We ?_
     refine WC.next (rs:=[6,7]) ⟨eg,ai,S.drop _ (.cons_cons _ (.cons _ .slnil))⟩ kr (List.cons_ne_nil _ _) (allS ?_ (all1 ?_))
     ·refine Nxt.mk (o:=_) (bm 11 127) rfl rfl<|W.call S rfl (zNO S.holds (hG.post S.post) r5 b.fMinor u aj ac) ?_
      rintro gj gk eh ax S c1
      have c:=Sl.mono c ax
      have aj:=Sl.mono aj ax
      refine We ?_
      refine WC.next (rs:=[7]) ⟨eh,(ai.trans ax),S.drop _ (.cons_cons _ (.cons _ .slnil))⟩ kr (List.cons_ne_nil _ _) (all1 ?_)
      refine Nxt.mk (o:=_) (bm 11 255) rfl rfl<|W.bslice (α:=Str) [(str [82,97,110,103,101]),(str [73,102,45,82,97,110,103,101])] ([[82,97,110,103,101],[73,102,45,82,97,110,103,101]]:List Str) S el45 rfl rfl rfl (by decide) (Go.Eng.encS ⟨rfl,rfl⟩ (Go.Eng.encS ⟨rfl,rfl⟩ enc0)) ?_
      intro ei gl ej ay ek S
      have c:=Sl.mono c ay
      have aj:=Sl.mono aj ay
      have c1:=Sl.mono c1 ay
      refine We ?_
      refine WC.next (rs:=[8]) ⟨ej,((ai.trans ax).trans ay),S.drop _ (.cons _ (.cons_cons _ (.cons _ .slnil)))⟩ kr (List.cons_ne_nil _ _) (all1 ?_)
      refine Nxt.mk (o:=_) (bm 11 511) rfl rfl<|W.call S rfl (zNN S.holds (hG.post S.post) ab ([[82,97,110,103,101],[73,102,45,82,97,110,103,101]]:List Str) c1 ek ad) ?_
      rintro cc gm be cd S di
      have c:=Sl.mono c cd
      have aj:=Sl.mono aj cd
      refine We ?_
      refine WC.take (i:=9) (bm 11 1023) rfl kr kr kr rfl (fun _ _=>(R.fieldB rfl zDP)) ?_
      refine WC.next (rs:=[10]) ⟨be,(((ai.trans ax).trans ay).trans cd),S.drop _ (.cons _ (.cons_cons _ (.cons _ .slnil)))⟩ kr (List.cons_ne_nil _ _) (all1 ?_)
      refine Nxt.mk (o:=_) (bm 11 2047) rfl rfl ?_
      refine W.storeSl (α:=GField) (i:=2) [(str b.fMethod),(str b.fTarget),(int b.fMinor),cc,(str b.fBody)] S di rfl rfl rfl lay22 (Nat.le_of_ble_eq_true rfl) rfl ?_
      intro gn S
      refine We<|WC.done ⟨be,(((ai.trans ax).trans ay).trans cd),S.drop _ (.cons _ (.cons_cons _ (.cons _ .slnil)))⟩ kr ?_
      have S3:=S
      replace S3:=S3.front 2 rfl
      replace S3:=S3.front 2 rfl
      replace S3:St j d _ be [.box k 94 [(str []),(str []),(int 0),(.slice none 0 0),(str [])],.box p 94 [(str b.fMethod),(str b.fTarget),(int b.fMinor),cc,(str b.fBody)],.row ei 9 1 ([[82,97,110,103,101],[73,102,45,82,97,110,103,101]]:List Str).length]:=S3
      replace S3:St j d _ be [.box k 94 [(str []),(str []),(int 0),(.slice none 0 0),(str [])],.box p 94 [(str b.fMethod),(str b.fTarget),(int b.fMinor),cc,(str b.fBody)]]:=S3.drop _ (.cons_cons _ (.cons_cons _ (.cons _ .slnil)))
      exact ⟨be,cc,rfl,rfl,di,S3⟩
     refine Nxt.mk (o:=_) (bm 11 191) rfl rfl<|W.bslice (α:=Str) [(str [82,97,110,103,101]),(str [73,102,45,82,97,110,103,101])] ([[82,97,110,103,101],[73,102,45,82,97,110,103,101]]:List Str) S el45 rfl rfl rfl (by decide) (Go.Eng.encS ⟨rfl,rfl⟩ (Go.Eng.encS ⟨rfl,rfl⟩ enc0)) ?_
     intro el go em az c2 S
     have c:=Sl.mono c az
     have aj:=Sl.mono aj az
     refine We ?_
     refine WC.next (rs:=[6]) ⟨em,(ai.trans az),S.drop _ (.cons _ (.cons_cons _ (.cons _ .slnil)))⟩ kr (List.cons_ne_nil _ _) (all1 ?_)
     refine Nxt.mk (o:=_) (bm 11 255) rfl rfl<|W.call S rfl (zNO S.holds (hG.post S.post) r5 b.fMinor u aj ac) ?_
     rintro gp gq en bf S eo
     have c:=Sl.mono c bf
     have c2:=Sl.mono c2 bf
     refine We ?_
     refine WC.next (rs:=[8]) ⟨en,((ai.trans az).trans bf),S.drop _ (.cons _ (.cons_cons _ (.cons _ .slnil)))⟩ kr (List.cons_ne_nil _ _) (all1 ?_)
     refine Nxt.mk (o:=_) (bm 11 511) rfl rfl<|W.call S rfl (zNN S.holds (hG.post S.post) ab ([[82,97,110,103,101],[73,102,45,82,97,110,103,101]]:List Str) eo c2 ad) ?_
     rintro ce gr bg c3 S dj
     have c:=Sl.mono c c3
     refine We ?_
     refine WC.take (i:=9) (bm 11 1023) rfl kr kr kr rfl (fun _ _=>(R.fieldB rfl zDP)) ?_
     refine WC.next (rs:=[10]) ⟨bg,(((ai.trans az).trans bf).trans c3),S.drop _ (.cons _ (.cons_cons _ (.cons _ .slnil)))⟩ kr (List.cons_ne_nil _ _) (all1 ?_)
     refine Nxt.mk (o:=_) (bm 11 2047) rfl rfl ?_
     refine W.storeSl (α:=GField) (i:=2) [(str b.fMethod),(str b.fTarget),(int b.fMinor),ce,(str b.fBody)] S dj rfl rfl rfl lay22 (Nat.le_of_ble_eq_true rfl) rfl ?_
     intro gs S
     refine We<|WC.done ⟨bg,(((ai.trans az).trans bf).trans c3),S.drop _ (.cons _ (.cons_cons _ (.cons _ .slnil)))⟩ kr ?_
     have S3:=S
     replace S3:=S3.front 2 rfl
     replace S3:=S3.front 2 rfl
     replace S3:St j d _ bg [.box k 94 [(str []),(str []),(int 0),(.slice none 0 0),(str [])],.box p 94 [(str b.fMethod),(str b.fTarget),(int b.fMinor),ce,(str b.fBody)],.row el 9 1 ([[82,97,110,103,101],[73,102,45,82,97,110,103,101]]:List Str).length]:=S3
     replace S3:St j d _ bg [.box k 94 [(str []),(str []),(int 0),(.slice none 0 0),(str [])],.box p 94 [(str b.fMethod),(str b.fTarget),(int b.fMinor),ce,(str b.fBody)]]:=S3.drop _ (.cons_cons _ (.cons_cons _ (.cons _ .slnil)))
     exact ⟨bg,ce,rfl,rfl,dj,S3⟩
    refine Nxt.mk (o:=_) (bm 11 187) rfl rfl<|W.bslice (α:=Str) [(str [82,97,110,103,101]),(str [73,102,45,82,97,110,103,101])] ([[82,97,110,103,101],[73,102,45,82,97,110,103,101]]:List Str) S el45 rfl rfl rfl (by decide) (Go.Eng.encS ⟨rfl,rfl⟩ (Go.Eng.encS ⟨rfl,rfl⟩ enc0)) ?_
    intro ep gt eq a0 bh S
    have c:=Sl.mono c a0
    refine We ?_
    refine WC.next (rs:=[2]) ⟨eq,a0,S.drop _ (.cons _ (.cons_cons _ (.cons _ .slnil)))⟩ kr (List.cons_ne_nil _ _) (all1 ?_)
    refine Nxt.mk (o:=_) (bm 11 191) rfl rfl<|W.call S rfl (zAR S.holds (hG.post S.post) b.fFields c ah) ?_
    rintro gu gv er a1 S es
    have c:=Sl.mono c a1
    have bh:=Sl.mono bh a1
    refine We ?_
    refine WC.next (rs:=[6]) ⟨er,(a0.trans a1),S.drop _ (.cons _ (.cons_cons _ (.cons _ .slnil)))⟩ kr (List.cons_ne_nil _ _) (all1 ?_)
    refine Nxt.mk (o:=_) (bm 11 255) rfl rfl<|W.call S rfl (zNO S.holds (hG.post S.post) r5 b.fMinor u es ac) ?_
    rintro gw gx et bi S eu
    have c:=Sl.mono c bi
    have bh:=Sl.mono bh bi
    refine We ?_
    refine WC.next (rs:=[8]) ⟨et,((a0.trans a1).trans bi),S.drop _ (.cons _ (.cons_cons _ (.cons _ .slnil)))⟩ kr (List.cons_ne_nil _ _) (all1 ?_)
    refine Nxt.mk (o:=_) (bm 11 511) rfl rfl<|W.call S rfl (zNN S.holds (hG.post S.post) ab ([[82,97,110,103,101],[73,102,45,82,97,110,103,101]]:List Str) eu bh ad) ?_
    rintro cf gy bj c4 S dk
    have c:=Sl.mono c c4
    refine We ?_
    refine WC.take (i:=9) (bm 11 1023) rfl kr kr kr rfl (fun _ _=>(R.fieldB rfl zDP)) ?_
    refine WC.next (rs:=[10]) ⟨bj,(((a0.trans a1).trans bi).trans c4),S.drop _ (.cons _ (.cons_cons _ (.cons _ .slnil)))⟩ kr (List.cons_ne_nil _ _) (all1 ?_)
    refine Nxt.mk (o:=_) (bm 11 2047) rfl rfl ?_
    refine W.storeSl (α:=GField) (i:=2) [(str b.fMethod),(str b.fTarget),(int b.fMinor),cf,(str b.fBody)] S dk rfl rfl rfl lay22 (Nat.le_of_ble_eq_true rfl) rfl ?_
    intro gz S
    refine We<|WC.done ⟨bj,(((a0.trans a1).trans bi).trans c4),S.drop _ (.cons _ (.cons_cons _ (.cons _ .slnil)))⟩ kr ?_
    have S3:=S
    replace S3:=S3.front 2 rfl
    replace S3:=S3.front 2 rfl
    replace S3:St j d _ bj [.box k 94 [(str []),(str []),(int 0),(.slice none 0 0),(str [])],.box p 94 [(str b.fMethod),(str b.fTarget),(int b.fMinor),cf,(str b.fBody)],.row ep 9 1 ([[82,97,110,103,101],[73,102,45,82,97,110,103,101]]:List Str).length]:=S3
    replace S3:St j d _ bj [.box k 94 [(str []),(str []),(int 0),(.slice none 0 0),(str [])],.box p 94 [(str b.fMethod),(str b.fTarget),(int b.fMinor),cf,(str b.fBody)]]:=S3.drop _ (.cons_cons _ (.cons_cons _ (.cons _ .slnil)))
    exact ⟨bj,cf,rfl,rfl,dk,S3⟩
   refine Nxt.mk (o:=_) (bm 11 171) rfl rfl<|W.bslice (α:=Str) [(str [82,97,110,103,101]),(str [73,102,45,82,97,110,103,101])] ([[82,97,110,103,101],[73,102,45,82,97,110,103,101]]:List Str) S el45 rfl rfl rfl (by decide) (Go.Eng.encS ⟨rfl,rfl⟩ (Go.Eng.encS ⟨rfl,rfl⟩ enc0)) ?_
   intro dl g0 dm ae af S
   have c:=Sl.mono c ae
   refine We ?_
   refine WC.next (rs:=[2,4]) ⟨dm,ae,S.drop _ (.cons _ (.cons_cons _ (.cons _ .slnil)))⟩ kr (List.cons_ne_nil _ _) (allS ?_ (all1 ?_))
   ·refine Nxt.mk (o:=_) (bm 11 175) rfl rfl<|W.call S rfl (zAR S.holds (hG.post S.post) b.fFields c ah) ?_
    rintro g1 g2 dn ao S ew
    have c:=Sl.mono c ao
    have af:=Sl.mono af ao
    refine We ?_
    refine WC.next (rs:=[4]) ⟨dn,(ae.trans ao),S.drop _ (.cons _ (.cons_cons _ (.cons _ .slnil)))⟩ kr (List.cons_ne_nil _ _) (all1 ?_)
    refine Nxt.mk (o:=_) (bm 11 191) rfl rfl ?_
    refine Lo 2 S<|We ?_
    refine WC.next (rs:=[6]) ⟨dn,(ae.trans ao),S.drop _ (.cons _ (.cons_cons _ (.cons _ .slnil)))⟩ kr (List.cons_ne_nil _ _) (all1 ?_)
    refine Nxt.mk (o:=_) (bm 11 255) rfl rfl<|W.call S rfl (zNO S.holds (hG.post S.post) r5 b.fMinor u ew ac) ?_
    rintro g3 g4 ex bk S ey
    have c:=Sl.mono c bk
    have af:=Sl.mono af bk
    refine We ?_
    refine WC.next (rs:=[8]) ⟨ex,((ae.trans ao).trans bk),S.drop _ (.cons _ (.cons_cons _ (.cons _ .slnil)))⟩ kr (List.cons_ne_nil _ _) (all1 ?_)
    refine Nxt.mk (o:=_) (bm 11 511) rfl rfl<|W.call S rfl (zNN S.holds (hG.post S.post) ab ([[82,97,110,103,101],[73,102,45,82,97,110,103,101]]:List Str) ey af ad) ?_
    rintro cg g5 bn ch S dp
    have c:=Sl.mono c ch
    have af:=Sl.mono af ch
    refine We ?_
    refine WC.take (i:=9) (bm 11 1023) rfl kr kr kr rfl (fun _ _=>(R.fieldB rfl zDP)) ?_
    refine WC.next (rs:=[10]) ⟨bn,(((ae.trans ao).trans bk).trans ch),S.drop _ (.cons _ (.cons_cons _ (.cons _ .slnil)))⟩ kr (List.cons_ne_nil _ _) (all1 ?_)
    refine Nxt.mk (o:=_) (bm 11 2047) rfl rfl ?_
    refine W.storeSl (α:=GField) (i:=2) [(str b.fMethod),(str b.fTarget),(int b.fMinor),cg,(str b.fBody)] S dp rfl rfl rfl lay22 (Nat.le_of_ble_eq_true rfl) rfl ?_
    intro g6 S
    refine We<|WC.done ⟨bn,(((ae.trans ao).trans bk).trans ch),S.drop _ (.cons _ (.cons_cons _ (.cons _ .slnil)))⟩ kr ?_
    have S3:=S
    replace S3:=S3.front 2 rfl
    replace S3:=S3.front 2 rfl
    replace S3:St j d _ bn [.box k 94 [(str []),(str []),(int 0),(.slice none 0 0),(str [])],.box p 94 [(str b.fMethod),(str b.fTarget),(int b.fMinor),cg,(str b.fBody)],.row dl 9 1 ([[82,97,110,103,101],[73,102,45,82,97,110,103,101]]:List Str).length]:=S3
    replace S3:St j d _ bn [.box k 94 [(str []),(str []),(int 0),(.slice none 0 0),(str [])],.box p 94 [(str b.fMethod),(str b.fTarget),(int b.fMinor),cg,(str b.fBody)]]:=S3.drop _ (.cons_cons _ (.cons_cons _ (.cons _ .slnil)))
    exact ⟨bn,cg,rfl,rfl,dp,S3⟩
   refine Nxt.mk (o:=_) (bm 11 187) rfl rfl ?_
   refine Lo 2 S<|We ?_
   refine WC.next (rs:=[2]) ⟨dm,ae,S.drop _ (.cons _ (.cons_cons _ (.cons _ .slnil)))⟩ kr (List.cons_ne_nil _ _) (all1 ?_)
   refine Nxt.mk (o:=_) (bm 11 191) rfl rfl<|W.call S rfl (zAR S.holds (hG.post S.post) b.fFields c ah) ?_
   rintro g7 g8 ez a2 S e0
   have c:=Sl.mono c a2
   have af:=Sl.mono af a2
   refine We ?_
   refine WC.next (rs:=[6]) ⟨ez,(ae.trans a2),S.drop _ (.cons _ (.cons_cons _ (.cons _ .slnil)))⟩ kr (List.cons_ne_nil _ _) (all1 ?_)
   refine Nxt.mk (o:=_) (bm 11 255) rfl rfl<|W.call S rfl (zNO S.holds (hG.post S.post) r5 b.fMinor u e0 ac) ?_
   rintro g9 ha e1 bo S e2
   have c:=Sl.mono c bo
   have af:=Sl.mono af bo
   refine We ?_
   refine WC.next (rs:=[8]) ⟨e1,((ae.trans a2).trans bo),S.drop _ (.cons _ (.cons_cons _ (.cons _ .slnil)))⟩ kr (List.cons_ne_nil _ _) (all1 ?_)
   refine Nxt.mk (o:=_) (bm 11 511) rfl rfl<|W.call S rfl (zNN S.holds (hG.post S.post) ab ([[82,97,110,103,101],[73,102,45,82,97,110,103,101]]:List Str) e2 af ad) ?_
   rintro ci hb bp c5 S dq
   have c:=Sl.mono c c5
   refine We ?_
   refine WC.take (i:=9) (bm 11 1023) rfl kr kr kr rfl (fun _ _=>(R.fieldB rfl zDP)) ?_
   refine WC.next (rs:=[10]) ⟨bp,(((ae.trans a2).trans bo).trans c5),S.drop _ (.cons _ (.cons_cons _ (.cons _ .slnil)))⟩ kr (List.cons_ne_nil _ _) (all1 ?_)
   refine Nxt.mk (o:=_) (bm 11 2047) rfl rfl ?_
   refine W.storeSl (α:=GField) (i:=2) [(str b.fMethod),(str b.fTarget),(int b.fMinor),ci,(str b.fBody)] S dq rfl rfl rfl lay22 (Nat.le_of_ble_eq_true rfl) rfl ?_
   intro hc S
   refine We<|WC.done ⟨bp,(((ae.trans a2).trans bo).trans c5),S.drop _ (.cons _ (.cons_cons _ (.cons _ .slnil)))⟩ kr ?_
   have S3:=S
   replace S3:=S3.front 2 rfl
   replace S3:=S3.front 2 rfl
   replace S3:St j d _ bp [.box k 94 [(str []),(str []),(int 0),(.slice none 0 0),(str [])],.box p 94 [(str b.fMethod),(str b.fTarget),(int b.fMinor),ci,(str b.fBody)],.row dl 9 1 ([[82,97,110,103,101],[73,102,45,82,97,110,103,101]]:List Str).length]:=S3
   replace S3:St j d _ bp [.box k 94 [(str []),(str []),(int 0),(.slice none 0 0),(str [])],.box p 94 [(str b.fMethod),(str b.fTarget),(int b.fMinor),ci,(str b.fBody)]]:=S3.drop _ (.cons_cons _ (.cons_cons _ (.cons _ .slnil)))
   exact ⟨bp,ci,rfl,rfl,dq,S3⟩
  ·refine Nxt.mk (o:=_) (bm 11 57) rfl rfl ?_
   refine Lo 1 S<|We ?_
   refine WC.next (rs:=[1,7]) ⟨d,(Hp.le.refl _),S.drop _ (.cons_cons _ (.cons _ .slnil))⟩ kr (List.cons_ne_nil _ _) (allS ?_ (all1 ?_))
   ·refine Nxt.mk (o:=_) (bm 11 59) rfl rfl ?_
    refine Lo 1 S<|We ?_
    refine WC.next (rs:=[2,7]) ⟨d,(Hp.le.refl _),S.drop _ (.cons_cons _ (.cons _ .slnil))⟩ kr (List.cons_ne_nil _ _) (allS ?_ (all1 ?_))
    ·refine Nxt.mk (o:=_) (bm 11 63) rfl rfl<|W.call S rfl (zAR S.holds (hG.post S.post) b.fFields c ah) ?_
     rintro hd he e3 ak S al
     have c:=Sl.mono c ak
     refine We ?_
     refine WC.next (rs:=[6,7]) ⟨e3,ak,S.drop _ (.cons_cons _ (.cons _ .slnil))⟩ kr (List.cons_ne_nil _ _) (allS ?_ (all1 ?_))
     ·refine Nxt.mk (o:=_) (bm 11 127) rfl rfl<|W.call S rfl (zNO S.holds (hG.post S.post) r5 b.fMinor u al ac) ?_
      rintro hf hg e4 a3 S c6
      have c:=Sl.mono c a3
      have al:=Sl.mono al a3
      refine We ?_
      refine WC.next (rs:=[7]) ⟨e4,(ak.trans a3),S.drop _ (.cons_cons _ (.cons _ .slnil))⟩ kr (List.cons_ne_nil _ _) (all1 ?_)
      refine Nxt.mk (o:=_) (bm 11 255) rfl rfl<|W.bslice (α:=Str) [(str [82,97,110,103,101]),(str [73,102,45,82,97,110,103,101])] ([[82,97,110,103,101],[73,102,45,82,97,110,103,101]]:List Str) S el45 rfl rfl rfl (by decide) (Go.Eng.encS ⟨rfl,rfl⟩ (Go.Eng.encS ⟨rfl,rfl⟩ enc0)) ?_
      intro e5 hh e6 a4 e7 S
      have c:=Sl.mono c a4
      have al:=Sl.mono al a4
      have c6:=Sl.mono c6 a4
      refine We ?_
      refine WC.next (rs:=[8]) ⟨e6,((ak.trans a3).trans a4),S.drop _ (.cons _ (.cons_cons _ (.cons _ .slnil)))⟩ kr (List.cons_ne_nil _ _) (all1 ?_)
      refine Nxt.mk (o:=_) (bm 11 511) rfl rfl<|W.call S rfl (zNN S.holds (hG.post S.post) ab ([[82,97,110,103,101],[73,102,45,82,97,110,103,101]]:List Str) c6 e7 ad) ?_
      rintro cj hi bq ck S dr
      have c:=Sl.mono c ck
      have al:=Sl.mono al ck
      refine We ?_
      refine WC.take (i:=9) (bm 11 1023) rfl kr kr kr rfl (fun _ _=>(R.fieldB rfl zDP)) ?_
      refine WC.next (rs:=[10]) ⟨bq,(((ak.trans a3).trans a4).trans ck),S.drop _ (.cons _ (.cons_cons _ (.cons _ .slnil)))⟩ kr (List.cons_ne_nil _ _) (all1 ?_)
      refine Nxt.mk (o:=_) (bm 11 2047) rfl rfl ?_
      refine W.storeSl (α:=GField) (i:=2) [(str b.fMethod),(str b.fTarget),(int b.fMinor),cj,(str b.fBody)] S dr rfl rfl rfl lay22 (Nat.le_of_ble_eq_true rfl) rfl ?_
      intro hj S
      refine We<|WC.done ⟨bq,(((ak.trans a3).trans a4).trans ck),S.drop _ (.cons _ (.cons_cons _ (.cons _ .slnil)))⟩ kr ?_
      have S3:=S
      replace S3:=S3.front 2 rfl
      replace S3:=S3.front 2 rfl
      replace S3:St j d _ bq [.box k 94 [(str []),(str []),(int 0),(.slice none 0 0),(str [])],.box p 94 [(str b.fMethod),(str b.fTarget),(int b.fMinor),cj,(str b.fBody)],.row e5 9 1 ([[82,97,110,103,101],[73,102,45,82,97,110,103,101]]:List Str).length]:=S3
      replace S3:St j d _ bq [.box k 94 [(str []),(str []),(int 0),(.slice none 0 0),(str [])],.box p 94 [(str b.fMethod),(str b.fTarget),(int b.fMinor),cj,(str b.fBody)]]:=S3.drop _ (.cons_cons _ (.cons_cons _ (.cons _ .slnil)))
      exact ⟨bq,cj,rfl,rfl,dr,S3⟩
     refine Nxt.mk (o:=_) (bm 11 191) rfl rfl<|W.bslice (α:=Str) [(str [82,97,110,103,101]),(str [73,102,45,82,97,110,103,101])] ([[82,97,110,103,101],[73,102,45,82,97,110,103,101]]:List Str) S el45 rfl rfl rfl (by decide) (Go.Eng.encS ⟨rfl,rfl⟩ (Go.Eng.encS ⟨rfl,rfl⟩ enc0)) ?_
     intro e8 hk e9 a5 c7 S
     have c:=Sl.mono c a5
     have al:=Sl.mono al a5
     refine We ?_
     refine WC.next (rs:=[6]) ⟨e9,(ak.trans a5),S.drop _ (.cons _ (.cons_cons _ (.cons _ .slnil)))⟩ kr (List.cons_ne_nil _ _) (all1 ?_)
     refine Nxt.mk (o:=_) (bm 11 255) rfl rfl<|W.call S rfl (zNO S.holds (hG.post S.post) r5 b.fMinor u al ac) ?_
     rintro hl hm fa br S fb
     have c:=Sl.mono c br
     have c7:=Sl.mono c7 br
     refine We ?_
     refine WC.next (rs:=[8]) ⟨fa,((ak.trans a5).trans br),S.drop _ (.cons _ (.cons_cons _ (.cons _ .slnil)))⟩ kr (List.cons_ne_nil _ _) (all1 ?_)
     refine Nxt.mk (o:=_) (bm 11 511) rfl rfl<|W.call S rfl (zNN S.holds (hG.post S.post) ab ([[82,97,110,103,101],[73,102,45,82,97,110,103,101]]:List Str) fb c7 ad) ?_
     rintro cl hn bs c8 S ds
     have c:=Sl.mono c c8
     refine We ?_
     refine WC.take (i:=9) (bm 11 1023) rfl kr kr kr rfl (fun _ _=>(R.fieldB rfl zDP)) ?_
     refine WC.next (rs:=[10]) ⟨bs,(((ak.trans a5).trans br).trans c8),S.drop _ (.cons _ (.cons_cons _ (.cons _ .slnil)))⟩ kr (List.cons_ne_nil _ _) (all1 ?_)
     refine Nxt.mk (o:=_) (bm 11 2047) rfl rfl ?_
     refine W.storeSl (α:=GField) (i:=2) [(str b.fMethod),(str b.fTarget),(int b.fMinor),cl,(str b.fBody)] S ds rfl rfl rfl lay22 (Nat.le_of_ble_eq_true rfl) rfl ?_
     intro ho S
     refine We<|WC.done ⟨bs,(((ak.trans a5).trans br).trans c8),S.drop _ (.cons _ (.cons_cons _ (.cons _ .slnil)))⟩ kr ?_
     have S3:=S
     replace S3:=S3.front 2 rfl
     replace S3:=S3.front 2 rfl
     replace S3:St j d _ bs [.box k 94 [(str []),(str []),(int 0),(.slice none 0 0),(str [])],.box p 94 [(str b.fMethod),(str b.fTarget),(int b.fMinor),cl,(str b.fBody)],.row e8 9 1 ([[82,97,110,103,101],[73,102,45,82,97,110,103,101]]:List Str).length]:=S3
     replace S3:St j d _ bs [.box k 94 [(str []),(str []),(int 0),(.slice none 0 0),(str [])],.box p 94 [(str b.fMethod),(str b.fTarget),(int b.fMinor),cl,(str b.fBody)]]:=S3.drop _ (.cons_cons _ (.cons_cons _ (.cons _ .slnil)))
     exact ⟨bs,cl,rfl,rfl,ds,S3⟩
    refine Nxt.mk (o:=_) (bm 11 187) rfl rfl<|W.bslice (α:=Str) [(str [82,97,110,103,101]),(str [73,102,45,82,97,110,103,101])] ([[82,97,110,103,101],[73,102,45,82,97,110,103,101]]:List Str) S el45 rfl rfl rfl (by decide) (Go.Eng.encS ⟨rfl,rfl⟩ (Go.Eng.encS ⟨rfl,rfl⟩ enc0)) ?_
    intro fc hp fd a6 bt S
    have c:=Sl.mono c a6
    refine We ?_
    refine WC.next (rs:=[2]) ⟨fd,a6,S.drop _ (.cons _ (.cons_cons _ (.cons _ .slnil)))⟩ kr (List.cons_ne_nil _ _) (all1 ?_)
    refine Nxt.mk (o:=_) (bm 11 191) rfl rfl<|W.call S rfl (zAR S.holds (hG.post S.post) b.fFields c ah) ?_
    rintro hq hr fe a7 S ff
    have c:=Sl.mono c a7
    have bt:=Sl.mono bt a7
    refine We ?_
    refine WC.next (rs:=[6]) ⟨fe,(a6.trans a7),S.drop _ (.cons _ (.cons_cons _ (.cons _ .slnil)))⟩ kr (List.cons_ne_nil _ _) (all1 ?_)
    refine Nxt.mk (o:=_) (bm 11 255) rfl rfl<|W.call S rfl (zNO S.holds (hG.post S.post) r5 b.fMinor u ff ac) ?_
    rintro hs ht fg bu S fh
    have c:=Sl.mono c bu
    have bt:=Sl.mono bt bu
    refine We ?_
    refine WC.next (rs:=[8]) ⟨fg,((a6.trans a7).trans bu),S.drop _ (.cons _ (.cons_cons _ (.cons _ .slnil)))⟩ kr (List.cons_ne_nil _ _) (all1 ?_)
    refine Nxt.mk (o:=_) (bm 11 511) rfl rfl<|W.call S rfl (zNN S.holds (hG.post S.post) ab ([[82,97,110,103,101],[73,102,45,82,97,110,103,101]]:List Str) fh bt ad) ?_
    rintro cm hu bv c9 S dt
    have c:=Sl.mono c c9
    refine We ?_
    refine WC.take (i:=9) (bm 11 1023) rfl kr kr kr rfl (fun _ _=>(R.fieldB rfl zDP)) ?_
    refine WC.next (rs:=[10]) ⟨bv,(((a6.trans a7).trans bu).trans c9),S.drop _ (.cons _ (.cons_cons _ (.cons _ .slnil)))⟩ kr (List.cons_ne_nil _ _) (all1 ?_)
    refine Nxt.mk (o:=_) (bm 11 2047) rfl rfl ?_
    refine W.storeSl (α:=GField) (i:=2) [(str b.fMethod),(str b.fTarget),(int b.fMinor),cm,(str b.fBody)] S dt rfl rfl rfl lay22 (Nat.le_of_ble_eq_true rfl) rfl ?_
    intro hv S
    refine We<|WC.done ⟨bv,(((a6.trans a7).trans bu).trans c9),S.drop _ (.cons _ (.cons_cons _ (.cons _ .slnil)))⟩ kr ?_
    have S3:=S
    replace S3:=S3.front 2 rfl
    replace S3:=S3.front 2 rfl
    replace S3:St j d _ bv [.box k 94 [(str []),(str []),(int 0),(.slice none 0 0),(str [])],.box p 94 [(str b.fMethod),(str b.fTarget),(int b.fMinor),cm,(str b.fBody)],.row fc 9 1 ([[82,97,110,103,101],[73,102,45,82,97,110,103,101]]:List Str).length]:=S3
    replace S3:St j d _ bv [.box k 94 [(str []),(str []),(int 0),(.slice none 0 0),(str [])],.box p 94 [(str b.fMethod),(str b.fTarget),(int b.fMinor),cm,(str b.fBody)]]:=S3.drop _ (.cons_cons _ (.cons_cons _ (.cons _ .slnil)))
    exact ⟨bv,cm,rfl,rfl,dt,S3⟩
   refine Nxt.mk (o:=_) (bm 11 185) rfl rfl<|W.bslice (α:=Str) [(str [82,97,110,103,101]),(str [73,102,45,82,97,110,103,101])] ([[82,97,110,103,101],[73,102,45,82,97,110,103,101]]:List Str) S el45 rfl rfl rfl (by decide) (Go.Eng.encS ⟨rfl,rfl⟩ (Go.Eng.encS ⟨rfl,rfl⟩ enc0)) ?_
   intro fi hx du ap bw S
   have c:=Sl.mono c ap
   refine We ?_
   refine WC.next (rs:=[1]) ⟨du,ap,S.drop _ (.cons _ (.cons_cons _ (.cons _ .slnil)))⟩ kr (List.cons_ne_nil _ _) (all1 ?_)
   refine Nxt.mk (o:=_) (bm 11 187) rfl rfl ?_
   refine Lo 2 S<|We ?_
   refine WC.next (rs:=[2]) ⟨du,ap,S.drop _ (.cons _ (.cons_cons _ (.cons _ .slnil)))⟩ kr (List.cons_ne_nil _ _) (all1 ?_)
   refine Nxt.mk (o:=_) (bm 11 191) rfl rfl<|W.call S rfl (zAR S.holds (hG.post S.post) b.fFields c ah) ?_
   rintro hy hz fj a8 S fk
   have c:=Sl.mono c a8
   have bw:=Sl.mono bw a8
   refine We ?_
   refine WC.next (rs:=[6]) ⟨fj,(ap.trans a8),S.drop _ (.cons _ (.cons_cons _ (.cons _ .slnil)))⟩ kr (List.cons_ne_nil _ _) (all1 ?_)
   refine Nxt.mk (o:=_) (bm 11 255) rfl rfl<|W.call S rfl (zNO S.holds (hG.post S.post) r5 b.fMinor u fk ac) ?_
   rintro h0 h1 fl bx S fm
   have c:=Sl.mono c bx
   have bw:=Sl.mono bw bx
   refine We ?_
   refine WC.next (rs:=[8]) ⟨fl,((ap.trans a8).trans bx),S.drop _ (.cons _ (.cons_cons _ (.cons _ .slnil)))⟩ kr (List.cons_ne_nil _ _) (all1 ?_)
   refine Nxt.mk (o:=_) (bm 11 511) rfl rfl<|W.call S rfl (zNN S.holds (hG.post S.post) ab ([[82,97,110,103,101],[73,102,45,82,97,110,103,101]]:List Str) fm bw ad) ?_
   rintro cn h2 bz da S dv
   have c:=Sl.mono c da
   refine We ?_
   refine WC.take (i:=9) (bm 11 1023) rfl kr kr kr rfl (fun _ _=>(R.fieldB rfl zDP)) ?_
   refine WC.next (rs:=[10]) ⟨bz,(((ap.trans a8).trans bx).trans da),S.drop _ (.cons _ (.cons_cons _ (.cons _ .slnil)))⟩ kr (List.cons_ne_nil _ _) (all1 ?_)
   refine Nxt.mk (o:=_) (bm 11 2047) rfl rfl ?_
   refine W.storeSl (α:=GField) (i:=2) [(str b.fMethod),(str b.fTarget),(int b.fMinor),cn,(str b.fBody)] S dv rfl rfl rfl lay22 (Nat.le_of_ble_eq_true rfl) rfl ?_
   intro h3 S
   refine We<|WC.done ⟨bz,(((ap.trans a8).trans bx).trans da),S.drop _ (.cons _ (.cons_cons _ (.cons _ .slnil)))⟩ kr ?_
   have S3:=S
   replace S3:=S3.front 2 rfl
   replace S3:=S3.front 2 rfl
   replace S3:St j d _ bz [.box k 94 [(str []),(str []),(int 0),(.slice none 0 0),(str [])],.box p 94 [(str b.fMethod),(str b.fTarget),(int b.fMinor),cn,(str b.fBody)],.row fi 9 1 ([[82,97,110,103,101],[73,102,45,82,97,110,103,101]]:List Str).length]:=S3
   replace S3:St j d _ bz [.box k 94 [(str []),(str []),(int 0),(.slice none 0 0),(str [])],.box p 94 [(str b.fMethod),(str b.fTarget),(int b.fMinor),cn,(str b.fBody)]]:=S3.drop _ (.cons_cons _ (.cons_cons _ (.cons _ .slnil)))
   exact ⟨bz,cn,rfl,rfl,dv,S3⟩
  refine Nxt.mk (o:=_) (bm 11 169) rfl rfl<|W.bslice (α:=Str) [(str [82,97,110,103,101]),(str [73,102,45,82,97,110,103,101])] ([[82,97,110,103,101],[73,102,45,82,97,110,103,101]]:List Str) S el45 rfl rfl rfl (by decide) (Go.Eng.encS ⟨rfl,rfl⟩ (Go.Eng.encS ⟨rfl,rfl⟩ enc0)) ?_
  intro db h4 b0 q t S
  have c:=Sl.mono c q
  refine We ?_
  refine WC.next (rs:=[1,4]) ⟨b0,q,S.drop _ (.cons _ (.cons_cons _ (.cons _ .slnil)))⟩ kr (List.cons_ne_nil _ _) (allS ?_ (all1 ?_))
  ·refine Nxt.mk (o:=_) (bm 11 171) rfl rfl ?_
   refine Lo 2 S<|We ?_
   refine WC.next (rs:=[2,4]) ⟨b0,q,S.drop _ (.cons _ (.cons_cons _ (.cons _ .slnil)))⟩ kr (List.cons_ne_nil _ _) (allS ?_ (all1 ?_))
   ·refine Nxt.mk (o:=_) (bm 11 175) rfl rfl<|W.call S rfl (zAR S.holds (hG.post S.post) b.fFields c ah) ?_
    rintro h5 h6 dw aq S fn
    have c:=Sl.mono c aq
    have t:=Sl.mono t aq
    refine We ?_
    refine WC.next (rs:=[4]) ⟨dw,(q.trans aq),S.drop _ (.cons _ (.cons_cons _ (.cons _ .slnil)))⟩ kr (List.cons_ne_nil _ _) (all1 ?_)
    refine Nxt.mk (o:=_) (bm 11 191) rfl rfl ?_
    refine Lo 2 S<|We ?_
    refine WC.next (rs:=[6]) ⟨dw,(q.trans aq),S.drop _ (.cons _ (.cons_cons _ (.cons _ .slnil)))⟩ kr (List.cons_ne_nil _ _) (all1 ?_)
    refine Nxt.mk (o:=_) (bm 11 255) rfl rfl<|W.call S rfl (zNO S.holds (hG.post S.post) r5 b.fMinor u fn ac) ?_
    rintro h7 h8 fo b1 S fp
    have c:=Sl.mono c b1
    have t:=Sl.mono t b1
    refine We ?_
    refine WC.next (rs:=[8]) ⟨fo,((q.trans aq).trans b1),S.drop _ (.cons _ (.cons_cons _ (.cons _ .slnil)))⟩ kr (List.cons_ne_nil _ _) (all1 ?_)
    refine Nxt.mk (o:=_) (bm 11 511) rfl rfl<|W.call S rfl (zNN S.holds (hG.post S.post) ab ([[82,97,110,103,101],[73,102,45,82,97,110,103,101]]:List Str) fp t ad) ?_
    rintro co h9 b2 cp S dx
    have c:=Sl.mono c cp
    have t:=Sl.mono t cp
    refine We ?_
    refine WC.take (i:=9) (bm 11 1023) rfl kr kr kr rfl (fun _ _=>(R.fieldB rfl zDP)) ?_
    refine WC.next (rs:=[10]) ⟨b2,(((q.trans aq).trans b1).trans cp),S.drop _ (.cons _ (.cons_cons _ (.cons _ .slnil)))⟩ kr (List.cons_ne_nil _ _) (all1 ?_)
    refine Nxt.mk (o:=_) (bm 11 2047) rfl rfl ?_
    refine W.storeSl (α:=GField) (i:=2) [(str b.fMethod),(str b.fTarget),(int b.fMinor),co,(str b.fBody)] S dx rfl rfl rfl lay22 (Nat.le_of_ble_eq_true rfl) rfl ?_
    intro ia S
    refine We<|WC.done ⟨b2,(((q.trans aq).trans b1).trans cp),S.drop _ (.cons _ (.cons_cons _ (.cons _ .slnil)))⟩ kr ?_
    have S3:=S
    replace S3:=S3.front 2 rfl
    replace S3:=S3.front 2 rfl
    replace S3:St j d _ b2 [.box k 94 [(str []),(str []),(int 0),(.slice none 0 0),(str [])],.box p 94 [(str b.fMethod),(str b.fTarget),(int b.fMinor),co,(str b.fBody)],.row db 9 1 ([[82,97,110,103,101],[73,102,45,82,97,110,103,101]]:List Str).length]:=S3
    replace S3:St j d _ b2 [.box k 94 [(str []),(str []),(int 0),(.slice none 0 0),(str [])],.box p 94 [(str b.fMethod),(str b.fTarget),(int b.fMinor),co,(str b.fBody)]]:=S3.drop _ (.cons_cons _ (.cons_cons _ (.cons _ .slnil)))
    exact ⟨b2,co,rfl,rfl,dx,S3⟩
   refine Nxt.mk (o:=_) (bm 11 187) rfl rfl ?_
   refine Lo 2 S<|We ?_
   refine WC.next (rs:=[2]) ⟨b0,q,S.drop _ (.cons _ (.cons_cons _ (.cons _ .slnil)))⟩ kr (List.cons_ne_nil _ _) (all1 ?_)
   refine Nxt.mk (o:=_) (bm 11 191) rfl rfl<|W.call S rfl (zAR S.holds (hG.post S.post) b.fFields c ah) ?_
   rintro ib ic fq a9 S fr
   have c:=Sl.mono c a9
   have t:=Sl.mono t a9
   refine We ?_
   refine WC.next (rs:=[6]) ⟨fq,(q.trans a9),S.drop _ (.cons _ (.cons_cons _ (.cons _ .slnil)))⟩ kr (List.cons_ne_nil _ _) (all1 ?_)
   refine Nxt.mk (o:=_) (bm 11 255) rfl rfl<|W.call S rfl (zNO S.holds (hG.post S.post) r5 b.fMinor u fr ac) ?_
   rintro id ie fs b3 S ft
   have c:=Sl.mono c b3
   have t:=Sl.mono t b3
   refine We ?_
   refine WC.next (rs:=[8]) ⟨fs,((q.trans a9).trans b3),S.drop _ (.cons _ (.cons_cons _ (.cons _ .slnil)))⟩ kr (List.cons_ne_nil _ _) (all1 ?_)
   refine Nxt.mk (o:=_) (bm 11 511) rfl rfl<|W.call S rfl (zNN S.holds (hG.post S.post) ab ([[82,97,110,103,101],[73,102,45,82,97,110,103,101]]:List Str) ft t ad) ?_
   rintro cq ig b4 cr S dy
   have c:=Sl.mono c cr
   have t:=Sl.mono t cr
   refine We ?_
   refine WC.take (i:=9) (bm 11 1023) rfl kr kr kr rfl (fun _ _=>(R.fieldB rfl zDP)) ?_
   refine WC.next (rs:=[10]) ⟨b4,(((q.trans a9).trans b3).trans cr),S.drop _ (.cons _ (.cons_cons _ (.cons _ .slnil)))⟩ kr (List.cons_ne_nil _ _) (all1 ?_)
   refine Nxt.mk (o:=_) (bm 11 2047) rfl rfl ?_
   refine W.storeSl (α:=GField) (i:=2) [(str b.fMethod),(str b.fTarget),(int b.fMinor),cq,(str b.fBody)] S dy rfl rfl rfl lay22 (Nat.le_of_ble_eq_true rfl) rfl ?_
   intro ih S
   refine We<|WC.done ⟨b4,(((q.trans a9).trans b3).trans cr),S.drop _ (.cons _ (.cons_cons _ (.cons _ .slnil)))⟩ kr ?_
   have S3:=S
   replace S3:=S3.front 2 rfl
   replace S3:=S3.front 2 rfl
   replace S3:St j d _ b4 [.box k 94 [(str []),(str []),(int 0),(.slice none 0 0),(str [])],.box p 94 [(str b.fMethod),(str b.fTarget),(int b.fMinor),cq,(str b.fBody)],.row db 9 1 ([[82,97,110,103,101],[73,102,45,82,97,110,103,101]]:List Str).length]:=S3
   replace S3:St j d _ b4 [.box k 94 [(str []),(str []),(int 0),(.slice none 0 0),(str [])],.box p 94 [(str b.fMethod),(str b.fTarget),(int b.fMinor),cq,(str b.fBody)]]:=S3.drop _ (.cons_cons _ (.cons_cons _ (.cons _ .slnil)))
   exact ⟨b4,cq,rfl,rfl,dy,S3⟩
  refine Nxt.mk (o:=_) (bm 11 185) rfl rfl ?_
  refine Lo 2 S<|We ?_
  refine WC.next (rs:=[1]) ⟨b0,q,S.drop _ (.cons _ (.cons_cons _ (.cons _ .slnil)))⟩ kr (List.cons_ne_nil _ _) (all1 ?_)
  refine Nxt.mk (o:=_) (bm 11 187) rfl rfl ?_
  refine Lo 2 S<|We ?_
  refine WC.next (rs:=[2]) ⟨b0,q,S.drop _ (.cons _ (.cons_cons _ (.cons _ .slnil)))⟩ kr (List.cons_ne_nil _ _) (all1 ?_)
  refine Nxt.mk (o:=_) (bm 11 191) rfl rfl<|W.call S rfl (zAR S.holds (hG.post S.post) b.fFields c ah) ?_
  rintro ii ij fu b5 S fv
  have t:=Sl.mono t b5
  refine We ?_
  refine WC.next (rs:=[6]) ⟨fu,(q.trans b5),S.drop _ (.cons _ (.cons_cons _ (.cons _ .slnil)))⟩ kr (List.cons_ne_nil _ _) (all1 ?_)
  refine Nxt.mk (o:=_) (bm 11 255) rfl rfl<|W.call S rfl (zNO S.holds (hG.post S.post) r5 b.fMinor u fv ac) ?_
  rintro ik il fw ct S fx
  have t:=Sl.mono t ct
  refine We ?_
  refine WC.next (rs:=[8]) ⟨fw,((q.trans b5).trans ct),S.drop _ (.cons _ (.cons_cons _ (.cons _ .slnil)))⟩ kr (List.cons_ne_nil _ _) (all1 ?_)
  refine Nxt.mk (o:=_) (bm 11 511) rfl rfl<|W.call S rfl (zNN S.holds (hG.post S.post) ab ([[82,97,110,103,101],[73,102,45,82,97,110,103,101]]:List Str) fx t ad) ?_
  rintro cu im b6 dz S d0
  refine We ?_
  refine WC.take (i:=9) (bm 11 1023) rfl kr kr kr rfl (fun _ _=>(R.fieldB rfl zDP)) ?_
  refine WC.next (rs:=[10]) ⟨b6,(((q.trans b5).trans ct).trans dz),S.drop _ (.cons _ (.cons_cons _ (.cons _ .slnil)))⟩ kr (List.cons_ne_nil _ _) (all1 ?_)
  refine Nxt.mk (o:=_) (bm 11 2047) rfl rfl ?_
  refine W.storeSl (α:=GField) (i:=2) [(str b.fMethod),(str b.fTarget),(int b.fMinor),cu,(str b.fBody)] S d0 rfl rfl rfl lay22 (Nat.le_of_ble_eq_true rfl) rfl ?_
  intro io S
  refine We<|WC.done ⟨b6,(((q.trans b5).trans ct).trans dz),S.drop _ (.cons _ (.cons_cons _ (.cons _ .slnil)))⟩ kr ?_
  have S3:=S
  replace S3:=S3.front 2 rfl
  replace S3:=S3.front 2 rfl
  replace S3:St j d _ b6 [.box k 94 [(str []),(str []),(int 0),(.slice none 0 0),(str [])],.box p 94 [(str b.fMethod),(str b.fTarget),(int b.fMinor),cu,(str b.fBody)],.row db 9 1 ([[82,97,110,103,101],[73,102,45,82,97,110,103,101]]:List Str).length]:=S3
  replace S3:St j d _ b6 [.box k 94 [(str []),(str []),(int 0),(.slice none 0 0),(str [])],.box p 94 [(str b.fMethod),(str b.fTarget),(int b.fMinor),cu,(str b.fBody)]]:=S3.drop _ (.cons_cons _ (.cons_cons _ (.cons _ .slnil)))
  exact ⟨b6,cu,rfl,rfl,d0,S3⟩
 rintro f w ⟨cw,am,d1,d2,d3,S⟩
 refine Ws<|Wg<|Fb' d1 ?_
 refine W.store (i:=1) [(str b.fMethod),(str b.fTarget),(int 1),am,(str b.fBody)] S rfl rfl rfl lay3 rfl rfl (Nat.le_of_ble_eq_true rfl) rfl ?_
 intro ip S
 refine We<|Ws<|Wg ?_
 refine WL.w (R.loadBN (i:=1) (vs:=[(str b.fMethod),(str b.fTarget),(int 1),am,(str b.fBody)]) S d1 rfl lay94 rfl rfl) ?_
 refine W.store (i:=0) [(str b.fMethod),(str b.fTarget),(int 1),am,(str b.fBody)] S d2 rfl rfl lay94 rfl (AllOne.all (l:=[(str b.fMethod),(str b.fTarget),(int 1),am,(str b.fBody)]) (.cons rfl (.cons rfl (.cons rfl (.cons (Sl.oneC d3) (.cons rfl .nil)))))) (Nat.le_of_ble_eq_true rfl) rfl ?_
 intro iq S
 refine We ?_
 obtain rfl:=oi h
 refine WP.ret (Out.one rfl S (Res.cellB (i:=0) (cs:=[(str b.fMethod),(str b.fTarget),(int 1),am,(str b.fBody)]) S d2 rfl lay94 rfl rfl) ?_)
 exact ⟨_,rfl,d3⟩
end Go.Proofs
