/- A part. -/
import Derived.Test.YtljjaiijlaeoeaaGreatDoorEng38
import Derived.Test.YtljjaiijlaeoeaaGreatDoorEng36
import Derived.Test.YtljjaiijlaeoeaaGreatDoorGenP9
namespace Go.Proofs
set_option maxHeartbeats 4000000
set_option maxRecDepth 10000
open Go.Eng Go.Eng.Pure
set_option linter.unusedVariables false
theorem zAL {j:World} {l:Hp} (hw:Holds j l) (hG:Tryz.Gl j) (q:(List GField)) {t:Value} (b:Sl l t q) {r:(List GField)} (h:zER q=some r) :
  Con Tryz.prog 123 [t] j l (fun H' v=>Sl H' v r):=by
 refine Con.mkR (N:=49) Tryz.func123 rfl rfl kr rfl ?_
 have S:=St.start hw
 refine WPR.seq<|WPR.of<|Wg<|A<|We<|WPR.seq<|WPR.of<|Wg<|W.makeMap S ?_
 intro c w2 S
 refine W.alloc [(.map none)] S zJq ?_
 intro o w4 S
 refine W.store (i:=0) [(mapv c)] S rfl rfl rfl zHd rfl rfl (Nat.le_of_ble_eq_true rfl) rfl ?_
 intro w5 S
 refine We<|WPR.seq<|WPR.of<|Ws<|Wg<|M<|B h fun r6 bb h=>W.call S rfl (zDF S.holds (hG.post S.post) q [67,111,110,110,101,99,116,105,111,110] b bb) ?_
 rintro v7 w8 H9 bd S be
 have b:=b.up bd
 refine Nq be<|M<|We<|B h fun bf bg h=>WP.cut (fun f w=>∃ (ao:Hp),f 0=t∧f 3=(ptr o 0)∧Sl ao t q∧St j l w ao [.box o 269 [(mapv c)],.mp c (encm boo ([]:List (Str×Bool)))]) ?_ ?_
 ·refine Wb ?_
  refine WP.loopM (zF2 r6) (fun s f w=>match s with | _=>∃ (ad:Hp),f 0=t∧f 3=(ptr o 0)∧f 14=(int (r6.length:Int))∧f 15=(int 0)∧Sl ad t q∧St j l w ad [.box o 269 [(mapv c)],.mp c (encm boo ([]:List (Str×Bool)))]) () bf (lfW bg) ?_ ?_
  ·exact ⟨H9,rfl,rfl,rfl,rfl,b,S⟩
  intro s f w hI cl aa bh
  obtain ⟨ad,bi,bj,bk,bn,b,S⟩:=hI
  refine Ws<|Wg<|La' bn bk<|We<|Ws ?_
  rcases condE aa with ⟨ap,aa⟩ | ⟨ap,aa⟩
  ·refine CT ap ?_
   cases aa
  refine CF ap<|Wx ?_
  obtain rfl:=oi aa
  obtain rfl:=bh
  exact ⟨ad,bi,bj,b,S⟩
 rintro f w ⟨ao,bo,aq,b,S⟩
 refine WPR.seq<|WPR.seq<|WPR.of<|Wg<|W.callS rfl (zC9 S [104,111,115,116,32,99,97,99,104,101,45,99,111,110,116,114,111,108,32,118,97,114,121,32,118,97,114,105,97,110,116,115,32,118,97,114,105,97,110,116,45,107,101,121,32,118,105,97] [32]) ?_
 rintro _ cm a3 _ bp S ⟨ae,af,ah,rfl,rfl⟩
 replace S:St j l _ a3 [.box ae 9 [(str [32])],.box af 9 [(str [104,111,115,116,32,99,97,99,104,101,45,99,111,110,116,114,111,108,32,118,97,114,121,32,118,97,114,105,97,110,116,115,32,118,97,114,105,97,110,116,45,107,101,121,32,118,105,97])],.box ah 3 [(int 0)],.box o 269 [(mapv c)],.mp c (encm boo ([]:List (Str×Bool)))]:=S
 have b:=b.up bp
 refine We<|WPR.block ?_
 replace S:=S.front 2 rfl
 replace S:=S.front 2 rfl
 replace S:=S.front 2 rfl
 replace S:=S.front 4 rfl
 replace S:=S.front 4 rfl
 replace S:St j l _ a3 [.box o 269 [(mapv c)],.mp c (encm boo ([]:List (Str×Bool))),.box ae 9 [(str [32])],.box af 9 [(str [104,111,115,116,32,99,97,99,104,101,45,99,111,110,116,114,111,108,32,118,97,114,121,32,118,97,114,105,97,110,116,115,32,118,97,114,105,97,110,116,45,107,101,121,32,118,105,97])],.box ah 3 [(int 0)]]:=S
 refine B h fun ar bq h=>WPR.range (caps:=[(ptr ae 0),(ptr af 0),(ptr ah 0)]) S rfl (zGQ Tryz.func291 rfl kr) ?_
 intro fn x cn S
 replace S:=S.front 3 rfl
 replace S:=S.front 3 rfl
 replace S:=S.front 2 rfl
 replace S:=S.front 6 rfl
 replace S:=S.front 6 rfl
 replace S:=S.front 6 rfl
 replace S:=S.front 5 rfl
 replace S:=S.front 5 rfl
 replace S:=S.front 5 rfl
 refine Calls.mono (zCK hG (fun m k=>mdel m k) (Nat.le_of_ble_eq_true rfl) rfl (by exact fun k m w H L S=>Round.del S ⟨rfl,aq,rfl,rfl,rfl⟩ (i1:=0) (i2:=1) rfl rfl zHd rfl Tryz.underlying269 Tryz.underlying9) S).2 ?_
 rintro _ co ⟨v,a4,L3,rfl,bs,S,s9,rfl,rfl⟩
 refine ⟨_,rfl,a4,_,S,?_⟩
 intro cp S
 rw [oi bq] at S
 replace S:St j l _ a4 [.box o 269 [(mapv c)],.mp c (encm boo ar),.box ae 9 [(str [32])],.box af 9 [(str s9)],.box ah 3 [(int 0)],.obj x (.deferred (some []))]:=S
 replace S:=(S.pk [0,1,5])
 have b:=b.up bs
 refine WPR.seq<|WPR.seq<|WPR.of<|Wg<|W.callS rfl (zC9 S [99,111,110,110,101,99,116,105,111,110,32,107,101,101,112,45,97,108,105,118,101,32,112,114,111,120,121,45,99,111,110,110,101,99,116,105,111,110,32,112,114,111,120,121,45,97,117,116,104,101,110,116,105,99,97,116,101,32,112,114,111,120,121,45,97,117,116,104,111,114,105,122,97,116,105,111,110,32,116,101,32,116,114,97,105,108,101,114,32,116,114,97,110,115,102,101,114,45,101,110,99,111,100,105,110,103,32,99,111,110,116,101,110,116,45,108,101,110,103,116,104,32,117,112,103,114,97,100,101] [32]) ?_
 rintro _ cq a5 _ bt S ⟨ai,aj,ak,rfl,rfl⟩
 replace S:St j l _ a5 [.box ai 9 [(str [32])],.box aj 9 [(str [99,111,110,110,101,99,116,105,111,110,32,107,101,101,112,45,97,108,105,118,101,32,112,114,111,120,121,45,99,111,110,110,101,99,116,105,111,110,32,112,114,111,120,121,45,97,117,116,104,101,110,116,105,99,97,116,101,32,112,114,111,120,121,45,97,117,116,104,111,114,105,122,97,116,105,111,110,32,116,101,32,116,114,97,105,108,101,114,32,116,114,97,110,115,102,101,114,45,101,110,99,111,100,105,110,103,32,99,111,110,116,101,110,116,45,108,101,110,103,116,104,32,117,112,103,114,97,100,101])],.box ak 3 [(int 0)],.box o 269 [(mapv c)],.mp c (encm boo ar),.obj x (.deferred (some []))]:=S
 have b:=b.up bt
 refine We<|WPR.block ?_
 replace S:=S.front 5 rfl
 replace S:=S.front 3 rfl
 replace S:=S.front 3 rfl
 replace S:=S.front 3 rfl
 replace S:=S.front 5 rfl
 replace S:=S.front 5 rfl
 replace S:St j l _ a5 [.box o 269 [(mapv c)],.mp c (encm boo ar),.box ai 9 [(str [32])],.box aj 9 [(str [99,111,110,110,101,99,116,105,111,110,32,107,101,101,112,45,97,108,105,118,101,32,112,114,111,120,121,45,99,111,110,110,101,99,116,105,111,110,32,112,114,111,120,121,45,97,117,116,104,101,110,116,105,99,97,116,101,32,112,114,111,120,121,45,97,117,116,104,111,114,105,122,97,116,105,111,110,32,116,101,32,116,114,97,105,108,101,114,32,116,114,97,110,115,102,101,114,45,101,110,99,111,100,105,110,103,32,99,111,110,116,101,110,116,45,108,101,110,103,116,104,32,117,112,103,114,97,100,101])],.box ak 3 [(int 0)],.obj x (.deferred (some []))]:=S
 refine B h fun al bu h=>WPR.range (caps:=[(ptr ai 0),(ptr aj 0),(ptr ak 0)]) S rfl (zGQ Tryz.func291 rfl kr) ?_
 intro fn am cr S
 replace S:=S.front 3 rfl
 replace S:=S.front 3 rfl
 replace S:=S.front 2 rfl
 replace S:=S.front 6 rfl
 replace S:=S.front 6 rfl
 replace S:=S.front 6 rfl
 replace S:=S.front 5 rfl
 replace S:=S.front 5 rfl
 replace S:=S.front 5 rfl
 refine Calls.mono (zCK hG (fun m k=>mset m k true) (Nat.le_of_ble_eq_true rfl) rfl (by exact fun k m w H L S=>Round.set S ⟨rfl,aq,rfl,rfl,rfl⟩ (i1:=0) (i2:=1) rfl rfl zHd Tryz.underlying269 Tryz.underlying9) S).2 ?_
 rintro _ cs ⟨v,av,L3,rfl,bv,S,s9,rfl,rfl⟩
 refine ⟨_,rfl,av,_,S,?_⟩
 intro ct S
 rw [oi bu] at S
 replace S:St j l _ av [.box o 269 [(mapv c)],.mp c (encm boo al),.box ai 9 [(str [32])],.box aj 9 [(str s9)],.box ak 3 [(int 0)],.obj am (.deferred (some [])),.obj x (.deferred (some []))]:=S
 replace S:=(S.pk [0,1,5,6])
 have b:=b.up bv
 refine WPR.of<|Ws<|Wg<|A<|We<|Ws<|Ws<|Wg<|M' bo<|Nq b<|M<|We ?_
 have S:=S.addNil 68 2
 refine B h fun aw bw h=>WP.cut (fun f w=>∃ (ax:Hp) (an:Value),f 8=an∧Sl ax an aw∧St j l w ax [.row an 68 2 aw.length,.obj am (.deferred (some [])),.obj x (.deferred (some []))]) ?_ ?_
 ·refine Wb ?_
  refine WP.loopM (zF3 q al) (fun s f w=>match s with | (ay,a6)=>∃ (ab:Hp) (ac:Value),f 3=(ptr o 0)∧f 8=ac∧f 31=t∧f 32=(int (q.length:Int))∧f 33=(int a6)∧Sl ab ac ay∧Sl ab t q∧St j l w ab [.row ac 68 2 ay.length,.box o 269 [(mapv c)],.mp c (encm boo al),.obj am (.deferred (some [])),.obj x (.deferred (some []))]) (([]:List GField),0) aw (lfW bw) ?_ ?_
  ·exact ⟨av,.slice none 0 0,aq,rfl,rfl,rfl,rfl,Sl.nil,b,S⟩
  intro s f w hI cu d bx
  obtain ⟨ay,a6⟩:=s
  obtain ⟨ab,ac,a7,a8,a9,ba,az,u,b,S⟩:=hI
  refine Ws<|Wg<|La' az ba<|We<|Ws ?_
  rcases condE d with ⟨a0,d⟩ | ⟨a0,d⟩
  ·refine CT a0<|Wk<|Ws<|Wb<|Ws<|Wg<|B d fun p bz d=>W.idx (α:=GField) b a9 az el22 bz ?_
   rintro cv _ b0 rfl
   refine WL.w (R.loadHN (vs:=[(str p.fName),(str p.fValue)]) S rfl b0 lay68 rfl rfl) ?_
   refine W.alloc [(str []),(str [])] S zer68 ?_
   intro cw cx S
   refine W.store (i:=0) [(str p.fName),(str p.fValue)] S rfl rfl rfl lay68 rfl rfl (Nat.le_of_ble_eq_true rfl) rfl ?_
   intro cy S
   refine We<|Ws<|WP.quiet S kr kr ?_
   refine WQ.val (fun w hw=>by obtain ⟨_,hq,S⟩:=hw; exact (R.loadB (i:=2) (v:=mapv c) S a7 rfl zHd rfl))<|QFb ?_
   refine QB 0 (str p.fName)<|B d fun b2 b4 d=>WQ.call (v:=str b2) rfl (fun w H' hq S=>zAk S.holds (hG.post S.post) p.fName b4)<|B d fun g87 b5 d=>?_
   refine WQ.val (v:=boo g87.1) (fun w hw=>by obtain ⟨_,hq,S⟩:=hw; exact (R.ofEq (R.lookup1 boo (i:=3) (m:=al) (z:=false) S rfl rfl rfl Tryz.underlying269 Tryz.underlying9 mz4 rfl) (by rw [oi b5])))<|QNo<|WQ.nil ?_
   intro cz c0 b6 S
   have ⟨u,b⟩:=U2 b6 u b
   rcases condE d with ⟨a1,d⟩ | ⟨a1,d⟩
   ·refine CT a1<|Wg<|M' a8 ?_
    refine WL.w (R.loadBN (i:=0) (vs:=[(str p.fName),(str p.fValue)]) S rfl rfl lay68 rfl rfl)<|W.bslice (α:=GField) [(agg [(str p.fName),(str p.fValue)])] ([p]:List GField) S el22 rfl rfl rfl (by decide) (Go.Eng.encS ⟨rfl,rfl⟩ enc0) ?_
    intro c1 c2 c3 b7 b8 S
    have ⟨u,b⟩:=U2 b7 u b
    refine B d fun c4 b9 d=>W.app (α:=GField) (i:=2) S el22 rfl rfl rfl u b8 b9 ?_
    intro ca c5 cb cc cd S
    have ⟨u,b⟩:=U2 cc u b
    refine A<|We<|Wg<|Lg' az rfl<|M<|We ?_
    obtain rfl:=oi d
    exact ⟨rfl,⟨cb,ca,a7,rfl,a9,ba,rfl,cd,b,(S.pk [2,3,4,5,6])⟩⟩
   refine CF a1 ?_
   cases d
  refine CF a0<|Wx ?_
  obtain rfl:=oi d
  obtain rfl:=bx
  exact ⟨ab,ac,a8,u,(S.pk [0,3,4])⟩
 rintro f w ⟨ax,an,ce,cf,S⟩
 refine Ws<|Wg<|M' ce<|A<|We ?_
 obtain rfl:=oi h
 replace S:=S.front 2 rfl
 replace S:=S.front 2 rfl
 refine WP.ret (OutR.one [am,x] rfl rfl S rfl ?_)
 exact cf
theorem zAF {j:World} {d:Hp} (hw:Holds j d) (hG:Tryz.Gl j) (ab:(List GField)) (k:(List Str)) {ac:Value} {o:Value} (aj:Sl d ac ab) (b:Sl d o k) {r:(List GField)} (h:zDJ ab k=some r) :
  Con Tryz.prog 107 [ac,o] j d (fun H' v=>Sl H' v r):=by
 refine CM 21 Tryz.func107 hw fun S=>?_
 refine Ws<|Wg<|A<|We<|Ws<|Wg<|M ?_
 have S:=S.addNil 68 2
 refine B h fun l1 al h=>W.app (α:=GField) (i:=0) S el22 rfl rfl rfl Sl.nil aj al ?_
 intro v2 w3 H4 ao R6 S
 have b:=b.up ao
 refine A<|We<|Ws<|Ws<|Wg<|M<|Nq b<|M<|We<|B h fun ad aq h=>WP.cut (fun f w=>∃ (t:Hp) (u:Value),f 5=u∧Sl t u ad∧St j d w t []) ?_ ?_
 ·refine Wb ?_
  refine WP.loopM (zCP k) (fun s f w=>match s with | (x,ae)=>∃ (l:Hp) (p:Value),f 5=p∧f 10=o∧f 11=(int (k.length:Int))∧f 12=(int ae)∧Sl l p x∧Sl l o k∧St j d w l []) (l1,0) ad (lfW aq) ?_ ?_
  ·exact ⟨H4,v2,rfl,rfl,rfl,rfl,R6,b,(S.pk [])⟩
  intro s f w hI a5 c ar
  obtain ⟨x,ae⟩:=s
  obtain ⟨l,p,af,ah,ai,z,q,b,S⟩:=hI
  refine Ws<|Wg<|La' z ai<|We<|Ws ?_
  rcases condE c with ⟨aa,c⟩ | ⟨aa,c⟩
  ·refine CT aa<|Wk<|Ws<|Wb<|Ws<|Wg<|B c fun au av c=>W.idx (α:=Str) b ah z el45 av ?_
   rintro a6 _ aw rfl
   refine Lq S aw<|A<|We<|Wg<|M' af<|M<|B c fun a7 ax c=>W.call S rfl (zFG S.holds (hG.post S.post) x au q ax) ?_
   rintro ay a8 az a0 S a1
   have ⟨q,b⟩:=U2 a0 q b
   refine A<|We<|Wg<|Lg' z rfl<|M<|We ?_
   obtain rfl:=oi c
   exact ⟨rfl,⟨az,ay,rfl,ah,ai,rfl,a1,b,S⟩⟩
  refine CF aa<|Wx ?_
  obtain rfl:=oi c
  obtain rfl:=ar
  exact ⟨l,p,af,q,S⟩
 rintro f w ⟨t,u,a2,a3,S⟩
 refine Ws<|Wg<|M' a2<|A<|We ?_
 exact WP.ret (Rl h S a3)
theorem zEU {w0:World} {H0:Hp} (hw:Holds w0 H0) (hG:Tryz.Gl w0) (b:GRequest) (k:Str) {bp:Value} (c:Sl H0 bp b.fFields) {r:GRequest} (h:zC5 b k=some r) :
  Con Tryz.prog 102 [(agg [(str b.fMethod),(str b.fTarget),(int b.fMinor),bp,(str b.fBody)]),(str k)] w0 H0 (fun H' v=>∃ u1:Value,v=(agg [(str r.fMethod),(str r.fTarget),(int r.fMinor),u1,(str r.fBody)])∧Sl H' u1 r.fFields):=by
 refine CM 17 Tryz.func102 hw fun S=>?_
 refine Ws<|Wg ?_
 refine W.box [(str b.fMethod),(str b.fTarget),(int b.fMinor),bp,(str b.fBody)] S rfl rfl ?_
 intro b1 w2 S
 refine W.alloc [(str []),(str []),(int 0),(.slice none 0 0),(str [])] S zer94 ?_
 intro b3 w4 S
 refine We<|Ws<|B h fun q ac h=>B h fun t u h=>B h fun d3 x h=>WP.cut (fun f w=>∃ (br:Hp) (ai:Value),f 2=(ptr b1 0)∧f 4=(ptr b3 0)∧Sl br ai d3∧St w0 H0 w br [.box b3 94 [(str []),(str []),(int 0),(.slice none 0 0),(str [])],.box b1 94 [(str b.fMethod),(str b.fTarget),(int b.fMinor),ai,(str b.fBody)]]) ?_ ?_
 ·refine WP.drawC (Cl w0 H0 H0 [.box b3 94 [(str []),(str []),(int 0),(.slice none 0 0),(str [])]]) kr 11 rfl (bm 11 0) rfl ?_
  have S:=S.drew
  refine Ct 0 11 1 rfl (fun _ _=>(R.fieldB rfl zBa)) ?_
  refine Ct 3 11 9 rfl (fun _ _=>(R.fieldB rfl zIK)) ?_
  refine Ct 5 11 41 rfl (fun _ _=>(R.mv (v:=str k) rfl)) ?_
  refine Cx [1,4,7] ⟨H0,lr,(S.pk [0])⟩ (allS ?_ (allS ?_ (all1 ?_)))
  ·refine Nx 11 43 rfl ?_
   refine Lo 1 S<|We ?_
   refine Cx [2,4,7] ⟨H0,lr,(S.pk [0])⟩ (allS ?_ (allS ?_ (all1 ?_)))
   ·refine Nx 11 47 rfl<|W.call S rfl (zAL S.holds (hG.post S.post) b.fFields c ac) ?_
    rintro fp fq cy p S o
    have c:=c.up p
    refine We ?_
    refine Cx [4,7] ⟨cy,p,(S.pk [0])⟩ (allS ?_ (all1 ?_))
    ·refine Nx 11 63 rfl ?_
     refine Lo 1 S<|We ?_
     refine Cx [6,7] ⟨cy,p,(S.pk [0])⟩ (allS ?_ (all1 ?_))
     ·refine Nx 11 127 rfl<|W.call S rfl (zAM S.holds (hG.post S.post) q b.fMinor k o u) ?_
      rintro fr fs d4 aq S bs
      have ⟨c,o⟩:=U2 aq c o
      refine We ?_
      refine Cx [7] ⟨d4,(p.trans aq),(S.pk [0])⟩ (all1 ?_)
      refine Nx 11 255 rfl<|W.bslice (α:=Str) [(str [82,97,110,103,101]),(str [73,102,45,82,97,110,103,101])] ([[82,97,110,103,101],[73,102,45,82,97,110,103,101]]:List Str) S el45 rfl rfl rfl (by decide) (Go.Eng.encS ⟨rfl,rfl⟩ (Go.Eng.encS ⟨rfl,rfl⟩ enc0)) ?_
      intro ft fu d5 a8 d6 S
      have ⟨c,o,bs⟩:=U3 a8 c o bs
      refine We ?_
      refine Cx [8] ⟨d5,((p.trans aq).trans a8),(S.pk [1])⟩ (all1 ?_)
      refine Nx 11 511 rfl<|W.call S rfl (zAF S.holds (hG.post S.post) t ([[82,97,110,103,101],[73,102,45,82,97,110,103,101]]:List Str) bs d6 x) ?_
      rintro cz fv bt bu S c0
      have ⟨c,o⟩:=U2 bu c o
      refine We ?_
      refine Ct 9 11 1023 rfl (fun _ _=>(R.fieldB rfl zBa)) ?_
      refine Cx [10] ⟨bt,(((p.trans aq).trans a8).trans bu),(S.pk [1])⟩ (all1 ?_)
      refine Nx 11 2047 rfl ?_
      refine W.storeSl (α:=GField) (i:=2) [(str b.fMethod),(str b.fTarget),(int b.fMinor),cz,(str b.fBody)] S c0 rfl rfl rfl lay22 (Nat.le_of_ble_eq_true rfl) rfl ?_
      intro fw S
      refine We<|WC.done ⟨bt,(((p.trans aq).trans a8).trans bu),(S.pk [1])⟩ kr ?_
      exact ⟨bt,cz,rfl,rfl,c0,(S.pk [1,2])⟩
     refine Nx 11 191 rfl<|W.bslice (α:=Str) [(str [82,97,110,103,101]),(str [73,102,45,82,97,110,103,101])] ([[82,97,110,103,101],[73,102,45,82,97,110,103,101]]:List Str) S el45 rfl rfl rfl (by decide) (Go.Eng.encS ⟨rfl,rfl⟩ (Go.Eng.encS ⟨rfl,rfl⟩ enc0)) ?_
     intro fx fy d7 ar bv S
     have ⟨c,o⟩:=U2 ar c o
     refine We ?_
     refine Cx [6] ⟨d7,(p.trans ar),(S.pk [1])⟩ (all1 ?_)
     refine Nx 11 255 rfl<|W.call S rfl (zAM S.holds (hG.post S.post) q b.fMinor k o u) ?_
     rintro fz f0 d8 a9 S d9
     have ⟨c,o,bv⟩:=U3 a9 c o bv
     refine We ?_
     refine Cx [8] ⟨d8,((p.trans ar).trans a9),(S.pk [1])⟩ (all1 ?_)
     refine Nx 11 511 rfl<|W.call S rfl (zAF S.holds (hG.post S.post) t ([[82,97,110,103,101],[73,102,45,82,97,110,103,101]]:List Str) d9 bv x) ?_
     rintro c1 f1 bw bx S c2
     have ⟨c,o⟩:=U2 bx c o
     refine We ?_
     refine Ct 9 11 1023 rfl (fun _ _=>(R.fieldB rfl zBa)) ?_
     refine Cx [10] ⟨bw,(((p.trans ar).trans a9).trans bx),(S.pk [1])⟩ (all1 ?_)
     refine Nx 11 2047 rfl ?_
     refine W.storeSl (α:=GField) (i:=2) [(str b.fMethod),(str b.fTarget),(int b.fMinor),c1,(str b.fBody)] S c2 rfl rfl rfl lay22 (Nat.le_of_ble_eq_true rfl) rfl ?_
     intro f2 S
     refine We<|WC.done ⟨bw,(((p.trans ar).trans a9).trans bx),(S.pk [1])⟩ kr ?_
     exact ⟨bw,c1,rfl,rfl,c2,(S.pk [1,2])⟩
    refine Nx 11 175 rfl<|W.bslice (α:=Str) [(str [82,97,110,103,101]),(str [73,102,45,82,97,110,103,101])] ([[82,97,110,103,101],[73,102,45,82,97,110,103,101]]:List Str) S el45 rfl rfl rfl (by decide) (Go.Eng.encS ⟨rfl,rfl⟩ (Go.Eng.encS ⟨rfl,rfl⟩ enc0)) ?_
    intro f3 f4 c3 ak bz S
    have ⟨c,o⟩:=U2 ak c o
    refine We ?_
    refine Cx [4] ⟨c3,(p.trans ak),(S.pk [1])⟩ (all1 ?_)
    refine Nx 11 191 rfl ?_
    refine Lo 2 S<|We ?_
    refine Cx [6] ⟨c3,(p.trans ak),(S.pk [1])⟩ (all1 ?_)
    refine Nx 11 255 rfl<|W.call S rfl (zAM S.holds (hG.post S.post) q b.fMinor k o u) ?_
    rintro f5 f6 ea ba S eb
    have ⟨c,bz⟩:=U2 ba c bz
    refine We ?_
    refine Cx [8] ⟨ea,((p.trans ak).trans ba),(S.pk [1])⟩ (all1 ?_)
    refine Nx 11 511 rfl<|W.call S rfl (zAF S.holds (hG.post S.post) t ([[82,97,110,103,101],[73,102,45,82,97,110,103,101]]:List Str) eb bz x) ?_
    rintro c4 f7 b0 b2 S c5
    have c:=c.up b2
    refine We ?_
    refine Ct 9 11 1023 rfl (fun _ _=>(R.fieldB rfl zBa)) ?_
    refine Cx [10] ⟨b0,(((p.trans ak).trans ba).trans b2),(S.pk [1])⟩ (all1 ?_)
    refine Nx 11 2047 rfl ?_
    refine W.storeSl (α:=GField) (i:=2) [(str b.fMethod),(str b.fTarget),(int b.fMinor),c4,(str b.fBody)] S c5 rfl rfl rfl lay22 (Nat.le_of_ble_eq_true rfl) rfl ?_
    intro f8 S
    refine We<|WC.done ⟨b0,(((p.trans ak).trans ba).trans b2),(S.pk [1])⟩ kr ?_
    exact ⟨b0,c4,rfl,rfl,c5,(S.pk [1,2])⟩
   ·refine Nx 11 59 rfl ?_
    refine Lo 1 S<|We ?_
    refine Cx [2,7] ⟨H0,lr,(S.pk [0])⟩ (allS ?_ (all1 ?_))
    ·refine Nx 11 63 rfl<|W.call S rfl (zAL S.holds (hG.post S.post) b.fFields c ac) ?_
     rintro f9 ga ec ad S ae
     have c:=c.up ad
     refine We ?_
     refine Cx [6,7] ⟨ec,ad,(S.pk [0])⟩ (allS ?_ (all1 ?_))
     ·refine Nx 11 127 rfl<|W.call S rfl (zAM S.holds (hG.post S.post) q b.fMinor k ae u) ?_
      rintro gb gc ed au S b4
      have ⟨c,ae⟩:=U2 au c ae
      refine We ?_
      refine Cx [7] ⟨ed,(ad.trans au),(S.pk [0])⟩ (all1 ?_)
      refine Nx 11 255 rfl<|W.bslice (α:=Str) [(str [82,97,110,103,101]),(str [73,102,45,82,97,110,103,101])] ([[82,97,110,103,101],[73,102,45,82,97,110,103,101]]:List Str) S el45 rfl rfl rfl (by decide) (Go.Eng.encS ⟨rfl,rfl⟩ (Go.Eng.encS ⟨rfl,rfl⟩ enc0)) ?_
      intro gd ge ee bb ef S
      have ⟨c,ae,b4⟩:=U3 bb c ae b4
      refine We ?_
      refine Cx [8] ⟨ee,((ad.trans au).trans bb),(S.pk [1])⟩ (all1 ?_)
      refine Nx 11 511 rfl<|W.call S rfl (zAF S.holds (hG.post S.post) t ([[82,97,110,103,101],[73,102,45,82,97,110,103,101]]:List Str) b4 ef x) ?_
      rintro c6 gf b5 b6 S c7
      have ⟨c,ae⟩:=U2 b6 c ae
      refine We ?_
      refine Ct 9 11 1023 rfl (fun _ _=>(R.fieldB rfl zBa)) ?_
      refine Cx [10] ⟨b5,(((ad.trans au).trans bb).trans b6),(S.pk [1])⟩ (all1 ?_)
      refine Nx 11 2047 rfl ?_
      refine W.storeSl (α:=GField) (i:=2) [(str b.fMethod),(str b.fTarget),(int b.fMinor),c6,(str b.fBody)] S c7 rfl rfl rfl lay22 (Nat.le_of_ble_eq_true rfl) rfl ?_
      intro gg S
      refine We<|WC.done ⟨b5,(((ad.trans au).trans bb).trans b6),(S.pk [1])⟩ kr ?_
      exact ⟨b5,c6,rfl,rfl,c7,(S.pk [1,2])⟩
     refine Nx 11 191 rfl<|W.bslice (α:=Str) [(str [82,97,110,103,101]),(str [73,102,45,82,97,110,103,101])] ([[82,97,110,103,101],[73,102,45,82,97,110,103,101]]:List Str) S el45 rfl rfl rfl (by decide) (Go.Eng.encS ⟨rfl,rfl⟩ (Go.Eng.encS ⟨rfl,rfl⟩ enc0)) ?_
     intro gh gi eg av b7 S
     have ⟨c,ae⟩:=U2 av c ae
     refine We ?_
     refine Cx [6] ⟨eg,(ad.trans av),(S.pk [1])⟩ (all1 ?_)
     refine Nx 11 255 rfl<|W.call S rfl (zAM S.holds (hG.post S.post) q b.fMinor k ae u) ?_
     rintro gj gk eh bc S ei
     have ⟨c,b7⟩:=U2 bc c b7
     refine We ?_
     refine Cx [8] ⟨eh,((ad.trans av).trans bc),(S.pk [1])⟩ (all1 ?_)
     refine Nx 11 511 rfl<|W.call S rfl (zAF S.holds (hG.post S.post) t ([[82,97,110,103,101],[73,102,45,82,97,110,103,101]]:List Str) ei b7 x) ?_
     rintro c8 gl b8 b9 S c9
     have c:=c.up b9
     refine We ?_
     refine Ct 9 11 1023 rfl (fun _ _=>(R.fieldB rfl zBa)) ?_
     refine Cx [10] ⟨b8,(((ad.trans av).trans bc).trans b9),(S.pk [1])⟩ (all1 ?_)
     refine Nx 11 2047 rfl ?_
     refine W.storeSl (α:=GField) (i:=2) [(str b.fMethod),(str b.fTarget),(int b.fMinor),c8,(str b.fBody)] S c9 rfl rfl rfl lay22 (Nat.le_of_ble_eq_true rfl) rfl ?_
     intro gm S
     refine We<|WC.done ⟨b8,(((ad.trans av).trans bc).trans b9),(S.pk [1])⟩ kr ?_
     exact ⟨b8,c8,rfl,rfl,c9,(S.pk [1,2])⟩
    refine Nx 11 187 rfl<|W.bslice (α:=Str) [(str [82,97,110,103,101]),(str [73,102,45,82,97,110,103,101])] ([[82,97,110,103,101],[73,102,45,82,97,110,103,101]]:List Str) S el45 rfl rfl rfl (by decide) (Go.Eng.encS ⟨rfl,rfl⟩ (Go.Eng.encS ⟨rfl,rfl⟩ enc0)) ?_
    intro gn go ej al aw S
    have c:=c.up al
    refine We ?_
    refine Cx [2] ⟨ej,al,(S.pk [1])⟩ (all1 ?_)
    refine Nx 11 191 rfl<|W.call S rfl (zAL S.holds (hG.post S.post) b.fFields c ac) ?_
    rintro gp gq ek ax S el
    have ⟨c,aw⟩:=U2 ax c aw
    refine We ?_
    refine Cx [6] ⟨ek,(al.trans ax),(S.pk [1])⟩ (all1 ?_)
    refine Nx 11 255 rfl<|W.call S rfl (zAM S.holds (hG.post S.post) q b.fMinor k el u) ?_
    rintro gr gs em bd S en
    have ⟨c,aw⟩:=U2 bd c aw
    refine We ?_
    refine Cx [8] ⟨em,((al.trans ax).trans bd),(S.pk [1])⟩ (all1 ?_)
    refine Nx 11 511 rfl<|W.call S rfl (zAF S.holds (hG.post S.post) t ([[82,97,110,103,101],[73,102,45,82,97,110,103,101]]:List Str) en aw x) ?_
    rintro da gt ca cb S db
    have c:=c.up cb
    refine We ?_
    refine Ct 9 11 1023 rfl (fun _ _=>(R.fieldB rfl zBa)) ?_
    refine Cx [10] ⟨ca,(((al.trans ax).trans bd).trans cb),(S.pk [1])⟩ (all1 ?_)
    refine Nx 11 2047 rfl ?_
    refine W.storeSl (α:=GField) (i:=2) [(str b.fMethod),(str b.fTarget),(int b.fMinor),da,(str b.fBody)] S db rfl rfl rfl lay22 (Nat.le_of_ble_eq_true rfl) rfl ?_
    intro gu S
    refine We<|WC.done ⟨ca,(((al.trans ax).trans bd).trans cb),(S.pk [1])⟩ kr ?_
    exact ⟨ca,da,rfl,rfl,db,(S.pk [1,2])⟩
   refine Nx 11 171 rfl<|W.bslice (α:=Str) [(str [82,97,110,103,101]),(str [73,102,45,82,97,110,103,101])] ([[82,97,110,103,101],[73,102,45,82,97,110,103,101]]:List Str) S el45 rfl rfl rfl (by decide) (Go.Eng.encS ⟨rfl,rfl⟩ (Go.Eng.encS ⟨rfl,rfl⟩ enc0)) ?_
   intro gv gw dc z aa S
   have c:=c.up z
   refine We ?_
   refine Cx [2,4] ⟨dc,z,(S.pk [1])⟩ (allS ?_ (all1 ?_))
   ·refine Nx 11 175 rfl<|W.call S rfl (zAL S.holds (hG.post S.post) b.fFields c ac) ?_
    rintro gx gy dd am S eo
    have ⟨c,aa⟩:=U2 am c aa
    refine We ?_
    refine Cx [4] ⟨dd,(z.trans am),(S.pk [1])⟩ (all1 ?_)
    refine Nx 11 191 rfl ?_
    refine Lo 2 S<|We ?_
    refine Cx [6] ⟨dd,(z.trans am),(S.pk [1])⟩ (all1 ?_)
    refine Nx 11 255 rfl<|W.call S rfl (zAM S.holds (hG.post S.post) q b.fMinor k eo u) ?_
    rintro gz g0 ep be S eq
    have ⟨c,aa⟩:=U2 be c aa
    refine We ?_
    refine Cx [8] ⟨ep,((z.trans am).trans be),(S.pk [1])⟩ (all1 ?_)
    refine Nx 11 511 rfl<|W.call S rfl (zAF S.holds (hG.post S.post) t ([[82,97,110,103,101],[73,102,45,82,97,110,103,101]]:List Str) eq aa x) ?_
    rintro de g1 cc cd S df
    have ⟨c,aa⟩:=U2 cd c aa
    refine We ?_
    refine Ct 9 11 1023 rfl (fun _ _=>(R.fieldB rfl zBa)) ?_
    refine Cx [10] ⟨cc,(((z.trans am).trans be).trans cd),(S.pk [1])⟩ (all1 ?_)
    refine Nx 11 2047 rfl ?_
    refine W.storeSl (α:=GField) (i:=2) [(str b.fMethod),(str b.fTarget),(int b.fMinor),de,(str b.fBody)] S df rfl rfl rfl lay22 (Nat.le_of_ble_eq_true rfl) rfl ?_
    intro g2 S
    refine We<|WC.done ⟨cc,(((z.trans am).trans be).trans cd),(S.pk [1])⟩ kr ?_
    exact ⟨cc,de,rfl,rfl,df,(S.pk [1,2])⟩
   refine Nx 11 187 rfl ?_
   refine Lo 2 S<|We ?_
   refine Cx [2] ⟨dc,z,(S.pk [1])⟩ (all1 ?_)
   refine Nx 11 191 rfl<|W.call S rfl (zAL S.holds (hG.post S.post) b.fFields c ac) ?_
   rintro g3 g4 er ay S es
   have ⟨c,aa⟩:=U2 ay c aa
   refine We ?_
   refine Cx [6] ⟨er,(z.trans ay),(S.pk [1])⟩ (all1 ?_)
   refine Nx 11 255 rfl<|W.call S rfl (zAM S.holds (hG.post S.post) q b.fMinor k es u) ?_
   rintro g5 g6 et bf S eu
   have ⟨c,aa⟩:=U2 bf c aa
   refine We ?_
   refine Cx [8] ⟨et,((z.trans ay).trans bf),(S.pk [1])⟩ (all1 ?_)
   refine Nx 11 511 rfl<|W.call S rfl (zAF S.holds (hG.post S.post) t ([[82,97,110,103,101],[73,102,45,82,97,110,103,101]]:List Str) eu aa x) ?_
   rintro dg g7 ce cf S dh
   have c:=c.up cf
   refine We ?_
   refine Ct 9 11 1023 rfl (fun _ _=>(R.fieldB rfl zBa)) ?_
   refine Cx [10] ⟨ce,(((z.trans ay).trans bf).trans cf),(S.pk [1])⟩ (all1 ?_)
   refine Nx 11 2047 rfl ?_
   refine W.storeSl (α:=GField) (i:=2) [(str b.fMethod),(str b.fTarget),(int b.fMinor),dg,(str b.fBody)] S dh rfl rfl rfl lay22 (Nat.le_of_ble_eq_true rfl) rfl ?_
   intro g8 S
   refine We<|WC.done ⟨ce,(((z.trans ay).trans bf).trans cf),(S.pk [1])⟩ kr ?_
   exact ⟨ce,dg,rfl,rfl,dh,(S.pk [1,2])⟩
  ·refine Nx 11 57 rfl ?_
   refine Lo 1 S<|We ?_
   refine Cx [1,7] ⟨H0,lr,(S.pk [0])⟩ (allS ?_ (all1 ?_))
   ·refine Nx 11 59 rfl ?_
    refine Lo 1 S<|We ?_
    refine Cx [2,7] ⟨H0,lr,(S.pk [0])⟩ (allS ?_ (all1 ?_))
    ·refine Nx 11 63 rfl<|W.call S rfl (zAL S.holds (hG.post S.post) b.fFields c ac) ?_
     rintro g9 ha ew af S ah
     have c:=c.up af
     refine We ?_
     refine Cx [6,7] ⟨ew,af,(S.pk [0])⟩ (allS ?_ (all1 ?_))
     ·refine Nx 11 127 rfl<|W.call S rfl (zAM S.holds (hG.post S.post) q b.fMinor k ah u) ?_
      rintro hb hc ex az S cg
      have ⟨c,ah⟩:=U2 az c ah
      refine We ?_
      refine Cx [7] ⟨ex,(af.trans az),(S.pk [0])⟩ (all1 ?_)
      refine Nx 11 255 rfl<|W.bslice (α:=Str) [(str [82,97,110,103,101]),(str [73,102,45,82,97,110,103,101])] ([[82,97,110,103,101],[73,102,45,82,97,110,103,101]]:List Str) S el45 rfl rfl rfl (by decide) (Go.Eng.encS ⟨rfl,rfl⟩ (Go.Eng.encS ⟨rfl,rfl⟩ enc0)) ?_
      intro hd he ey bg ez S
      have ⟨c,ah,cg⟩:=U3 bg c ah cg
      refine We ?_
      refine Cx [8] ⟨ey,((af.trans az).trans bg),(S.pk [1])⟩ (all1 ?_)
      refine Nx 11 511 rfl<|W.call S rfl (zAF S.holds (hG.post S.post) t ([[82,97,110,103,101],[73,102,45,82,97,110,103,101]]:List Str) cg ez x) ?_
      rintro di hf ch ci S dj
      have ⟨c,ah⟩:=U2 ci c ah
      refine We ?_
      refine Ct 9 11 1023 rfl (fun _ _=>(R.fieldB rfl zBa)) ?_
      refine Cx [10] ⟨ch,(((af.trans az).trans bg).trans ci),(S.pk [1])⟩ (all1 ?_)
      refine Nx 11 2047 rfl ?_
      refine W.storeSl (α:=GField) (i:=2) [(str b.fMethod),(str b.fTarget),(int b.fMinor),di,(str b.fBody)] S dj rfl rfl rfl lay22 (Nat.le_of_ble_eq_true rfl) rfl ?_
      intro hg S
      refine We<|WC.done ⟨ch,(((af.trans az).trans bg).trans ci),(S.pk [1])⟩ kr ?_
      exact ⟨ch,di,rfl,rfl,dj,(S.pk [1,2])⟩
     refine Nx 11 191 rfl<|W.bslice (α:=Str) [(str [82,97,110,103,101]),(str [73,102,45,82,97,110,103,101])] ([[82,97,110,103,101],[73,102,45,82,97,110,103,101]]:List Str) S el45 rfl rfl rfl (by decide) (Go.Eng.encS ⟨rfl,rfl⟩ (Go.Eng.encS ⟨rfl,rfl⟩ enc0)) ?_
     intro hh hi e0 a0 cj S
     have ⟨c,ah⟩:=U2 a0 c ah
     refine We ?_
     refine Cx [6] ⟨e0,(af.trans a0),(S.pk [1])⟩ (all1 ?_)
     refine Nx 11 255 rfl<|W.call S rfl (zAM S.holds (hG.post S.post) q b.fMinor k ah u) ?_
     rintro hj hk e1 bh S e2
     have ⟨c,cj⟩:=U2 bh c cj
     refine We ?_
     refine Cx [8] ⟨e1,((af.trans a0).trans bh),(S.pk [1])⟩ (all1 ?_)
     refine Nx 11 511 rfl<|W.call S rfl (zAF S.holds (hG.post S.post) t ([[82,97,110,103,101],[73,102,45,82,97,110,103,101]]:List Str) e2 cj x) ?_
     rintro dk hl ck cl S dl
     have c:=c.up cl
     refine We ?_
     refine Ct 9 11 1023 rfl (fun _ _=>(R.fieldB rfl zBa)) ?_
     refine Cx [10] ⟨ck,(((af.trans a0).trans bh).trans cl),(S.pk [1])⟩ (all1 ?_)
     refine Nx 11 2047 rfl ?_
     refine W.storeSl (α:=GField) (i:=2) [(str b.fMethod),(str b.fTarget),(int b.fMinor),dk,(str b.fBody)] S dl rfl rfl rfl lay22 (Nat.le_of_ble_eq_true rfl) rfl ?_
     intro hm S
     refine We<|WC.done ⟨ck,(((af.trans a0).trans bh).trans cl),(S.pk [1])⟩ kr ?_
     exact ⟨ck,dk,rfl,rfl,dl,(S.pk [1,2])⟩
    refine Nx 11 187 rfl<|W.bslice (α:=Str) [(str [82,97,110,103,101]),(str [73,102,45,82,97,110,103,101])] ([[82,97,110,103,101],[73,102,45,82,97,110,103,101]]:List Str) S el45 rfl rfl rfl (by decide) (Go.Eng.encS ⟨rfl,rfl⟩ (Go.Eng.encS ⟨rfl,rfl⟩ enc0)) ?_
    intro hn ho e3 an a1 S
    have c:=c.up an
    refine We ?_
    refine Cx [2] ⟨e3,an,(S.pk [1])⟩ (all1 ?_)
    refine Nx 11 191 rfl<|W.call S rfl (zAL S.holds (hG.post S.post) b.fFields c ac) ?_
    rintro hp hq e4 a2 S e5
    have ⟨c,a1⟩:=U2 a2 c a1
    refine We ?_
    refine Cx [6] ⟨e4,(an.trans a2),(S.pk [1])⟩ (all1 ?_)
    refine Nx 11 255 rfl<|W.call S rfl (zAM S.holds (hG.post S.post) q b.fMinor k e5 u) ?_
    rintro hr hs e6 bi S e7
    have ⟨c,a1⟩:=U2 bi c a1
    refine We ?_
    refine Cx [8] ⟨e6,((an.trans a2).trans bi),(S.pk [1])⟩ (all1 ?_)
    refine Nx 11 511 rfl<|W.call S rfl (zAF S.holds (hG.post S.post) t ([[82,97,110,103,101],[73,102,45,82,97,110,103,101]]:List Str) e7 a1 x) ?_
    rintro dm ht cm cn S dn
    have c:=c.up cn
    refine We ?_
    refine Ct 9 11 1023 rfl (fun _ _=>(R.fieldB rfl zBa)) ?_
    refine Cx [10] ⟨cm,(((an.trans a2).trans bi).trans cn),(S.pk [1])⟩ (all1 ?_)
    refine Nx 11 2047 rfl ?_
    refine W.storeSl (α:=GField) (i:=2) [(str b.fMethod),(str b.fTarget),(int b.fMinor),dm,(str b.fBody)] S dn rfl rfl rfl lay22 (Nat.le_of_ble_eq_true rfl) rfl ?_
    intro hu S
    refine We<|WC.done ⟨cm,(((an.trans a2).trans bi).trans cn),(S.pk [1])⟩ kr ?_
    exact ⟨cm,dm,rfl,rfl,dn,(S.pk [1,2])⟩
   refine Nx 11 185 rfl<|W.bslice (α:=Str) [(str [82,97,110,103,101]),(str [73,102,45,82,97,110,103,101])] ([[82,97,110,103,101],[73,102,45,82,97,110,103,101]]:List Str) S el45 rfl rfl rfl (by decide) (Go.Eng.encS ⟨rfl,rfl⟩ (Go.Eng.encS ⟨rfl,rfl⟩ enc0)) ?_
   intro hv hx dp aj a3 S
   have c:=c.up aj
   refine We ?_
   refine Cx [1] ⟨dp,aj,(S.pk [1])⟩ (all1 ?_)
   refine Nx 11 187 rfl ?_
   refine Lo 2 S<|We ?_
   refine Cx [2] ⟨dp,aj,(S.pk [1])⟩ (all1 ?_)
   refine Nx 11 191 rfl<|W.call S rfl (zAL S.holds (hG.post S.post) b.fFields c ac) ?_
   rintro hy hz e8 a4 S e9
   have ⟨c,a3⟩:=U2 a4 c a3
   refine We ?_
   refine Cx [6] ⟨e8,(aj.trans a4),(S.pk [1])⟩ (all1 ?_)
   refine Nx 11 255 rfl<|W.call S rfl (zAM S.holds (hG.post S.post) q b.fMinor k e9 u) ?_
   rintro h0 h1 fa bj S fb
   have ⟨c,a3⟩:=U2 bj c a3
   refine We ?_
   refine Cx [8] ⟨fa,((aj.trans a4).trans bj),(S.pk [1])⟩ (all1 ?_)
   refine Nx 11 511 rfl<|W.call S rfl (zAF S.holds (hG.post S.post) t ([[82,97,110,103,101],[73,102,45,82,97,110,103,101]]:List Str) fb a3 x) ?_
   rintro dq h2 co cp S dr
   have c:=c.up cp
   refine We ?_
   refine Ct 9 11 1023 rfl (fun _ _=>(R.fieldB rfl zBa)) ?_
   refine Cx [10] ⟨co,(((aj.trans a4).trans bj).trans cp),(S.pk [1])⟩ (all1 ?_)
   refine Nx 11 2047 rfl ?_
   refine W.storeSl (α:=GField) (i:=2) [(str b.fMethod),(str b.fTarget),(int b.fMinor),dq,(str b.fBody)] S dr rfl rfl rfl lay22 (Nat.le_of_ble_eq_true rfl) rfl ?_
   intro h3 S
   refine We<|WC.done ⟨co,(((aj.trans a4).trans bj).trans cp),(S.pk [1])⟩ kr ?_
   exact ⟨co,dq,rfl,rfl,dr,(S.pk [1,2])⟩
  refine Nx 11 169 rfl<|W.bslice (α:=Str) [(str [82,97,110,103,101]),(str [73,102,45,82,97,110,103,101])] ([[82,97,110,103,101],[73,102,45,82,97,110,103,101]]:List Str) S el45 rfl rfl rfl (by decide) (Go.Eng.encS ⟨rfl,rfl⟩ (Go.Eng.encS ⟨rfl,rfl⟩ enc0)) ?_
  intro h4 h5 a5 d j S
  have c:=c.up d
  refine We ?_
  refine Cx [1,4] ⟨a5,d,(S.pk [1])⟩ (allS ?_ (all1 ?_))
  ·refine Nx 11 171 rfl ?_
   refine Lo 2 S<|We ?_
   refine Cx [2,4] ⟨a5,d,(S.pk [1])⟩ (allS ?_ (all1 ?_))
   ·refine Nx 11 175 rfl<|W.call S rfl (zAL S.holds (hG.post S.post) b.fFields c ac) ?_
    rintro h6 h7 ds ao S fc
    have ⟨c,j⟩:=U2 ao c j
    refine We ?_
    refine Cx [4] ⟨ds,(d.trans ao),(S.pk [1])⟩ (all1 ?_)
    refine Nx 11 191 rfl ?_
    refine Lo 2 S<|We ?_
    refine Cx [6] ⟨ds,(d.trans ao),(S.pk [1])⟩ (all1 ?_)
    refine Nx 11 255 rfl<|W.call S rfl (zAM S.holds (hG.post S.post) q b.fMinor k fc u) ?_
    rintro h8 h9 fd bk S fe
    have ⟨c,j⟩:=U2 bk c j
    refine We ?_
    refine Cx [8] ⟨fd,((d.trans ao).trans bk),(S.pk [1])⟩ (all1 ?_)
    refine Nx 11 511 rfl<|W.call S rfl (zAF S.holds (hG.post S.post) t ([[82,97,110,103,101],[73,102,45,82,97,110,103,101]]:List Str) fe j x) ?_
    rintro dt ia cq cr S du
    have ⟨c,j⟩:=U2 cr c j
    refine We ?_
    refine Ct 9 11 1023 rfl (fun _ _=>(R.fieldB rfl zBa)) ?_
    refine Cx [10] ⟨cq,(((d.trans ao).trans bk).trans cr),(S.pk [1])⟩ (all1 ?_)
    refine Nx 11 2047 rfl ?_
    refine W.storeSl (α:=GField) (i:=2) [(str b.fMethod),(str b.fTarget),(int b.fMinor),dt,(str b.fBody)] S du rfl rfl rfl lay22 (Nat.le_of_ble_eq_true rfl) rfl ?_
    intro ib S
    refine We<|WC.done ⟨cq,(((d.trans ao).trans bk).trans cr),(S.pk [1])⟩ kr ?_
    exact ⟨cq,dt,rfl,rfl,du,(S.pk [1,2])⟩
   refine Nx 11 187 rfl ?_
   refine Lo 2 S<|We ?_
   refine Cx [2] ⟨a5,d,(S.pk [1])⟩ (all1 ?_)
   refine Nx 11 191 rfl<|W.call S rfl (zAL S.holds (hG.post S.post) b.fFields c ac) ?_
   rintro ic id ff a6 S fg
   have ⟨c,j⟩:=U2 a6 c j
   refine We ?_
   refine Cx [6] ⟨ff,(d.trans a6),(S.pk [1])⟩ (all1 ?_)
   refine Nx 11 255 rfl<|W.call S rfl (zAM S.holds (hG.post S.post) q b.fMinor k fg u) ?_
   rintro ie ig fh bn S fi
   have ⟨c,j⟩:=U2 bn c j
   refine We ?_
   refine Cx [8] ⟨fh,((d.trans a6).trans bn),(S.pk [1])⟩ (all1 ?_)
   refine Nx 11 511 rfl<|W.call S rfl (zAF S.holds (hG.post S.post) t ([[82,97,110,103,101],[73,102,45,82,97,110,103,101]]:List Str) fi j x) ?_
   rintro dv ih ct cu S dw
   have ⟨c,j⟩:=U2 cu c j
   refine We ?_
   refine Ct 9 11 1023 rfl (fun _ _=>(R.fieldB rfl zBa)) ?_
   refine Cx [10] ⟨ct,(((d.trans a6).trans bn).trans cu),(S.pk [1])⟩ (all1 ?_)
   refine Nx 11 2047 rfl ?_
   refine W.storeSl (α:=GField) (i:=2) [(str b.fMethod),(str b.fTarget),(int b.fMinor),dv,(str b.fBody)] S dw rfl rfl rfl lay22 (Nat.le_of_ble_eq_true rfl) rfl ?_
   intro ii S
   refine We<|WC.done ⟨ct,(((d.trans a6).trans bn).trans cu),(S.pk [1])⟩ kr ?_
   exact ⟨ct,dv,rfl,rfl,dw,(S.pk [1,2])⟩
  refine Nx 11 185 rfl ?_
  refine Lo 2 S<|We ?_
  refine Cx [1] ⟨a5,d,(S.pk [1])⟩ (all1 ?_)
  refine Nx 11 187 rfl ?_
  refine Lo 2 S<|We ?_
  refine Cx [2] ⟨a5,d,(S.pk [1])⟩ (all1 ?_)
  refine Nx 11 191 rfl<|W.call S rfl (zAL S.holds (hG.post S.post) b.fFields c ac) ?_
  rintro ij ik fj a7 S fk
  have j:=j.up a7
  refine We ?_
  refine Cx [6] ⟨fj,(d.trans a7),(S.pk [1])⟩ (all1 ?_)
  refine Nx 11 255 rfl<|W.call S rfl (zAM S.holds (hG.post S.post) q b.fMinor k fk u) ?_
  rintro il im fl bo S fm
  have j:=j.up bo
  refine We ?_
  refine Cx [8] ⟨fl,((d.trans a7).trans bo),(S.pk [1])⟩ (all1 ?_)
  refine Nx 11 511 rfl<|W.call S rfl (zAF S.holds (hG.post S.post) t ([[82,97,110,103,101],[73,102,45,82,97,110,103,101]]:List Str) fm j x) ?_
  rintro dx io cv dy S dz
  refine We ?_
  refine Ct 9 11 1023 rfl (fun _ _=>(R.fieldB rfl zBa)) ?_
  refine Cx [10] ⟨cv,(((d.trans a7).trans bo).trans dy),(S.pk [1])⟩ (all1 ?_)
  refine Nx 11 2047 rfl ?_
  refine W.storeSl (α:=GField) (i:=2) [(str b.fMethod),(str b.fTarget),(int b.fMinor),dx,(str b.fBody)] S dz rfl rfl rfl lay22 (Nat.le_of_ble_eq_true rfl) rfl ?_
  intro ip S
  refine We<|WC.done ⟨cv,(((d.trans a7).trans bo).trans dy),(S.pk [1])⟩ kr ?_
  exact ⟨cv,dx,rfl,rfl,dz,(S.pk [1,2])⟩
 rintro f w ⟨br,ai,d0,d1,d2,S⟩
 refine Ws<|Wg<|Fb' d0 ?_
 refine W.store (i:=1) [(str b.fMethod),(str b.fTarget),(int 1),ai,(str b.fBody)] S rfl rfl rfl lay3 rfl rfl (Nat.le_of_ble_eq_true rfl) rfl ?_
 intro iq S
 refine We<|Ws<|Wg ?_
 refine WL.w (R.loadBN (i:=1) (vs:=[(str b.fMethod),(str b.fTarget),(int 1),ai,(str b.fBody)]) S d0 rfl lay94 rfl rfl) ?_
 refine W.store (i:=0) [(str b.fMethod),(str b.fTarget),(int 1),ai,(str b.fBody)] S d1 rfl rfl lay94 rfl (AllOne.all (l:=[(str b.fMethod),(str b.fTarget),(int 1),ai,(str b.fBody)]) (.cons rfl (.cons rfl (.cons rfl (.cons (Sl.oneC d2) (.cons rfl .nil)))))) (Nat.le_of_ble_eq_true rfl) rfl ?_
 intro ir S
 refine We ?_
 obtain rfl:=oi h
 refine WP.ret (Out.one rfl S (Res.cellB (i:=0) (cs:=[(str b.fMethod),(str b.fTarget),(int 1),ai,(str b.fBody)]) S d1 rfl lay94 rfl rfl) ?_)
 exact ⟨_,rfl,d2⟩
theorem zGP {o:World} {p:Hp} (hw:Holds o p) (hG:Tryz.Gl o) (q:(List GField)) (aa:Str) (k:Str) {u:Value} (c:Sl p u q) {r:(List GField)} (h:zFa q aa k=some r) :
  Con Tryz.prog 105 [u,(str aa),(str k)] o p (fun H' v=>Sl H' v r):=by
 refine CM 49 Tryz.func105 hw fun S=>?_
 refine Ws<|Wg<|A<|We<|Ws<|Wg<|M<|B h fun r1 a3 h=>W.call S rfl (zAl S.holds (hG.post S.post) aa a3) ?_
 rintro v2 w3 H4 a4 S ⟨kr1,cr1,rfl,Fr1⟩
 have c:=c.up a4
 refine A<|A<|We<|Ws<|Wg<|A<|We<|Ws<|Ws<|Wg<|M<|Nq c ?_
 refine M<|We ?_
 have S:=S.addNil 68 2
 refine B h fun ab a5 h=>WP.cut (fun f w=>match ab with | (av,ac)=>∃ (ad:Hp) (x:Value),f 8=(boo av)∧f 9=x∧Sl ad x ac∧St o p w ad [.row x 68 2 ac.length]) ?_ ?_
 ·refine Wb ?_
  refine WP.loopM (zDn q k r1) (fun s f w=>match s with | (aw,ae,ax)=>∃ (l:Hp) (t:Value),f 2=(str k)∧f 7=(.func (.func kr1) #[] cr1.toArray)∧f 8=(boo aw)∧f 9=t∧f 14=u∧f 15=(int (q.length:Int))∧f 16=(int ax)∧Sl l t ae∧Sl l u q∧Hp.le H4 l∧St o p w l [.row t 68 2 ae.length]) (false,([]:List GField),0) ab (lfW a5) ?_ ?_
  ·exact ⟨H4,.slice none 0 0,rfl,rfl,rfl,rfl,rfl,rfl,rfl,Sl.nil,c,lr,S⟩
  intro s f w hI br b a6
  obtain ⟨aw,ae,ax⟩:=s
  obtain ⟨l,t,h7,h8,ai,aj,ak,al,z,j,c,am,S⟩:=hI
  refine Ws<|Wg<|La' z al<|We<|Ws ?_
  rcases condE b with ⟨an,b⟩ | ⟨an,b⟩
  ·refine CT an<|Wk<|Ws<|Wb<|Ws<|Wg<|B b fun d a7 b=>W.idx (α:=GField) c ak z el22 a7 ?_
   rintro bs _ a8 rfl
   refine WL.w (R.loadHN (vs:=[(str d.fName),(str d.fValue)]) S rfl a8 lay68 rfl rfl) ?_
   refine W.alloc [(str []),(str [])] S zer68 ?_
   intro bt bu S
   refine W.store (i:=0) [(str d.fName),(str d.fValue)] S rfl rfl rfl lay68 rfl rfl (Nat.le_of_ble_eq_true rfl) rfl ?_
   intro bv S
   refine We<|Wb<|Ws<|Wg<|M' h8 ?_
   refine WL.w (R.loadBN (i:=0) (vs:=[(str d.fName),(str d.fValue)]) S rfl rfl lay68 rfl rfl)<|B b fun bw a9 b=>W.callv S rfl rfl (Fr1 am S.holds (hG.post S.post) d _ a9) ?_
   rintro bx bz b0 ao S rfl
   have ⟨j,c⟩:=U2 ao j c
   refine No<|A<|We ?_
   rcases condE b with ⟨ap,b⟩ | ⟨ap,b⟩
   ·refine CT ap<|Wg<|M' aj ?_
    refine WL.w (R.loadBN (i:=0) (vs:=[(str d.fName),(str d.fValue)]) S rfl rfl lay68 rfl rfl)<|W.bslice (α:=GField) [(agg [(str d.fName),(str d.fValue)])] ([d]:List GField) S el22 rfl rfl rfl (by decide) (Go.Eng.encS ⟨rfl,rfl⟩ enc0) ?_
    intro b1 b2 b3 ay ba S
    have ⟨j,c⟩:=U2 ay j c
    refine B b fun b4 bb b=>W.app (α:=GField) (i:=2) S el22 rfl rfl rfl j ba bb ?_
    intro bc b5 bd az be S
    have ⟨j,c⟩:=U2 az j c
    refine A<|We<|Wg<|Lg' z rfl<|M<|We ?_
    obtain rfl:=oi b
    exact ⟨rfl,⟨bd,bc,h7,h8,ai,rfl,ak,al,rfl,be,c,(((am.trans ao).trans ay).trans az),(S.pk [2])⟩⟩
   refine CF ap<|Ws<|Wg<|M' ai<|No<|A<|We ?_
   rcases condE b with ⟨aq,b⟩ | ⟨aq,b⟩
   ·refine CT aq<|Ws<|Wg<|M' aj<|Fb ?_
    refine Lo 0 S<|M' h7 ?_
    refine WL.w (R.build [(0,(str d.fName)),(1,(str k))] [(str d.fName),(str k)] bp68 zer68 rfl rfl)<|W.bslice (α:=GField) [(agg [(str d.fName),(str k)])] ([(⟨d.fName,k⟩:GField)]:List GField) S el22 rfl rfl rfl (by decide) (Go.Eng.encS ⟨rfl,rfl⟩ enc0) ?_
    intro b6 b7 b8 a0 bf S
    have ⟨j,c⟩:=U2 a0 j c
    refine B b fun b9 bg b=>W.app (α:=GField) (i:=2) S el22 rfl rfl rfl j bf bg ?_
    intro bh ca bi a1 bj S
    have ⟨j,c⟩:=U2 a1 j c
    refine A<|We<|Wg<|A<|We<|Wg<|Lg' z rfl<|M<|We ?_
    obtain rfl:=oi b
    exact ⟨rfl,⟨bi,bh,h7,h8,rfl,rfl,ak,al,rfl,bj,c,(((am.trans ao).trans a0).trans a1),(S.pk [2])⟩⟩
   refine CF aq ?_
   cases b
  refine CF an<|Wx ?_
  obtain rfl:=oi b
  obtain rfl:=a6
  exact ⟨l,t,ai,aj,j,S⟩
 intro f w hM
 obtain ⟨av,ac⟩:=ab
 obtain ⟨ad,x,bk,bn,bo,S⟩:=hM
 refine Ws<|Ws<|Wg<|M' bk<|No<|We ?_
 rcases condE h with ⟨ar,h⟩ | ⟨ar,h⟩
 ·refine CT ar ?_
  cases h
 refine CF ar<|Wk<|Ws<|Wg<|M' bn<|A<|We ?_
 exact WP.ret (Rl h S bo)
theorem zDG {l:World} {p:Hp} (hw:Holds l p) (hG:Tryz.Gl l) (i:Str) (j:Str) (k:Int) {r:Str} (h:zBp i j k=some r) :
  Cs Tryz.prog 173 [(str i),(str j),(int k)] l p r:=by
 refine CM 45 Tryz.func173 hw fun S=>?_
 refine Ws<|Wg<|A<|We<|Ws<|Wg<|M<|B h fun s1 q h=>Je q<|M<|B h fun s2 t h=>Je t<|B h fun s3 u h=>Je u<|M<|B h fun r4 v h=>W.call S rfl (zCD S.holds (hG.post S.post) k v) ?_
 rintro v5 w6 H7 aj S rfl
 refine B h fun x z h=>Je z<|A<|We<|Ws<|Ws<|Wg<|M<|B h fun b aa h=>W.call S rfl (zBb S.holds (hG.post S.post) x aa) ?_
 rintro ak al am an S rfl
 refine M ?_
 refine Ex ?_
 refine Ex ?_
 refine Ex ?_
 refine Ex<|A<|A<|A<|A<|We<|Ws<|Wg ?_
 refine M<|Lf<|M ?_
 refine WL.grp 4 [30,31,32] 33 (boo ((b.2.2.2 !=0)||(b.1 !=i))) ?_ ?_
 ·rcases boolE (b.2.2.2 !=0) with c | c
  ·refine Gn c<|Gn c<|Gn c<|Pt c ?_
   exact We ⟨(orT c),ag,rfl⟩
  refine Gy c<|M<|Gy c<|M<|Gy c<|Nb<|Pf c ?_
  exact We ⟨(orF c),ag,rfl⟩
 intro us
 refine M ?_
 refine WL.grp 4 [35,36,37] 38 (boo (((b.2.2.2 !=0)||(b.1 !=i))||(b.2.1 !=j))) ?_ ?_
 ·rcases boolE ((b.2.2.2 !=0)||(b.1 !=i)) with d | d
  ·refine Gn d<|Gn d<|Gn d<|Pt d ?_
   exact We ⟨(orT d),ag,rfl⟩
  refine Gy d<|M<|Gy d<|M<|Gy d<|Nb<|Pf d ?_
  exact We ⟨(orF d),ag,rfl⟩
 intro us
 refine M ?_
 refine WL.grp 4 [40,41,42] 43 (boo ((((b.2.2.2 !=0)||(b.1 !=i))||(b.2.1 !=j))||(b.2.2.1 !=k))) ?_ ?_
 ·rcases boolE (((b.2.2.2 !=0)||(b.1 !=i))||(b.2.1 !=j)) with f | f
  ·refine Gn f<|Gn f<|Gn f<|Pt f ?_
   exact We ⟨(orT f),ag,rfl⟩
  refine Gy f<|M<|Gy f<|M<|Gy f<|Lf<|Pf f ?_
  exact We ⟨(orF f),ag,rfl⟩
 intro us
 refine We ?_
 rcases condE h with ⟨o,h⟩ | ⟨o,h⟩
 ·refine CT o ?_
  cases h
 refine CF o<|Wk<|Ws<|Wg<|M<|A<|We ?_
 exact WP.ret (Rs h S)
end Go.Proofs
