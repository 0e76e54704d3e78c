/- A part. -/
import Derived.Test.YtkjgdladeabcfaaGreatDoorEng38
import Derived.Test.YtkjgdladeabcfaaGreatDoorEng40
import Derived.Test.YtkjgdladeabcfaaGreatDoorGenX1
namespace Go.Proofs
set_option maxHeartbeats 4000000
set_option maxRecDepth 10000
open Go.Eng Go.Eng.Pure
set_option linter.unusedVariables false
theorem zBW {x:World} {o:Hp} (hw:Holds x o) (hG:Tryz.Gl x) (ao:Str) {r:(UInt8×Int)} (h:zAi ao=some r) :
  Con Tryz.prog 10 [(str ao)] x o (fun H' v=>v=(.tuple ⟨[(byt r.1),(int r.2)]⟩)):=by
 refine CM 40 Tryz.func10 hw fun S=>?_
 refine Ws<|Wg<|A<|A<|We<|Ws<|Ws<|Wg<|M<|Na<|We ?_
 rcases condE h with ⟨ay,h⟩ | ⟨ay,h⟩
 ·refine CT ay<|Ws<|Wg<|A<|A<|We ?_
  obtain rfl:=oi h
  refine WP.ret (Out.two rfl S rfl rfl ?_)
  exact rfl
 refine CF ay<|Wk<|Ws<|Ws<|Wg<|M<|B h fun c2 bu h=>Ja bu<|We<|Wb<|Ws<|Wg<|Me c2 92<|A<|We ?_
 rcases condE h with ⟨az,h⟩ | ⟨az,h⟩
 ·refine CT az<|Ws<|Wg<|A<|A<|We ?_
  obtain rfl:=oi h
  refine WP.ret (Out.two rfl S rfl rfl ?_)
  exact rfl
 refine CF az<|Ws<|Wg<|Me c2 114<|A<|We ?_
 rcases condE h with ⟨a0,h⟩ | ⟨a0,h⟩
 ·refine CT a0<|Ws<|Wg<|A<|A<|We ?_
  obtain rfl:=oi h
  refine WP.ret (Out.two rfl S rfl rfl ?_)
  exact rfl
 refine CF a0<|Ws<|Wg<|Me c2 110<|A<|We ?_
 rcases condE h with ⟨a1,h⟩ | ⟨a1,h⟩
 ·refine CT a1<|Ws<|Wg<|A<|A<|We ?_
  obtain rfl:=oi h
  refine WP.ret (Out.two rfl S rfl rfl ?_)
  exact rfl
 refine CF a1<|Ws<|Wg<|Me c2 116<|A<|We ?_
 rcases condE h with ⟨a2,h⟩ | ⟨a2,h⟩
 ·refine CT a2<|Ws<|Wg<|A<|A<|We ?_
  obtain rfl:=oi h
  refine WP.ret (Out.two rfl S rfl rfl ?_)
  exact rfl
 refine CF a2<|Wk<|Ws<|Ws<|Wg<|M<|B h fun c7 bv h=>Ja bv<|Mf c7 120<|M ?_
 refine WL.grp 4 [22,23,24] 25 (boo ((c7 !=120)||(decide ((ao.length:Int)<3)))) ?_ ?_
 ·rcases boolE (c7 !=120) with p | p
  ·refine Gn p<|Gn p<|Gn p<|Pt p ?_
   exact We ⟨(orT p),ag,rfl⟩
  refine Gy p<|M<|Gy p<|Ns<|Gy p<|La<|Pf p ?_
  exact We ⟨(orF p),ag,rfl⟩
 intro us
 refine M<|B h fun bw z h=>WL.grpw 5 [27,28,29,30] 31 (boo bw) (fun w=>∃ H':Hp,o.le H'∧St x o w H' []) ?_ ?_
 ·rcases boolE ((c7 !=120)||(decide ((ao.length:Int)<3))) with j | j
  ·replace z:=condT z j
   refine Gn j<|Gn j<|Gn j<|Gn j<|Pt j ?_
   exact We ⟨(ob z),ag,⟨o,lr,S⟩⟩
  replace z:=condF z j
  refine Gy j<|M<|Gy j<|B z fun bx bz z=>Jb bz<|Gy j<|B z fun cs b0 z=>W.call S rfl (zBk S.holds (hG.post S.post) bx [48,49,50,51,52,53,54,55,56,57,97,98,99,100,101,102,65,66,67,68,69,70] b0) ?_
  rintro ct cu b1 b2 S rfl
  refine Gy j<|Nb<|Pf j ?_
  exact We ⟨(ob z),ag,⟨b1,b2,S⟩⟩
 intro us cv ⟨b3,cw,S⟩
 refine We ?_
 rcases condE h with ⟨a3,h⟩ | ⟨a3,h⟩
 ·refine CT a3<|Ws<|Wg<|A<|A<|We ?_
  obtain rfl:=oi h
  refine WP.ret (Out.two rfl S rfl rfl ?_)
  exact rfl
 refine CF a3<|Wk<|Ws<|Wg<|M<|B h fun aa b4 h=>Jb b4<|B h fun b5 a4 h=>W.inl (args:=[(str aa),(int 16),(int 8)]) rfl (N':=26) Tryz.func17 rfl rfl kr rfl (WP.inC (fun f w=>∃ (bn:Hp),f 6=(u64 b5)∧f 7=.nilIface∧St x o w bn []) ?_ ?_)
 ·refine Ws<|Wg<|A<|A<|We<|Ws<|Wg<|M<|M<|M<|B a4 fun b6 k a4=>W.inl (args:=[(str aa),(int 16),(int 8)]) rfl (N':=172) Tryz.func30 rfl rfl kr rfl (WP.inC (fun f w=>∃ (a5:Hp),f 6=(u64 b6)∧f 7=.nilIface∧St x o w a5 []) ?_ ?_)
  ·refine Ws<|Wg<|A<|A<|We<|Ws<|Ws<|Wg<|M<|Na<|We ?_
   rcases condE k with ⟨a6,k⟩ | ⟨a6,k⟩
   ·refine CT a6<|Ws<|Wg ?_
    cases k
   refine CF a6<|Wk<|Ws<|Wg<|M ?_
   refine WL.w (v:=boo false) (R.ofEq (R.eql rfl rfl) rfl)<|A<|We<|Ws<|Wg<|M<|A ?_
   refine We<|Ws<|Wb<|Ws<|Wg<|M ?_
   refine WL.w (v:=boo true) (R.ofEq (R.leq rfl rfl) rfl)<|M<|Gy rfl<|M<|Gy rfl ?_
   refine WL.w (v:=boo true) (R.ofEq (R.leq rfl rfl) rfl) ?_
   refine Pt rfl<|A<|We<|WP.condT (b:=true) rfl rfl<|Wk<|Ws<|Ws<|Wg<|M ?_
   refine WL.w (v:=boo false) (R.ofEq (R.eql rfl rfl) rfl)<|We<|WP.condF (b:=false) rfl rfl ?_
   refine Ws<|Wg<|M ?_
   refine WL.w (v:=boo false) (R.ofEq (R.lss rfl rfl) rfl)<|M<|Gy rfl<|M<|Gy rfl ?_
   refine WL.w (v:=boo false) (R.ofEq (R.gtr rfl rfl) rfl)<|Pf rfl<|We<|WP.condF (b:=false) rfl rfl ?_
   refine Wk<|Ws<|Wg<|A<|We<|Ws<|Ws<|Wg<|M<|We<|Wb<|Ws ?_
   refine Wg ?_
   refine WL.w (v:=boo false) (R.ofEq (R.eql rfl rfl) rfl)<|A<|We<|WP.condF (b:=false) rfl rfl<|Ws<|Wg ?_
   refine WL.w (v:=boo true) (R.ofEq (R.eql rfl rfl) rfl)<|A<|We<|WP.condT (b:=true) rfl rfl<|Wg ?_
   refine A<|We<|Ws<|Wg<|M ?_
   refine WL.w (R.u64of64 rfl Tryz.underlying3 Tryz.underlying40) ?_
   refine WL.w (R.shlU rfl rfl (by decide)) ?_
   refine WL.w (R.subU rfl rfl)<|A<|We<|Ws<|Wg ?_
   refine A<|We<|Ws<|Wg<|A<|We<|Ws<|Ws<|Wg<|M<|W.bytes (s:=aa) S rfl Tryz.underlying9 Tryz.underlying27 Tryz.underlying5 ?_
   intro a7 b7 cx cy S
   refine Nv<|M<|We<|B k fun a8 b8 k=>WP.cut (fun f w=>match a8 with | .inl (a9,bo)=>∃ (ar:Hp),f 9=(str aa)∧f 12=(boo a9)∧f 13=(u64 bo)∧St x o w ar [] | .inr _=>False) ?_ ?_
   ·refine Wb ?_
    refine WP.loopM (zAM aa) (fun s f w=>match s with | (bp,l,bq)=>∃ (al:Hp),f 1=(int 16)∧f 8=(boo false)∧f 9=(str aa)∧f 10=(u64 1152921504606846976)∧f 11=(u64 (wu ((shlU 1 (wu 8)) - 1)))∧f 12=(boo bp)∧f 13=(u64 l)∧f 99=(.slice (some ⟨a7,0,none⟩) aa.length b7)∧f 100=(int (aa.length:Int))∧f 101=(int bq)∧St x o w al [.box a7 5 (aa.map byt)]) (false,0,0) a8 (lfW b8) ?_ ?_
    ·exact ⟨b3,rfl,rfl,rfl,rfl,rfl,rfl,rfl,rfl,rfl,rfl,S⟩
    intro s f w hI cz c b9
    obtain ⟨bp,l,bq⟩:=s
    obtain ⟨al,af,au,av,am,ab,ba,aj,aw,ax,an,S⟩:=hI
    refine Ws<|Wg<|La' an ax<|We<|Ws ?_
    rcases condE c with ⟨bb,c⟩ | ⟨bb,c⟩
    ·refine CT bb<|Wk<|Ws<|Wb<|Ws<|Wg<|B c fun c0 br c=>?_
     have c1:=(zBV br).2
     refine WL.w (R.idxB aw an el27 (zBV br).2)<|B c fun d ca c=>?_
     refine WL.w (R.loadB (i:=0) S rfl rfl lay5 (zBV ca).1)<|A<|We<|Ws<|Wg<|A<|We<|Ws<|Wb<|Ws<|Wg<|M ?_
     refine Me d 95<|M ?_
     refine WL.grp 2 [110] 111 (boo ((d==95)&&false)) ?_ ?_
     ·rcases boolE (d==95) with ah | ah
      ·refine Gy ah<|M' au<|Pt ah ?_
       exact We ⟨(andT ah),ag,rfl⟩
      refine Gn ah<|Pf ah ?_
      exact We ⟨(andF ah),ag,rfl⟩
     intro us
     refine A<|We ?_
     rcases condE c with ⟨bc,c⟩ | ⟨bc,c⟩
     ·refine CT bc<|Ws<|Wg<|A<|We<|Wx<|Wg<|Lg' an rfl<|M<|We ?_
      obtain rfl:=oi c
      exact ⟨rfl,⟨al,af,au,av,am,ab,rfl,aj,aw,ax,rfl,S⟩⟩
     refine CF bc<|Ws<|Wg<|M<|Mb 48 d<|M ?_
     refine WL.grp 3 [116,117] 118 (boo ((decide (48≤d))&&(decide (d≤57)))) ?_ ?_
     ·rcases boolE (decide (48≤d)) with ac | ac
      ·refine Gy ac<|M<|Gy ac<|Mb d 57<|Pt ac ?_
       exact We ⟨(andT ac),ag,rfl⟩
      refine Gn ac<|Gn ac<|Pf ac ?_
      exact We ⟨(andF ac),ag,rfl⟩
     intro us
     refine A<|We ?_
     rcases condE c with ⟨bd,c⟩ | ⟨bd,c⟩
     ·refine CT bd<|Wg<|M<|Mh d 48<|A<|We<|Ws<|Ws<|Wg<|M<|M' af ?_
      refine WL.w (R.u8of64 rfl Tryz.underlying3 Tryz.underlying5) ?_
      refine Md (d - 48) (toU8 16)<|We ?_
      rcases condE c with ⟨be,c⟩ | ⟨be,c⟩
      ·refine CT be<|Ws<|Wg ?_
       cases c
      refine CF be<|Wk<|Ws<|Ws<|Wg<|M' aj<|M' am ?_
      refine WL.w (R.geqU rfl rfl)<|We ?_
      rcases condE c with ⟨bf,c⟩ | ⟨bf,c⟩
      ·refine CT bf<|Ws<|Wg<|M' ab ?_
       cases c
      refine CF bf<|Wk<|Ws<|Wg<|M' aj<|M' af ?_
      refine WL.w (R.u64of64 rfl Tryz.underlying3 Tryz.underlying47) ?_
      refine WL.w (R.mulU rfl rfl)<|A<|We<|Ws<|Wg ?_
      refine M<|M ?_
      refine WL.w (R.u64of8 (a:=d - 48) rfl Tryz.underlying5 Tryz.underlying47) ?_
      refine WL.w (R.addU rfl rfl)<|A<|We<|Ws<|Ws<|Wg<|M<|M ?_
      refine WL.w (R.lssU rfl rfl) ?_
      refine M ?_
      refine WL.grp 4 [156,157,158] 159 (boo ((decide ((wu ((wu (l*(wu 16)))+(wu ((d - 48).toNat:Int))))<(wu (l*(wu 16)))))||(decide ((wu ((shlU 1 (wu 8)) - 1))<(wu ((wu (l*(wu 16)))+(wu ((d - 48).toNat:Int)))))))) ?_ ?_
      ·rcases boolE (decide ((wu ((wu (l*(wu 16)))+(wu ((d - 48).toNat:Int))))<(wu (l*(wu 16))))) with q | q
       ·refine Gn q<|Gn q<|Gn q<|Pt q ?_
        exact We ⟨(orT q),ag,rfl⟩
       refine Gy q<|M<|Gy q<|M' ab<|Gy q ?_
       refine WL.w (R.gtrU rfl rfl)<|Pf q ?_
       exact We ⟨(orF q),ag,rfl⟩
      intro us
      refine We ?_
      rcases condE c with ⟨bg,c⟩ | ⟨bg,c⟩
      ·refine CT bg<|Ws<|Wg<|M' ab ?_
       cases c
      refine CF bg<|Wk<|Wg<|M<|A<|We<|Wg<|Lg' an rfl<|M<|We ?_
      obtain rfl:=oi c
      exact ⟨rfl,⟨al,af,au,av,am,ab,ba,rfl,aw,ax,rfl,S⟩⟩
     refine CF bd<|Ws<|Wg<|M<|B c fun bs cb c=>W.call S rfl (zAn S.holds (hG.post S.post) d cb) ?_
     rintro c3 c4 bt c5 S rfl
     refine Mb 97 bs<|M<|B c fun cc ae c=>WL.grpw 4 [126,127,128] 129 (boo cc) (fun w=>∃ H':Hp,bt.le H'∧St x o w H' [.box a7 5 (aa.map byt)]) ?_ ?_
     ·rcases boolE (decide (97≤bs)) with t | t
      ·replace ae:=condT ae t
       refine Gy t<|M<|Gy t<|B ae fun cd ce ae=>W.call S rfl (zAn S.holds (hG.post S.post) d ce) ?_
       rintro c6 c8 cf cg S rfl
       refine Gy t<|Mb cd 122<|Pt t ?_
       exact We ⟨(ob ae),ag,⟨cf,cg,S⟩⟩
      replace ae:=condF ae t
      refine Gn t<|Gn t<|Gn t<|Pf t ?_
      exact We ⟨(ob ae),ag,⟨bt,lr,S⟩⟩
     intro us c9 ⟨da,db,S⟩
     refine A<|We ?_
     rcases condE c with ⟨bh,c⟩ | ⟨bh,c⟩
     ·refine CT bh<|Wg<|M<|B c fun ai ch c=>W.call S rfl (zAn S.holds (hG.post S.post) d ch) ?_
      rintro dc dd ci de S rfl
      refine Mh ai 97<|Mg (ai - 97) 10<|A<|We<|Ws<|Ws<|Wg<|M<|M' af ?_
      refine WL.w (R.u8of64 rfl Tryz.underlying3 Tryz.underlying5)<|Md ((ai - 97)+10) (toU8 16)<|We ?_
      rcases condE c with ⟨bi,c⟩ | ⟨bi,c⟩
      ·refine CT bi<|Ws<|Wg ?_
       cases c
      refine CF bi<|Wk<|Ws<|Ws<|Wg<|M' aj<|M' am ?_
      refine WL.w (R.geqU rfl rfl)<|We ?_
      rcases condE c with ⟨bj,c⟩ | ⟨bj,c⟩
      ·refine CT bj<|Ws<|Wg<|M' ab ?_
       cases c
      refine CF bj<|Wk<|Ws<|Wg<|M' aj<|M' af ?_
      refine WL.w (R.u64of64 rfl Tryz.underlying3 Tryz.underlying47) ?_
      refine WL.w (R.mulU rfl rfl)<|A<|We<|Ws<|Wg ?_
      refine M<|M ?_
      refine WL.w (R.u64of8 (a:=(ai - 97)+10) rfl Tryz.underlying5 Tryz.underlying47) ?_
      refine WL.w (R.addU rfl rfl)<|A<|We<|Ws<|Ws<|Wg<|M<|M ?_
      refine WL.w (R.lssU rfl rfl) ?_
      refine M ?_
      refine WL.grp 4 [156,157,158] 159 (boo ((decide ((wu ((wu (l*(wu 16)))+(wu (((ai - 97)+10).toNat:Int))))<(wu (l*(wu 16)))))||(decide ((wu ((shlU 1 (wu 8)) - 1))<(wu ((wu (l*(wu 16)))+(wu (((ai - 97)+10).toNat:Int)))))))) ?_ ?_
      ·rcases boolE (decide ((wu ((wu (l*(wu 16)))+(wu (((ai - 97)+10).toNat:Int))))<(wu (l*(wu 16))))) with u | u
       ·refine Gn u<|Gn u<|Gn u<|Pt u ?_
        exact We ⟨(orT u),ag,rfl⟩
       refine Gy u<|M<|Gy u<|M' ab<|Gy u ?_
       refine WL.w (R.gtrU rfl rfl)<|Pf u ?_
       exact We ⟨(orF u),ag,rfl⟩
      intro us
      refine We ?_
      rcases condE c with ⟨bk,c⟩ | ⟨bk,c⟩
      ·refine CT bk<|Ws<|Wg<|M' ab ?_
       cases c
      refine CF bk<|Wk<|Wg<|M<|A<|We<|Wg<|Lg' an rfl<|M<|We ?_
      obtain rfl:=oi c
      exact ⟨rfl,⟨ci,af,au,av,am,ab,ba,rfl,aw,ax,rfl,S⟩⟩
     refine CF bh<|Ws<|Wg ?_
     cases c
    refine CF bb<|Wx ?_
    obtain rfl:=oi c
    obtain rfl:=b9
    exact ⟨al,av,ba,aj,(S.pk [])⟩
   intro f w hM
   rcases a8 with ⟨a9,bo⟩ | e
   ·obtain ⟨ar,cj,ck,cl,S⟩:=hM
    refine Ws<|Ws<|Wg<|M' ck<|M<|B k fun cm ak k=>WL.grpw 4 [166,167,168] 169 (boo cm) (fun w=>∃ H':Hp,ar.le H'∧St x o w H' []) ?_ ?_
    ·rcases boolE a9 with ad | ad
     ·replace ak:=condT ak ad
      refine Gy ad<|M' cj<|Gy ad ?_
      cases ak
     replace ak:=condF ak ad
     refine Gn ad<|Gn ad<|Gn ad<|Pf ad ?_
     exact We ⟨(ob ak),ag,⟨ar,lr,S⟩⟩
    intro us df ⟨cn,dg,S⟩
    refine We ?_
    rcases condE k with ⟨bl,k⟩ | ⟨bl,k⟩
    ·refine CT bl<|Ws<|Wg ?_
     cases k
    refine CF bl<|Wk<|Ws<|Wg<|M' cl<|A<|A<|We ?_
    obtain rfl:=oi k
    refine WP.ret ?_
    exact ⟨.inl rfl,⟨cn,rfl,rfl,S⟩⟩
   exact hM.elim
  rintro f w ⟨a5,co,cp,S⟩
  refine InR.two rfl co cp<|M ?_
  refine Ex ?_
  refine Ex<|A<|A<|We<|Ws<|Ws<|Wg<|M ?_
  refine WL.w (R.neqNI rfl rfl Tryz.underlying35) ?_
  refine We<|WP.condF (b:=false) rfl rfl<|Wk<|Ws<|Wg<|M<|A<|A<|We ?_
  obtain rfl:=oi a4
  refine WP.ret ?_
  exact ⟨.inl rfl,⟨a5,rfl,rfl,S⟩⟩
 rintro f w ⟨bn,cq,cr,S⟩
 refine InR.two rfl cq cr<|M ?_
 refine Ex ?_
 refine Ex<|A<|A<|We<|Ws<|Wg<|M ?_
 refine WL.w (R.u8ofU rfl Tryz.underlying47 Tryz.underlying5)<|A ?_
 refine A<|We ?_
 obtain rfl:=oi h
 refine WP.ret (Out.two rfl S rfl rfl ?_)
 exact rfl
theorem zAw {l:World} {o:Hp} (hw:Holds l o) (hG:Tryz.Gl l) (q:Str) {r:(Str×Bool)} (h:zAX q=some r) :
  Con Tryz.prog 5 [(str q)] l o (fun H' v=>v=(.tuple ⟨[(str r.1),(boo r.2)]⟩)):=by
 refine CM 46 Tryz.func5 hw fun S=>?_
 refine Ws<|Wg<|A<|A<|We<|Ws<|Wg<|A<|We<|Ws<|Ws<|Wg ?_
 refine A<|We ?_
 have S:=S.addNil 5 1
 refine B h fun ac aq h=>WP.cut (fun f w=>match ac with | .inl ad=>∃ (H9:Hp) (aa:Value),f 4=aa∧Sl H9 aa ad∧St l o w H9 [.row aa 5 1 ad.length] | .inr _=>False) ?_ ?_
 ·refine Wb ?_
  refine WP.loopM (zAO q) (fun s f w=>match s with | (t,an)=>∃ (u:Hp) (k:Value),f 0=(str q)∧f 4=k∧f 5=(int an)∧Sl u k t∧St l o w u [.row k 5 1 t.length]) (([]:List UInt8),0) ac (lfW aq) ?_ ?_
  ·exact ⟨o,.slice none 0 0,rfl,rfl,rfl,Sl.nil,S⟩
  intro s f w hI bc b af
  obtain ⟨t,an⟩:=s
  obtain ⟨u,k,x,h6,z,d,S⟩:=hI
  refine Ws<|Ws<|Wg<|M' z<|M' x<|Ns<|La<|We ?_
  rcases condE b with ⟨ai,b⟩ | ⟨ai,b⟩
  ·refine CT ai<|Wk<|Ws<|Wb<|Ws<|Wg<|M' x<|M' z<|B b fun p ar b=>Ja ar<|A<|We<|Ws<|Ws<|Wg<|M<|Ma p 32<|M ?_
   refine WL.grp 3 [21,22] 23 (boo ((decide (p<32))||(decide (126<p)))) ?_ ?_
   ·rcases boolE (decide (p<32)) with j | j
    ·refine Gn j<|Gn j<|Pt j ?_
     exact We ⟨(orT j),ag,rfl⟩
    refine Gy j<|M<|Gy j<|Mc p 126<|Pf j ?_
    exact We ⟨(orF j),ag,rfl⟩
   intro us
   refine We ?_
   rcases condE b with ⟨aj,b⟩ | ⟨aj,b⟩
   ·refine CT aj<|Ws<|Wg<|A<|A<|We ?_
    obtain rfl:=oi b
    obtain rfl:=af
    obtain rfl:=oi h
    refine WP.ret (Out.two rfl S rfl rfl ?_)
    exact rfl
   refine CF aj<|Wk<|Ws<|Ws<|Wg<|M<|Me p 92<|We<|B b fun ao c b=>WP.cut (fun f w=>match ao with | .inl (ap,ab)=>∃ (ak:Hp),f 0=(str q)∧f 4=k∧f 5=(int ap)∧f 6=(byt ab)∧Sl ak k t∧St l o w ak [.row k 5 1 t.length] | .inr _=>False) ?_ ?_
   ·rcases condE c with ⟨al,c⟩ | ⟨al,c⟩
    ·refine CT al<|Ws<|Wg<|M' x<|M' z<|Lg<|B c fun au av c=>Jc av<|B c fun bd aw c=>W.call S rfl (zBW S.holds (hG.post S.post) au aw) ?_
     rintro be bf ax ay S rfl
     have d:=d.up ay
     refine M ?_
     refine Ex ?_
     refine Ex<|A<|A<|We<|Ws<|Ws<|Wg<|M<|Le<|We ?_
     rcases condE c with ⟨am,c⟩ | ⟨am,c⟩
     ·refine CT am<|Ws<|Wg<|A<|A<|We ?_
      obtain rfl:=oi c
      obtain rfl:=oi b
      obtain rfl:=af
      obtain rfl:=oi h
      refine WP.ret (Out.two rfl S rfl rfl ?_)
      exact rfl
     refine CF am<|Wk<|Ws<|Wg<|M<|A<|We<|Wg<|M' z<|M<|Lg<|A ?_
     refine We ?_
     obtain rfl:=oi c
     exact ⟨ax,x,h6,rfl,rfl,d,S⟩
    refine CF al<|Wk ?_
    obtain rfl:=oi c
    exact ⟨u,x,h6,z,rfl,d,S⟩
   intro f w hM
   rcases ao with ⟨ap,ab⟩ | e
   ·obtain ⟨ak,az,a0,a1,a2,d,S⟩:=hM
    refine Wg<|M' a0<|M' a2<|W.bslice (α:=UInt8) [(byt ab)] ([ab]:List UInt8) S el27 rfl rfl rfl (by decide) (Go.Eng.encS ⟨rfl,rfl⟩ enc0) ?_
    intro bg bh bi a3 a4 S
    have d:=d.up a3
    refine B b fun bj a5 b=>W.app (α:=UInt8) (i:=1) S el27 rfl rfl rfl d a4 a5 ?_
    intro a6 bk a7 a8 a9 S
    have d:=d.up a8
    refine A<|We<|Wg<|M' a1<|Lg<|A<|We ?_
    obtain rfl:=oi b
    exact ⟨rfl,⟨a7,a6,az,rfl,rfl,a9,(S.pk [1])⟩⟩
   exact hM.elim
  refine CF ai<|Wx ?_
  obtain rfl:=oi b
  obtain rfl:=af
  exact ⟨u,k,h6,d,S⟩
 intro f w hM
 rcases ac with ad | e
 ·obtain ⟨H9,aa,ba,bb,S⟩:=hM
  refine Ws<|Wg<|M' ba ?_
  refine WL.w (R.strL S bb rfl Tryz.underlying27 Tryz.underlying9 Tryz.underlying5)<|A<|A<|We ?_
  obtain rfl:=oi h
  refine WP.ret (Out.two rfl S rfl rfl ?_)
  exact rfl
 exact hM.elim
theorem zBg {j:World} {k:Hp} (hw:Holds j k) (hG:Tryz.Gl j) (i:Str) {r:(Int×Bool)} (h:zBT i=some r) :
  Con Tryz.prog 36 [(str i)] j k (fun H' v=>v=(.tuple ⟨[(int r.1),(boo r.2)]⟩)):=by
 refine CM 34 Tryz.func36 hw fun S=>?_
 refine Ws<|Wg<|A<|A<|We<|Ws<|Wg<|A<|We<|Ws<|Ws<|Wg ?_
 refine M<|Ns<|M<|We<|B h fun u af h=>WP.cut (fun f w=>∃ (x:Hp),f 0=(str i)∧f 4=(int u)∧St j k w x []) ?_ ?_
 ·refine Wb ?_
  refine WP.loopM (zBA i) (fun s f w=>match s with | (z,aa)=>∃ (o:Hp),f 0=(str i)∧f 4=(int z)∧f 7=(int (i.length:Int))∧f 8=(int aa)∧St j k w o []) (0,0) u (lfW af) ?_ ?_
  ·exact ⟨k,rfl,rfl,rfl,rfl,S⟩
  intro s f w hI ap b ah
  obtain ⟨z,aa⟩:=s
  obtain ⟨o,l,h4,h5,p,S⟩:=hI
  refine Ws<|Wg<|La' p h5<|We<|Ws ?_
  rcases condE b with ⟨q,b⟩ | ⟨q,b⟩
  ·refine CT q<|Wk<|Ws<|Wb<|Ws<|Wg<|M' p<|A<|We<|Ws<|Ws<|Wg ?_
   refine M' l<|M<|B b fun ad ai b=>Ja ai<|Ma ad 48<|M<|B b fun aj d b=>WL.grp 5 [16,17,18,19] 20 (boo aj) ?_ ?_
   ·rcases boolE (decide (ad<48)) with c | c
    ·replace d:=condT d c
     refine Gn c<|Gn c<|Gn c<|Gn c<|Pt c ?_
     exact We ⟨(ob d),ag,rfl⟩
    replace d:=condF d c
    refine Gy c<|M' l<|Gy c<|M<|Gy c<|B d fun ak al d=>Ja al<|Gy c<|Mc ak 57<|Pf c ?_
    exact We ⟨(ob d),ag,rfl⟩
   intro us
   refine We ?_
   rcases condE b with ⟨t,b⟩ | ⟨t,b⟩
   ·refine CT t ?_
    cases b
   refine CF t<|Wk<|Wg<|M' h4<|Li<|M' l<|M<|B b fun ae am b=>Ja am<|Mh ae 48 ?_
   refine WL.w (R.i64of8 (a:=ae - 48) rfl Tryz.underlying5 Tryz.underlying2)<|Lg<|Ni<|A<|We<|Wg<|Lg' p rfl<|M<|We ?_
   obtain rfl:=oi b
   exact ⟨rfl,⟨o,l,rfl,h5,rfl,S⟩⟩
  refine CF q<|Wx ?_
  obtain rfl:=oi b
  obtain rfl:=ah
  exact ⟨o,l,h4,S⟩
 rintro f w ⟨x,h9,ao,S⟩
 refine Ws<|Wg<|M' ao<|M' h9<|Nb<|A<|A<|We ?_
 obtain rfl:=oi h
 refine WP.ret (Out.two rfl S rfl rfl ?_)
 exact rfl
theorem zA5 {b:World} {d:Hp} (hw:Holds b d) (hG:Tryz.Gl b) (c:Int) {r:Str} (h:zAy c=some r) :
  Cs Tryz.prog 42 [(int c)] b d r:=by
 refine CM 6 Tryz.func42 hw fun S=>?_
 refine Ws<|Wg<|A<|We<|Ws<|Wg<|M<|B h fun j f h=>W.call S rfl (zBv S.holds (hG.post S.post) c f) ?_
 rintro k l o p S rfl
 refine B h fun q i h=>Je i<|A<|We ?_
 exact WP.ret (Rs h S)
theorem zBo {c:World} {i:Hp} (hw:Holds c i) (hG:Tryz.Gl c) (b:GOutput) (d:Int) {r:Str} (h:zBb b d=some r) :
  Cs Tryz.prog 37 [(agg [(str b.fToClient),(str b.fToOrigin)]),(int d)] c i r:=by
 refine CM 22 Tryz.func37 hw fun S=>?_
 refine Ws<|Wg ?_
 refine W.box [(str b.fToClient),(str b.fToOrigin)] S rfl rfl ?_
 intro k l S
 refine A<|We<|Ws<|Wb<|Ws<|Wg<|M<|Lf<|A<|We ?_
 rcases condE h with ⟨f,h⟩ | ⟨f,h⟩
 ·refine CT f<|Ws<|Wg<|M<|B h fun o j h=>W.call S rfl (zA5 S.holds (hG.post S.post) d j) ?_
  rintro p q t u S rfl
  refine A<|We ?_
  exact WP.ret (Rs h S)
 refine CF f ?_
 cases h
theorem zAv {b:World} {d:Hp} (hw:Holds b d) (hG:Tryz.Gl b) (f:List Str) {j:Value} (k:Sl d j f) {r:List Str} (h:zAV f=some r) :
  Con Tryz.prog 143 [j] b d (fun H' v=>Sl H' v r):=by
 unfold zAV at h
 refine CM 8 Tryz.func143 hw fun S=>?_
 refine Ws<|Wg<|A<|We<|Ws<|Ws<|Wg<|M ?_
 rcases Sl.nilE k with ⟨c,hv,hl⟩ | ⟨a,n,c,hv⟩
 ·refine WL.w (R.eqNil hv rfl Tryz.underlying87)<|We<|CT rfl<|Ws<|Wg<|A<|We ?_
  refine WP.ret (Out.one rfl S rfl ?_)
  subst hl
  obtain rfl:=oi h
  exact Sl.nil
 refine WL.w (R.eqNil hv rfl Tryz.underlying87)<|We<|CF rfl<|Wk<|Ws<|Wg<|W.bslice (α:=Str) (n:=0) (ps:=[]) [] [] S el87 rfl rfl rfl (by decide) (fun i v x h=>by cases h) ?_
 intro u q t l o S
 have Rp:=k.up l
 refine M<|W.app (α:=Str) (i:=0) S el87 rfl rfl rfl o Rp h ?_
 intro z w2 H2 ac p S
 refine A<|We ?_
 refine WP.ret (Out.one rfl S rfl ?_)
 exact p
theorem zAg {f ws:World} {k Hs:Hp} {l:List Ent} (hG:Tryz.Gl f) (s0_buf:(List UInt8)) {d:Value} {c:Nat} (S:St f k ws Hs (.box c 33 [(.pointer none),d] :: .row d 5 1 s0_buf.length :: l)) (R0_1:Sl Hs d s0_buf) {r:Unit} (h:zAp s0_buf=some r) :
  ConS Tryz.prog 19 [(ptr c 0)] f k ws Hs l (fun H' v L'=>∃ j:Value,L'=[.box c 33 [(ptr c 0),j],.row j 5 1 s0_buf.length]∧v=(.tuple #[])∧Sl H' j s0_buf):=by
 refine ConS.mk (N:=20) Tryz.func19 rfl rfl kr rfl<|Ws<|Wg<|M<|Nn<|Fb ?_
 refine Lo 0 S ?_
 refine WL.w (v:=boo true) (R.ofEq (R.eqlPN rfl rfl Tryz.underlying31) rfl)<|We<|WP.condT (b:=true) rfl rfl<|Wg<|M ?_
 refine M ?_
 refine WL.w (R.toUnsafe (i:=0) S rfl rfl Tryz.underlying31 Tryz.underlying66 lay33 (by decide) (by simp))<|W.noEscape Tryz.func32 rfl rfl kr kr rfl ?_
 refine WL.w (R.fromUnsafe (i:=0) S rfl rfl Tryz.underlying66 Tryz.underlying31 inf33 ceo33 (by simp))<|Nn<|Fb ?_
 refine W.store (i:=0) [(ptr c 0),d] S rfl rfl rfl lay31 rfl rfl (Nat.le_of_ble_eq_true rfl) rfl ?_
 intro o S
 refine We ?_
 obtain rfl:=oi h
 refine (OutS.zero (L':=[.box c 33 [(ptr c 0),d],.row d 5 1 s0_buf.length]) (.inr rfl) rfl lr S ?_)
 exact ⟨_,rfl,rfl,R0_1⟩
theorem zAe {f ws:World} {j Hs:Hp} {k:List Ent} (hG:Tryz.Gl f) (s0_buf:(List UInt8)) {d:Value} {c:Nat} (S:St f j ws Hs (.box c 33 [(ptr c 0),d] :: .row d 5 1 s0_buf.length :: k)) (R0_1:Sl Hs d s0_buf) {r:Unit} (h:zAm s0_buf=some r) :
  ConS Tryz.prog 19 [(ptr c 0)] f j ws Hs k (fun H' v L'=>∃ i:Value,L'=[.box c 33 [(ptr c 0),i],.row i 5 1 s0_buf.length]∧v=(.tuple #[])∧Sl H' i s0_buf):=by
 refine ConS.mk (N:=20) Tryz.func19 rfl rfl kr rfl<|Ws<|Wg<|M<|Nn<|Fb ?_
 refine Lo 0 S ?_
 refine WL.w (v:=boo false) (R.ofEq (R.eqlPN rfl rfl Tryz.underlying31) rfl)<|We<|WP.condF (b:=false) rfl rfl<|Ws<|Wg ?_
 refine M<|Nn<|Fb ?_
 refine Lo 0 S<|M ?_
 refine WL.w (R.neqPS rfl rfl Tryz.underlying31 inf33)<|We<|WP.condF (b:=false) rfl rfl<|Wk ?_
 obtain rfl:=oi h
 refine (OutS.zero (L':=[.box c 33 [(ptr c 0),d],.row d 5 1 s0_buf.length]) (.inr rfl) rfl lr S ?_)
 exact ⟨_,rfl,rfl,R0_1⟩
theorem zAQ {c ws:World} {o Hs:Hp} {p:List Ent} (hG:Tryz.Gl c) (s0_buf:List UInt8) {d va0:Value} {b:Nat} (S:St c o ws Hs (.box b 33 [va0,d] :: .row d 5 1 s0_buf.length :: p)) (R0_1:Sl Hs d s0_buf) (q:va0=Value.pointer none∨va0=ptr b 0) {r:Unit} (h:zAI s0_buf=some r) :
  ConS Tryz.prog 19 [(ptr b 0)] c o ws Hs p (fun H' v L'=>∃ f i:Value,L'=[.box b 33 [f,i],.row i 5 1 s0_buf.length]∧v=(.tuple #[])∧(f=Value.pointer none∨f=ptr b 0)∧Sl H' i s0_buf):=by
 rcases q with rfl | rfl
 ·exact ConS.mono (zAg hG s0_buf S R0_1 rfl) fun H' v L' ⟨u,j,k,l⟩=>⟨_,u,j,k,.inr rfl,l⟩
 exact ConS.mono (zAe hG s0_buf S R0_1 rfl) fun H' v L' ⟨u,j,k,l⟩=>⟨_,u,j,k,.inr rfl,l⟩
theorem zAD {c ws:World} {f Hs:Hp} {j:List Ent} (hG:Tryz.Gl c) (q:Str) (s0_buf:(List UInt8)) {d:Value} {va0:Value} {b:Nat} (S:St c f ws Hs (.box b 33 [va0,d] :: .row d 5 1 s0_buf.length :: j)) (R0_1:Sl Hs d s0_buf) (x:va0=Value.pointer none∨va0=ptr b 0) {r:(Int×Unit×(List UInt8))} (h:zAC q s0_buf=some r) :
  ConS Tryz.prog 12 [(ptr b 0),(str q)] c f ws Hs j (fun H' v L'=>∃ k l:Value,L'=[.box b 33 [k,l],.row l 5 1 r.2.2.length]∧v=(.tuple ⟨[(int r.1),.nilIface]⟩)∧(k=Value.pointer none∨k=ptr b 0)∧Sl H' l r.2.2):=by
 refine ConS.mk (N:=19) Tryz.func12 rfl rfl kr rfl<|Ws<|Wg<|A<|A<|We<|Ws<|Wg<|M ?_
 replace S:=S.front 1 rfl
 replace S:=S.front 1 rfl
 replace S:St c f _ Hs (.box b 33 [va0,d] :: .row d 5 1 s0_buf.length :: j):=S
 refine B h fun r1 z h=>W.callS rfl (zAQ hG s0_buf S R0_1 x z) ?_
 rintro v2 w3 H4 L6 ab S ⟨o,t,rfl,rfl,ac,ad⟩
 replace S:St c f _ H4 (.box b 33 [o,t] :: .row t 5 1 s0_buf.length :: j):=S
 refine We<|Ws<|Wg<|M<|M<|Nn<|Fb ?_
 refine Lo 0 S<|M<|B h fun ae af h=>W.appStr (i:=1) S el27 Tryz.underlying9 rfl rfl rfl ad af ?_
 intro p am an ah u S
 refine Nn<|Fb ?_
 refine W.storeSl (α:=UInt8) (i:=0) [o,p] S u rfl rfl rfl lay27 (Nat.le_of_ble_eq_true rfl) rfl ?_
 intro ao S
 refine We<|Ws<|Wg<|M<|Ns<|A<|A<|We ?_
 obtain rfl:=oi h
 refine WP.ret (OutS.two (L':=[.box b 33 [o,p],.row p 5 1 ae.length]) rfl (ab.trans ah) S rfl rfl ?_)
 exact ⟨_,_,rfl,rfl,ac,u⟩
end Go.Proofs
