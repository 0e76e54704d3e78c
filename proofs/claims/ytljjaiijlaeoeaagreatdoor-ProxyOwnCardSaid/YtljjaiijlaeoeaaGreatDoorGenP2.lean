/- A part. -/
import Derived.Test.YtljjaiijlaeoeaaGreatDoorEng38
import Derived.Test.YtljjaiijlaeoeaaGreatDoorEng36
import Derived.Test.YtljjaiijlaeoeaaGreatDoorGenP1
namespace Go.Proofs
set_option maxHeartbeats 4000000
set_option maxRecDepth 10000
open Go.Eng Go.Eng.Pure
set_option linter.unusedVariables false
theorem zAk {l:World} {o:Hp} (hw:Holds l o) (hG:Tryz.Gl l) (c:Str) {r:Str} (h:zA1 c=some r) :
  Cs Tryz.prog 189 [(str c)] l o r:=by
 refine CM 30 Tryz.func189 hw fun S=>?_
 refine Ws<|Wg<|A<|We<|Ws<|Wg<|M<|W.bytes (s:=c) S rfl Tryz.underlying9 Tryz.underlying206 Tryz.underlying5 ?_
 intro p z w3 ap S
 refine A<|We<|Ws<|Ws<|Wg<|M<|Nv<|M<|We<|B h fun q aj h=>WP.cut (fun f w=>∃ (af:Hp),f 3=(.slice (some ⟨p,0,none⟩) c.length z)∧q.length=c.length∧St l o w af [.box p 5 (q.map byt)]) ?_ ?_
 ·refine Wb ?_
  refine WP.loopM (zEX c) (fun s f w=>match s with | (aa,k)=>∃ (t:Hp),f 3=(.slice (some ⟨p,0,none⟩) c.length z)∧f 8=(.slice (some ⟨p,0,none⟩) c.length z)∧f 9=(int (c.length:Int))∧f 10=(int aa)∧k.length=c.length∧St l o w t [.box p 5 (k.map byt)]) (0,c) q (lfW aj) ?_ ?_
  ·exact ⟨o,rfl,rfl,rfl,rfl,rfl,S⟩
  intro s f w hI aq b ak
  obtain ⟨aa,k⟩:=s
  obtain ⟨t,x,h6,h7,u,v,S⟩:=hI
  refine Ws<|Wg<|La' u h7<|We<|Ws ?_
  rcases condE b with ⟨ad,b⟩ | ⟨ad,b⟩
  ·refine CT ad<|Wk<|Ws<|Wb<|Ws<|Wg<|M' u<|B b fun ar ah b=>?_
   have au:=(zDP ah).2
   refine WL.w (R.idxB h6 u el206 (by have:=(zDP ah).2; have hl:k.length=c.length:=v; omega))<|B b fun j al b=>?_
   refine WL.w (R.loadB (i:=0) S rfl rfl lay5 (zDP al).1)<|A<|A<|We<|Ws<|Wg<|M<|Md j 65<|M ?_
   refine WL.grp 3 [18,19] 20 (boo ((decide (65≤j))&&(decide (j≤90)))) ?_ ?_
   ·rcases boolE (decide (65≤j)) with d | d
    ·refine Gy d<|M<|Gy d<|Mb j 90<|Pt d ?_
     exact We ⟨(andT d),ag,rfl⟩
    refine Gn d<|Gn d<|Pf d ?_
    exact We ⟨(andF d),ag,rfl⟩
   intro us
   refine We ?_
   rcases condE b with ⟨ae,b⟩ | ⟨ae,b⟩
   ·refine CT ae<|Wg<|M' x<|M<|M<|Mg j 97<|Mh (j+97) 65<|B b fun av ai b=>?_
    have aw:=(zDP ai).2
    refine WL.w (R.idxB rfl rfl el206 (by have:=(zDP ai).2; have hl:k.length=c.length:=v; omega)) ?_
    refine W.store (i:=0) ((k.set aa.toNat ((j+97) - 65)).map byt) S rfl rfl rfl lay5 rfl rfl (by rw [List.length_map]; omega) (zID _ _ _ (by omega)) ?_
    intro ax S
    refine We<|Wg<|Lg' u rfl<|M<|We ?_
    obtain rfl:=oi b
    exact ⟨rfl,⟨t,x,h6,h7,rfl,(List.length_set.trans v),S⟩⟩
   refine CF ae<|Wk<|Wg<|Lg' u rfl<|M<|We ?_
   obtain rfl:=oi b
   exact ⟨rfl,⟨t,x,h6,h7,rfl,v,S⟩⟩
  refine CF ad<|Wx ?_
  obtain rfl:=oi b
  obtain rfl:=ak
  exact ⟨t,x,v,S⟩
 rintro f w ⟨af,am,an,S⟩
 refine Ws<|Wg<|M' am ?_
 refine WL.w (R.strB (i:=0) (s:=q) S (by rw [show q.length=c.length from an]; exact rfl) rfl Tryz.underlying206 Tryz.underlying9 Tryz.underlying5)<|A<|We ?_
 exact WP.ret (Rs h S)
theorem zAV {f:World} {d:Hp} (hw:Holds f d) (hG:Tryz.Gl f) (i:Str) (j:Str) {r:Bool} (h:zAp i j=some r) :
  Cb Tryz.prog 160 [(str i),(str j)] f d r:=by
 refine CM 17 Tryz.func160 hw fun S=>?_
 refine Ws<|Wg<|A<|We<|Ws<|Wg<|M<|Ns<|M<|Ns<|Le<|M<|B h fun k c h=>WL.grpw 6 [11,12,13,14,15] 16 (boo k) (fun w=>∃ H':Hp,d.le H'∧St f d w H' []) ?_ ?_
 ·rcases boolE ((i.length:Int)==(j.length:Int)) with b | b
  ·replace c:=condT c b
   refine Gy b<|M<|Gy b<|B c fun u l c=>W.call S rfl (zAk S.holds (hG.post S.post) i l) ?_
   rintro v x z o S rfl
   refine Gy b<|M<|Gy b<|B c fun r8 p c=>W.call S rfl (zAk S.holds (hG.post S.post) j p) ?_
   rintro v9 ac q t S rfl
   refine Gy b<|Na<|Pt b ?_
   exact We ⟨(ob c),ag,⟨q,(o.trans t),S⟩⟩
  replace c:=condF c b
  refine Gn b<|Gn b<|Gn b<|Gn b<|Gn b<|Pf b ?_
  exact We ⟨(ob c),ag,⟨d,lr,S⟩⟩
 intro us ad ⟨ae,af,S⟩
 refine A<|We ?_
 exact WP.ret (Rb h S)
theorem zA9 {j:World} {k:Hp} (hw:Holds j k) (hG:Tryz.Gl j) (i:Str) {r:(Int×Bool)} (h:zBM i=some r) :
  Con Tryz.prog 179 [(str i)] j k (fun H' v=>v=(.tuple ⟨[(int r.1),(boo r.2)]⟩)):=by
 refine CM 34 Tryz.func179 hw fun S=>?_
 refine Ws<|Wg<|A<|A<|We<|Ws<|Wg<|A<|We<|Ws<|Ws<|Wg ?_
 refine M<|Ns<|M<|We<|B h fun u af h=>WP.cut (fun f w=>∃ (x:Hp),f 0=(str i)∧f 4=(int u)∧St j k w x []) ?_ ?_
 ·refine Wb ?_
  refine WP.loopM (zEG i) (fun s f w=>match s with | (z,aa)=>∃ (o:Hp),f 0=(str i)∧f 4=(int z)∧f 7=(int (i.length:Int))∧f 8=(int aa)∧St j k w o []) (0,0) u (lfW af) ?_ ?_
  ·exact ⟨k,rfl,rfl,rfl,rfl,S⟩
  intro s f w hI ap b ah
  obtain ⟨z,aa⟩:=s
  obtain ⟨o,l,h4,h5,p,S⟩:=hI
  refine Ws<|Wg<|La' p h5<|We<|Ws ?_
  rcases condE b with ⟨q,b⟩ | ⟨q,b⟩
  ·refine CT q<|Wk<|Ws<|Wb<|Ws<|Wg<|M' p<|A<|We<|Ws<|Ws<|Wg ?_
   refine M' l<|M<|B b fun ad ai b=>Ja ai<|Ma ad 48<|M<|B b fun aj d b=>WL.grp 5 [16,17,18,19] 20 (boo aj) ?_ ?_
   ·rcases boolE (decide (ad<48)) with c | c
    ·replace d:=condT d c
     refine Gn c<|Gn c<|Gn c<|Gn c<|Pt c ?_
     exact We ⟨(ob d),ag,rfl⟩
    replace d:=condF d c
    refine Gy c<|M' l<|Gy c<|M<|Gy c<|B d fun ak al d=>Ja al<|Gy c<|Mc ak 57<|Pf c ?_
    exact We ⟨(ob d),ag,rfl⟩
   intro us
   refine We ?_
   rcases condE b with ⟨t,b⟩ | ⟨t,b⟩
   ·refine CT t ?_
    cases b
   refine CF t<|Wk<|Wg<|M' h4<|Li<|M' l<|M<|B b fun ae am b=>Ja am<|Mh ae 48 ?_
   refine WL.w (R.i64of8 (a:=ae - 48) rfl Tryz.underlying5 Tryz.underlying2)<|Lg<|Ni<|A<|We<|Wg<|Lg' p rfl<|M<|We ?_
   obtain rfl:=oi b
   exact ⟨rfl,⟨o,l,rfl,h5,rfl,S⟩⟩
  refine CF q<|Wx ?_
  obtain rfl:=oi b
  obtain rfl:=ah
  exact ⟨o,l,h4,S⟩
 rintro f w ⟨x,h9,ao,S⟩
 refine Ws<|Wg<|M' ao<|M' h9<|Nb<|A<|A<|We ?_
 obtain rfl:=oi h
 refine WP.ret (Out.two rfl S rfl rfl ?_)
 exact rfl
theorem zEl {i:World} {j:Hp} (hw:Holds i j) (hG:Tryz.Gl i) (c:GField) (f:Str) {k:Addr} (l:At j k [(str f)]) {r:Bool} (h:zDU c f=some r) :
  Cb Tryz.prog 237 [(agg [(str c.fName),(str c.fValue)]),(.pointer (some k))] i j r:=by
 refine CM 17 Tryz.func237 hw fun S=>?_
 refine Ws<|Wg ?_
 refine W.box [(str c.fName),(str c.fValue)] S rfl rfl ?_
 intro t u S
 refine A<|We<|Ws<|WP.quiet S kr kr<|QFb ?_
 refine QB 0 (str c.fName)<|QNs ?_
 refine QH (str f) l<|QNs<|QLe<|QM<|B h fun o d h=>WQ.grp 6 [11,12,13,14,15] 16 (boo o) ?_ ?_
 ·rcases boolE ((c.fName.length:Int)==(f.length:Int)) with b | b
  ·replace d:=condT d b
   refine QGy b<|QFb<|QGy b ?_
   refine QB 0 (str c.fName)<|QGy b<|B d fun p q d=>WQ.call (v:=str p) rfl (fun w H' hq S=>zAk S.holds (hG.post S.post) c.fName q)<|QGy b ?_
   refine QH (str f) l<|QGy b<|QNa<|QPt b ?_
   exact WQ.nil ⟨(ob d),ag⟩
  replace d:=condF d b
  refine QGn b<|QGn b<|QGn b<|QGn b<|QGn b<|QPf b ?_
  exact WQ.nil ⟨(ob d),ag⟩
 intro us
 refine QA<|WQ.nil ?_
 intro x z aa S
 exact WP.ret (Rb h S)
theorem zAl {d:World} {j:Hp} (hw:Holds d j) (hG:Tryz.Gl d) (f:Str) {r:(GField→Option Bool)} (h:zBD f=some r) :
  Con Tryz.prog 172 [(str f)] d j (fun H' v=>∃ (k:FuncId) (c:List Value),v=.func (.func k) #[] c.toArray∧∀ {w:World} {H:Hp},H'.le H→Holds w H→Tryz.Gl w→∀ (b:GField) (rr:Bool),r b=some rr→Con Tryz.prog k ([(agg [(str b.fName),(str b.fValue)])]++c) w H (fun H' v=>v=(boo rr))):=by
 refine CM 6 Tryz.func172 hw fun S=>?_
 refine Ws<|Wg ?_
 refine W.box [(str f)] S rfl rfl ?_
 intro l x S
 refine A<|We<|Ws<|Wg ?_
 refine Lo 0 S<|B h fun o q h=>W.call S rfl (zAk S.holds (hG.post S.post) f q) ?_
 rintro z w5 H6 ac S rfl
 refine W.store (i:=0) [(str o)] S rfl rfl rfl lay9 rfl rfl (Nat.le_of_ble_eq_true rfl) rfl ?_
 intro w8 S
 refine We<|Ws<|Wg ?_
 obtain ⟨p,ae,t,_,S⟩:=S.settle (i:=0) rfl
 replace S:St d j _ p []:=S
 have u:At p ⟨l,0,none⟩ [(str o)]:=⟨_,_,rfl,t,[],by simp⟩
 refine WL.w (R.mkFunc (vs:=[(.pointer (some ⟨l,0,none⟩))]) rfl)<|A<|We ?_
 obtain rfl:=oi h
 refine WP.ret (Out.one rfl S rfl ?_)
 exact ⟨_,[(.pointer (some ⟨l,0,none⟩))],rfl,fun hle hw hG b r h=>zEl hw hG b o (At.mono u hle (by simp)) h⟩
theorem zBc {o:World} {k:Hp} (hw:Holds o k) (hG:Tryz.Gl o) (p:(List GField)) (z:(GField→Option Bool)) {t:Value} {kp_keep:FuncId} {cp_keep:List Value} (c:Sl k t p) (Fp_keep:∀ {w:World} {H:Hp},k.le H→Holds w H→Tryz.Gl w→∀ (x0:GField) (rr:Bool),z x0=some rr→Con Tryz.prog kp_keep ([(agg [(str x0.fName),(str x0.fValue)])]++cp_keep) w H (fun H' v=>v=(boo rr))) {r:(List GField)} (h:zA3 p z=some r) :
  Con Tryz.prog 171 [t,(.func (.func kp_keep) #[] cp_keep.toArray)] o k (fun H' v=>Sl H' v r):=by
 refine CM 23 Tryz.func171 hw fun S=>?_
 refine Ws<|Wg<|A<|We<|Ws<|Wg<|A<|We<|Ws<|Ws<|Wg<|M ?_
 refine Nq c<|M<|We ?_
 have S:=S.addNil 68 2
 refine B h fun ab am h=>WP.cut (fun f w=>∃ (ac:Hp) (u:Value),f 5=u∧Sl ac u ab∧St o k w ac [.row u 68 2 ab.length]) ?_ ?_
 ·refine Wb ?_
  refine WP.loopM (zBY p z) (fun s f w=>match s with | (ad,al)=>∃ (q:Hp) (l:Value),f 1=(.func (.func kp_keep) #[] cp_keep.toArray)∧f 5=l∧f 8=t∧f 9=(int (p.length:Int))∧f 10=(int al)∧Sl q l ad∧Sl q t p∧St o k w q [.row l 68 2 ad.length]) (([]:List GField),0) ab (lfW am) ?_ ?_
  ·exact ⟨k,.slice none 0 0,rfl,rfl,rfl,rfl,rfl,Sl.nil,c,S⟩
  intro s f w hI a4 b an
  obtain ⟨ad,al⟩:=s
  obtain ⟨q,l,h2,h6,h7,h8,x,j,c,S⟩:=hI
  refine Ws<|Wg<|La' x h8<|We<|Ws ?_
  rcases condE b with ⟨aj,b⟩ | ⟨aj,b⟩
  ·refine CT aj<|Wk<|Ws<|Wb<|Ws<|Wg<|B b fun d ao b=>W.idx (α:=GField) c h7 x el22 ao ?_
   rintro a5 _ ap rfl
   refine WL.w (R.loadHN (vs:=[(str d.fName),(str d.fValue)]) S rfl ap lay68 rfl rfl) ?_
   refine W.alloc [(str []),(str [])] S zer68 ?_
   intro a6 a7 S
   refine W.store (i:=0) [(str d.fName),(str d.fValue)] S rfl rfl rfl lay68 rfl rfl (Nat.le_of_ble_eq_true rfl) rfl ?_
   intro a8 S
   refine We<|Ws<|Wg<|M' h2 ?_
   refine WL.w (R.loadBN (i:=0) (vs:=[(str d.fName),(str d.fValue)]) S rfl rfl lay68 rfl rfl)<|B b fun a9 aq b=>W.callv S rfl rfl (Fp_keep (S.post.le) S.holds (hG.post S.post) d _ aq) ?_
   rintro ba bb ar au S rfl
   have ⟨j,c⟩:=U2 au j c
   refine We ?_
   rcases condE b with ⟨ak,b⟩ | ⟨ak,b⟩
   ·refine CT ak<|Wg<|M' h6 ?_
    refine WL.w (R.loadBN (i:=0) (vs:=[(str d.fName),(str d.fValue)]) S rfl rfl lay68 rfl rfl)<|W.bslice (α:=GField) [(agg [(str d.fName),(str d.fValue)])] ([d]:List GField) S el22 rfl rfl rfl (by decide) (Go.Eng.encS ⟨rfl,rfl⟩ enc0) ?_
    intro bc bd be av aw S
    have ⟨j,c⟩:=U2 av j c
    refine B b fun bf ax b=>W.app (α:=GField) (i:=2) S el22 rfl rfl rfl j aw ax ?_
    intro ay bg az a0 a1 S
    have ⟨j,c⟩:=U2 a0 j c
    refine A<|We<|Wg<|Lg' x rfl<|M<|We ?_
    obtain rfl:=oi b
    exact ⟨rfl,⟨az,ay,h2,rfl,h7,h8,rfl,a1,c,(S.pk [2])⟩⟩
   refine CF ak<|Wk<|Wg<|Lg' x rfl<|M<|We ?_
   obtain rfl:=oi b
   exact ⟨rfl,⟨ar,l,h2,h6,h7,h8,rfl,j,c,(S.pk [1])⟩⟩
  refine CF aj<|Wx ?_
  obtain rfl:=oi b
  obtain rfl:=an
  exact ⟨q,l,h6,j,S⟩
 rintro f w ⟨ac,u,a2,a3,S⟩
 refine Ws<|Wg<|M' a2<|A<|We ?_
 exact WP.ret (Rl h S a3)
theorem zB2 {k:World} {l:Hp} (hw:Holds k l) (hG:Tryz.Gl k) (t:(List GField)) (u:Str) {af:Value} (x:Sl l af t) {r:(List Str)} (h:zB5 t u=some r) :
  Con Tryz.prog 138 [af,(str u)] k l (fun H' v=>Sl H' v r):=by
 refine CM 24 Tryz.func138 hw fun S=>?_
 refine Ws<|Wg<|A<|We<|Ws<|Wg<|A<|We<|Ws<|Ws<|Wg<|M ?_
 refine M<|B h fun r1 an h=>W.call S rfl (zAl S.holds (hG.post S.post) u an) ?_
 rintro v2 w3 H4 ao S ⟨kr1,cr1,rfl,Fr1⟩
 have x:=x.up ao
 refine B h fun z ap h=>W.call S rfl (zBc S.holds (hG.post S.post) t r1 x (fun hle=>Fr1 (Hp.le.trans lr hle)) ap) ?_
 rintro v7 w8 H9 ba S b
 refine Nq b<|M<|We ?_
 have S:=S.addNil 9 1
 refine B h fun aa ar h=>WP.cut (fun f w=>∃ (ab:Hp) (q:Value),f 5=q∧Sl ab q aa∧St k l w ab [.row q 9 1 aa.length]) ?_ ?_
 ·refine Wb ?_
  refine WP.loopM (zDs z) (fun s f w=>match s with | (ac,ai)=>∃ (o:Hp) (p:Value),f 5=p∧f 11=v7∧f 12=(int (z.length:Int))∧f 13=(int ai)∧Sl o p ac∧Sl o v7 z∧St k l w o [.row p 9 1 ac.length]) (([]:List Str),0) aa (lfW ar) ?_ ?_
  ·exact ⟨H9,.slice none 0 0,rfl,rfl,rfl,rfl,Sl.nil,b,S⟩
  intro s f w hI bb c au
  obtain ⟨ac,ai⟩:=s
  obtain ⟨o,p,aj,ak,al,ad,d,b,S⟩:=hI
  refine Ws<|Wg<|La' ad al<|We<|Ws ?_
  rcases condE c with ⟨ae,c⟩ | ⟨ae,c⟩
  ·refine CT ae<|Wk<|Ws<|Wb<|Ws<|Wg<|B c fun j av c=>W.idx (α:=GField) b ak ad el22 av ?_
   rintro bc _ aw rfl
   refine WL.w (R.loadHN (vs:=[(str j.fName),(str j.fValue)]) S rfl aw lay68 rfl rfl) ?_
   refine W.alloc [(str []),(str [])] S zer68 ?_
   intro bd be S
   refine W.store (i:=0) [(str j.fName),(str j.fValue)] S rfl rfl rfl lay68 rfl rfl (Nat.le_of_ble_eq_true rfl) rfl ?_
   intro bf S
   refine We<|Wg<|M' aj<|Fb ?_
   refine Lo 0 S<|W.bslice (α:=Str) [(str j.fValue)] ([j.fValue]:List Str) S el45 rfl rfl rfl (by decide) (Go.Eng.encS ⟨rfl,rfl⟩ enc0) ?_
   intro bg bh bi ax ay S
   have ⟨d,b⟩:=U2 ax d b
   refine B c fun bj az c=>W.app (α:=Str) (i:=2) S el45 rfl rfl rfl d ay az ?_
   intro a0 bk a1 a2 a3 S
   have ⟨d,b⟩:=U2 a2 d b
   refine A<|We<|Wg<|Lg' ad rfl<|M<|We ?_
   obtain rfl:=oi c
   exact ⟨rfl,⟨a1,a0,rfl,ak,al,rfl,a3,b,(S.pk [2])⟩⟩
  refine CF ae<|Wx ?_
  obtain rfl:=oi c
  obtain rfl:=au
  exact ⟨o,p,aj,d,S⟩
 rintro f w ⟨ab,q,a4,a5,S⟩
 refine Ws<|Wg<|M' a4<|A<|We ?_
 exact WP.ret (Rl h S a5)
end Go.Proofs
