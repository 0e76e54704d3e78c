/- A part. -/
import Derived.Test.YtipgfplekgdoiaaGreatDoorEng38
import Derived.Test.YtipgfplekgdoiaaGreatDoorEng36
import Derived.Test.YtipgfplekgdoiaaGreatDoorGenK4
namespace Go.Proofs
set_option maxHeartbeats 4000000
set_option maxRecDepth 10000
open Go.Eng Go.Eng.Pure
set_option linter.unusedVariables false
theorem zJw {w0 ws:World} {H0 Hs:Hp} {L2:List Ent} (a9:GTable) {au:Value} {a1:Value} (S:St w0 H0 ws Hs (L2)) (b:Sl Hs au a9.fAxes) (c:Sl Hs a1 a9.fEntries) {r:GTable} (h:zHu a9=some r) :
  ConS Tryz.prog 18 [(agg [au,a1])] w0 H0 ws Hs L2 (fun H' v L'=>∃ u1 u2:Value,∃ e1:Ent,L'=[e1]∧v=(agg [u1,u2])∧Sl H' u1 r.fAxes∧MR (α:=GEntry) H' e1 36 u2 r.fEntries):=by
 refine ConS.mk (N:=51) Tryz.func18 rfl rfl kr rfl<|Ws<|Wg ?_
 refine W.box [au,a1] S rfl rfl ?_
 intro b1 w2 S
 refine W.alloc [(.slice none 0 0),(.slice none 0 0)] S zer25 ?_
 intro b3 w4 S
 refine We<|Ws<|Wg ?_
 refine W.alloc [(.slice none 0 0),(.slice none 0 0)] S zer25 ?_
 intro b5 w6 S
 refine We<|Ws<|Ws<|Wg<|A<|We ?_
 obtain ⟨v7,ee⟩:∃ v:Value,v=.slice none 0 0:=⟨_,rfl⟩
 have R9:Sl (α:=GAxis) Hs v7 []:=by rw [ee]; exact Sl.nil
 replace S:=(show ∀ {w:World},St w0 H0 w Hs (.box b5 25 [(.slice none 0 0),(.slice none 0 0)] :: .box b3 25 [(.slice none 0 0),(.slice none 0 0)] :: .box b1 25 [au,a1] :: L2)→St w0 H0 w Hs (.box b5 25 [v7,(.slice none 0 0)] :: .box b3 25 [(.slice none 0 0),(.slice none 0 0)] :: .box b1 25 [au,a1] :: L2) from fun S=>by rw [ee]; exact S) S
 replace S:=St.addNilV ee S 68 2
 obtain ⟨dp,ef⟩:∃ v:Value,v=.slice none 0 0:=⟨_,rfl⟩
 have g2:MR (α:=GEntry) Hs (.row dp 36 8 0) 36 dp []:=by rw [ef]; exact MR.nil
 replace S:=(show ∀ {w:World},St w0 H0 w Hs (.row v7 68 2 ([]:List GAxis).length :: .box b5 25 [v7,(.slice none 0 0)] :: .box b3 25 [(.slice none 0 0),(.slice none 0 0)] :: .box b1 25 [au,a1] :: L2)→St w0 H0 w Hs (.row v7 68 2 ([]:List GAxis).length :: .box b5 25 [v7,dp] :: .box b3 25 [(.slice none 0 0),(.slice none 0 0)] :: .box b1 25 [au,a1] :: L2) from fun S=>by rw [ef]; exact S) S
 replace S:=St.addNilV ef S 36 8
 refine B h fun eg g3 h=>WP.cut (fun f w=>match eg with | (d3,eh)=>∃ (bx:Hp) (dq:Value) (d4:Value) (d5:Ent),f 1=(ptr b1 0)∧f 2=(ptr b3 0)∧f 3=(ptr b5 0)∧Sl bx dq d3∧MR (α:=GEntry) bx d5 36 d4 eh∧Sl bx au a9.fAxes∧Sl bx a1 a9.fEntries∧Hp.le Hs bx∧St w0 H0 w bx (d5 :: .row dq 68 2 d3.length :: .box b5 25 [dq,d4] :: .box b3 25 [(.slice none 0 0),(.slice none 0 0)] :: .box b1 25 [au,a1] :: L2)) ?_ ?_
 ·refine Wb ?_
  refine WP.loopM (zEU a9) (fun s f w=>match s with | (dr,ei,ej)=>∃ (ad:Hp) (ds:Value) (ae:Value) (ck:Ent),f 1=(ptr b1 0)∧f 2=(ptr b3 0)∧f 3=(ptr b5 0)∧f 4=(int dr)∧Sl ad ds ei∧MR (α:=GEntry) ad ck 36 ae ej∧Sl ad au a9.fAxes∧Sl ad a1 a9.fEntries∧Hp.le Hs ad∧St w0 H0 w ad (ck :: .row ds 68 2 ei.length :: .box b5 25 [ds,ae] :: .box b3 25 [(.slice none 0 0),(.slice none 0 0)] :: .box b1 25 [au,a1] :: L2)) (0,([]:List GAxis),([]:List GEntry)) eg g3 ?_ ?_
  ·exact ⟨Hs,v7,dp,(.row dp 36 8 0),rfl,rfl,rfl,rfl,R9,g2,b,c,lr,S⟩
  intro s f w hI jt bb g4
  obtain ⟨dr,ei,ej⟩:=s
  obtain ⟨ad,ds,ae,ck,al,aw,q,aq,k,d,b,c,ax,S⟩:=hI
  refine Ws<|Ws<|Wg<|M' aq<|Fb' al ?_
  refine Lo 4 S<|Nq b<|La<|We ?_
  rcases condE bb with ⟨ek,bb⟩ | ⟨ek,bb⟩
  ·refine CT ek<|Wk<|Ws<|Wb<|B bb fun o bt bb=>B bb fun ju dt bb=>B bb fun a2 bf bb=>B bb fun fl a3 bb=>WP.cut (fun f w=>∃ (bz:Hp) (du:Value),f 1=(ptr b1 0)∧f 2=(ptr b3 0)∧f 3=(ptr b5 0)∧f 4=(int dr)∧Sl bz du fl∧MR (α:=GEntry) bz ck 36 ae ej∧Sl bz au a9.fAxes∧Sl bz a1 a9.fEntries∧Hp.le Hs bz∧St w0 H0 w bz (ck :: .row du 68 2 fl.length :: .box b5 25 [du,ae] :: .box b3 25 [(.slice none 0 0),(.slice none 0 0)] :: .box b1 25 [au,a1] :: L2)) ?_ ?_
   ·refine WP.drawC (Cl w0 H0 ad [.box b3 25 [(.slice none 0 0),(.slice none 0 0)],.box b1 25 [au,a1]]) kr 20 rfl (bm 20 0) rfl ?_
    have S:=S.drew
    refine Ct 0 20 1 rfl (fun _ _=>(R.fieldB q zBw)) ?_
    refine Ct 2 20 5 rfl (fun _ _=>(R.fieldB al zBw)) ?_
    refine Ct 3 20 13 rfl (fun w hw=>by obtain ⟨_,hq,S⟩:=hw; exact (R.loadB (i:=1) (v:=au) S rfl rfl lay22 rfl)) ?_
    refine Ct 4 20 29 rfl (fun _ _=>(R.mv (v:=int dr) aq)) ?_
    refine Ct 8 20 285 rfl (fun _ _=>(R.fieldB al zBw)) ?_
    refine Ct 9 20 797 rfl (fun w hw=>by obtain ⟨_,hq,S⟩:=hw; exact (R.loadB (i:=1) (v:=au) S rfl rfl lay22 rfl)) ?_
    refine Ct 10 20 1821 rfl (fun _ _=>(R.mv (v:=int dr) aq)) ?_
    refine Cx [1,5,11] ⟨ad,lr,(S.pk [3,4])⟩ (allS ?_ (allS ?_ (all1 ?_)))
    ·refine Nx 20 1823 rfl ?_
     refine Lo 2 S<|We ?_
     refine Cx [5,11] ⟨ad,lr,(S.pk [3,4])⟩ (allS ?_ (all1 ?_))
     ·refine Nx 20 1855 rfl<|W.idx (α:=GAxis) b rfl rfl el22 bt ?_
      rintro jv _ g5 ⟨jw,rfl,jx⟩
      refine We ?_
      refine Ct 6 20 1919 rfl (fun _ _=>(R.field rfl zFB)) ?_
      have g6:=At.add g5 0 (by simp)
      refine Ct 7 20 2047 rfl (fun w hw=>by obtain ⟨_,hq,S⟩:=hw; exact (R.loadH (v:=str o.fName) S rfl (At.mono g6 hq (by simp)) lay9 rfl)) ?_
      refine Cx [11] ⟨ad,lr,(S.pk [3,4])⟩ (all1 ?_)
      refine Nx 20 4095 rfl<|W.idx (α:=GAxis) b rfl rfl el22 dt ?_
      rintro jy _ g7 ⟨g8,rfl,g9⟩
      refine We ?_
      refine Ct 12 20 8191 rfl (fun _ _=>(R.field rfl zHP)) ?_
      have ha:=At.add g7 1 (by simp)
      refine Ct 13 20 16383 rfl (fun w hw=>by obtain ⟨_,hq,S⟩:=hw; exact (R.loadH (v:=g8) S rfl (At.mono ha hq (by simp)) lay34 rfl)) ?_
      refine Cx [14] ⟨ad,lr,(S.pk [3,4])⟩ (all1 ?_)
      refine Nx 20 32767 rfl ?_
      have S:=S.addNil 9 1
      refine W.app (α:=Str) (i:=0) S el34 rfl rfl rfl Sl.nil g9 bf ?_
      intro el jz hb b0 fm S
      have ⟨b,k⟩:=U2 b0 b k
      have d:=MR.mono d b0
      have c:=c.up b0
      refine We ?_
      refine Ct 15 20 65535 rfl (fun _ _=>(R.build [(0,(str o.fName)),(1,el)] [(str o.fName),el] bp68 zer68 rfl (by obtain ⟨_,_,rfl,_⟩:=fm; rfl))) ?_
      refine Cx [16] ⟨hb,b0,(S.pk [4,5])⟩ (all1 ?_)
      refine Nx 20 131071 rfl<|W.bslice (α:=GAxis) [(agg [(str o.fName),el])] ([(⟨o.fName,a2⟩:GAxis)]:List GAxis) S el22 rfl rfl rfl (by decide) (Go.Eng.encS ⟨rfl,_,rfl,fm⟩ enc0) ?_
      intro j0 j1 hc cl he S
      have ⟨b,k⟩:=U2 cl b k
      have d:=MR.mono d cl
      have c:=c.up cl
      refine We ?_
      refine Cx [17] ⟨hc,(b0.trans cl),(S.pk [5,6])⟩ (all1 ?_)
      refine Nx 20 262143 rfl<|W.app (α:=GAxis) (i:=3) S el22 rfl rfl rfl k he a3 ?_
      intro fn j2 em c3 fo S
      have ⟨b,k⟩:=U2 c3 b k
      have d:=MR.mono d c3
      have c:=c.up c3
      refine We ?_
      refine Ct 18 20 524287 rfl (fun _ _=>(R.fieldB q zBw)) ?_
      refine Cx [19] ⟨em,((b0.trans cl).trans c3),(S.pk [5,6])⟩ (all1 ?_)
      refine Nx 20 1048575 rfl ?_
      refine W.storeSl (α:=GAxis) (i:=4) [fn,ae] S fo rfl rfl rfl lay22 (Nat.le_of_ble_eq_true rfl) rfl ?_
      intro j3 S
      refine We<|WC.done ⟨em,((b0.trans cl).trans c3),(S.pk [5,6])⟩ kr ?_
      exact ⟨em,fn,al,aw,q,aq,fo,d,b,c,(((ax.trans b0).trans cl).trans c3),(S.pt 7 [2,3,4,5,6])⟩
     refine Nx 20 3871 rfl<|W.idx (α:=GAxis) b rfl rfl el22 dt ?_
     rintro j4 _ hf ⟨hg,rfl,b2⟩
     refine We ?_
     refine Ct 12 20 7967 rfl (fun _ _=>(R.field rfl zHP)) ?_
     have hh:=At.add hf 1 (by simp)
     refine Ct 13 20 16159 rfl (fun w hw=>by obtain ⟨_,hq,S⟩:=hw; exact (R.loadH (v:=hg) S rfl (At.mono hh hq (by simp)) lay34 rfl)) ?_
     refine Cx [5,14] ⟨ad,lr,(S.pk [3,4])⟩ (allS ?_ (all1 ?_))
     ·refine Nx 20 16191 rfl<|W.idx (α:=GAxis) b rfl rfl el22 bt ?_
      rintro j5 _ hi ⟨j6,rfl,j7⟩
      refine We ?_
      refine Ct 6 20 16255 rfl (fun _ _=>(R.field rfl zFB)) ?_
      have hj:=At.add hi 0 (by simp)
      refine Ct 7 20 16383 rfl (fun w hw=>by obtain ⟨_,hq,S⟩:=hw; exact (R.loadH (v:=str o.fName) S rfl (At.mono hj hq (by simp)) lay9 rfl)) ?_
      refine Cx [14] ⟨ad,lr,(S.pk [3,4])⟩ (all1 ?_)
      refine Nx 20 32767 rfl ?_
      have S:=S.addNil 9 1
      refine W.app (α:=Str) (i:=0) S el34 rfl rfl rfl Sl.nil b2 bf ?_
      intro en j8 hk b4 fp S
      have ⟨b,k,b2⟩:=U3 b4 b k b2
      have d:=MR.mono d b4
      have c:=c.up b4
      refine We ?_
      refine Ct 15 20 65535 rfl (fun _ _=>(R.build [(0,(str o.fName)),(1,en)] [(str o.fName),en] bp68 zer68 rfl (by obtain ⟨_,_,rfl,_⟩:=fp; rfl))) ?_
      refine Cx [16] ⟨hk,b4,(S.pk [4,5])⟩ (all1 ?_)
      refine Nx 20 131071 rfl<|W.bslice (α:=GAxis) [(agg [(str o.fName),en])] ([(⟨o.fName,a2⟩:GAxis)]:List GAxis) S el22 rfl rfl rfl (by decide) (Go.Eng.encS ⟨rfl,_,rfl,fp⟩ enc0) ?_
      intro j9 ka hl cm hm S
      have ⟨b,k,b2⟩:=U3 cm b k b2
      have d:=MR.mono d cm
      have c:=c.up cm
      refine We ?_
      refine Cx [17] ⟨hl,(b4.trans cm),(S.pk [5,6])⟩ (all1 ?_)
      refine Nx 20 262143 rfl<|W.app (α:=GAxis) (i:=3) S el22 rfl rfl rfl k hm a3 ?_
      intro fq kb eo c4 fr S
      have ⟨b,k,b2⟩:=U3 c4 b k b2
      have d:=MR.mono d c4
      have c:=c.up c4
      refine We ?_
      refine Ct 18 20 524287 rfl (fun _ _=>(R.fieldB q zBw)) ?_
      refine Cx [19] ⟨eo,((b4.trans cm).trans c4),(S.pk [5,6])⟩ (all1 ?_)
      refine Nx 20 1048575 rfl ?_
      refine W.storeSl (α:=GAxis) (i:=4) [fq,ae] S fr rfl rfl rfl lay22 (Nat.le_of_ble_eq_true rfl) rfl ?_
      intro kc S
      refine We<|WC.done ⟨eo,((b4.trans cm).trans c4),(S.pk [5,6])⟩ kr ?_
      exact ⟨eo,fq,al,aw,q,aq,fr,d,b,c,(((ax.trans b4).trans cm).trans c4),(S.pt 7 [2,3,4,5,6])⟩
     refine Nx 20 32543 rfl ?_
     have S:=S.addNil 9 1
     refine W.app (α:=Str) (i:=0) S el34 rfl rfl rfl Sl.nil b2 bf ?_
     intro ep kd eq bk fs S
     have ⟨b,k⟩:=U2 bk b k
     have d:=MR.mono d bk
     have c:=c.up bk
     refine We ?_
     refine Cx [5] ⟨eq,bk,(S.pk [4,5])⟩ (all1 ?_)
     refine Nx 20 32575 rfl<|W.idx (α:=GAxis) b rfl rfl el22 bt ?_
     rintro ke _ hn ⟨kf,rfl,kg⟩
     refine We ?_
     refine Ct 6 20 32639 rfl (fun _ _=>(R.field rfl zFB)) ?_
     have ho:=At.add hn 0 (by simp)
     refine Cx [7] ⟨eq,bk,(S.pk [4,5])⟩ (all1 ?_)
     refine Nx 20 32767 rfl ?_
     refine Lq S ho<|We ?_
     refine Ct 15 20 65535 rfl (fun _ _=>(R.build [(0,(str o.fName)),(1,ep)] [(str o.fName),ep] bp68 zer68 rfl (by obtain ⟨_,_,rfl,_⟩:=fs; rfl))) ?_
     refine Cx [16] ⟨eq,bk,(S.pk [4,5])⟩ (all1 ?_)
     refine Nx 20 131071 rfl<|W.bslice (α:=GAxis) [(agg [(str o.fName),ep])] ([(⟨o.fName,a2⟩:GAxis)]:List GAxis) S el22 rfl rfl rfl (by decide) (Go.Eng.encS ⟨rfl,_,rfl,fs⟩ enc0) ?_
     intro kh ki hp cn hr S
     have ⟨b,k⟩:=U2 cn b k
     have d:=MR.mono d cn
     have c:=c.up cn
     refine We ?_
     refine Cx [17] ⟨hp,(bk.trans cn),(S.pk [5,6])⟩ (all1 ?_)
     refine Nx 20 262143 rfl<|W.app (α:=GAxis) (i:=3) S el22 rfl rfl rfl k hr a3 ?_
     intro ft kj er c5 fu S
     have ⟨b,k⟩:=U2 c5 b k
     have d:=MR.mono d c5
     have c:=c.up c5
     refine We ?_
     refine Ct 18 20 524287 rfl (fun _ _=>(R.fieldB q zBw)) ?_
     refine Cx [19] ⟨er,((bk.trans cn).trans c5),(S.pk [5,6])⟩ (all1 ?_)
     refine Nx 20 1048575 rfl ?_
     refine W.storeSl (α:=GAxis) (i:=4) [ft,ae] S fu rfl rfl rfl lay22 (Nat.le_of_ble_eq_true rfl) rfl ?_
     intro kk S
     refine We<|WC.done ⟨er,((bk.trans cn).trans c5),(S.pk [5,6])⟩ kr ?_
     exact ⟨er,ft,al,aw,q,aq,fu,d,b,c,(((ax.trans bk).trans cn).trans c5),(S.pt 7 [2,3,4,5,6])⟩
    ·refine Nx 20 1853 rfl<|W.idx (α:=GAxis) b rfl rfl el22 bt ?_
     rintro kl _ hs ⟨km,rfl,kn⟩
     refine We ?_
     refine Ct 6 20 1917 rfl (fun _ _=>(R.field rfl zFB)) ?_
     have ht:=At.add hs 0 (by simp)
     refine Ct 7 20 2045 rfl (fun w hw=>by obtain ⟨_,hq,S⟩:=hw; exact (R.loadH (v:=str o.fName) S rfl (At.mono ht hq (by simp)) lay9 rfl)) ?_
     refine Cx [1,11] ⟨ad,lr,(S.pk [3,4])⟩ (allS ?_ (all1 ?_))
     ·refine Nx 20 2047 rfl ?_
      refine Lo 2 S<|We ?_
      refine Cx [11] ⟨ad,lr,(S.pk [3,4])⟩ (all1 ?_)
      refine Nx 20 4095 rfl<|W.idx (α:=GAxis) b rfl rfl el22 dt ?_
      rintro ko _ hu ⟨hv,rfl,hx⟩
      refine We ?_
      refine Ct 12 20 8191 rfl (fun _ _=>(R.field rfl zHP)) ?_
      have hy:=At.add hu 1 (by simp)
      refine Ct 13 20 16383 rfl (fun w hw=>by obtain ⟨_,hq,S⟩:=hw; exact (R.loadH (v:=hv) S rfl (At.mono hy hq (by simp)) lay34 rfl)) ?_
      refine Cx [14] ⟨ad,lr,(S.pk [3,4])⟩ (all1 ?_)
      refine Nx 20 32767 rfl ?_
      have S:=S.addNil 9 1
      refine W.app (α:=Str) (i:=0) S el34 rfl rfl rfl Sl.nil hx bf ?_
      intro es kp hz b6 fv S
      have ⟨b,k⟩:=U2 b6 b k
      have d:=MR.mono d b6
      have c:=c.up b6
      refine We ?_
      refine Ct 15 20 65535 rfl (fun _ _=>(R.build [(0,(str o.fName)),(1,es)] [(str o.fName),es] bp68 zer68 rfl (by obtain ⟨_,_,rfl,_⟩:=fv; rfl))) ?_
      refine Cx [16] ⟨hz,b6,(S.pk [4,5])⟩ (all1 ?_)
      refine Nx 20 131071 rfl<|W.bslice (α:=GAxis) [(agg [(str o.fName),es])] ([(⟨o.fName,a2⟩:GAxis)]:List GAxis) S el22 rfl rfl rfl (by decide) (Go.Eng.encS ⟨rfl,_,rfl,fv⟩ enc0) ?_
      intro kq ks h0 co h1 S
      have ⟨b,k⟩:=U2 co b k
      have d:=MR.mono d co
      have c:=c.up co
      refine We ?_
      refine Cx [17] ⟨h0,(b6.trans co),(S.pk [5,6])⟩ (all1 ?_)
      refine Nx 20 262143 rfl<|W.app (α:=GAxis) (i:=3) S el22 rfl rfl rfl k h1 a3 ?_
      intro fw kt et c6 fx S
      have ⟨b,k⟩:=U2 c6 b k
      have d:=MR.mono d c6
      have c:=c.up c6
      refine We ?_
      refine Ct 18 20 524287 rfl (fun _ _=>(R.fieldB q zBw)) ?_
      refine Cx [19] ⟨et,((b6.trans co).trans c6),(S.pk [5,6])⟩ (all1 ?_)
      refine Nx 20 1048575 rfl ?_
      refine W.storeSl (α:=GAxis) (i:=4) [fw,ae] S fx rfl rfl rfl lay22 (Nat.le_of_ble_eq_true rfl) rfl ?_
      intro ku S
      refine We<|WC.done ⟨et,((b6.trans co).trans c6),(S.pk [5,6])⟩ kr ?_
      exact ⟨et,fw,al,aw,q,aq,fx,d,b,c,(((ax.trans b6).trans co).trans c6),(S.pt 7 [2,3,4,5,6])⟩
     refine Nx 20 4093 rfl<|W.idx (α:=GAxis) b rfl rfl el22 dt ?_
     rintro kv _ h2 ⟨h3,rfl,b7⟩
     refine We ?_
     refine Ct 12 20 8189 rfl (fun _ _=>(R.field rfl zHP)) ?_
     have h4:=At.add h2 1 (by simp)
     refine Ct 13 20 16381 rfl (fun w hw=>by obtain ⟨_,hq,S⟩:=hw; exact (R.loadH (v:=h3) S rfl (At.mono h4 hq (by simp)) lay34 rfl)) ?_
     refine Cx [1,14] ⟨ad,lr,(S.pk [3,4])⟩ (allS ?_ (all1 ?_))
     ·refine Nx 20 16383 rfl ?_
      refine Lo 2 S<|We ?_
      refine Cx [14] ⟨ad,lr,(S.pk [3,4])⟩ (all1 ?_)
      refine Nx 20 32767 rfl ?_
      have S:=S.addNil 9 1
      refine W.app (α:=Str) (i:=0) S el34 rfl rfl rfl Sl.nil b7 bf ?_
      intro eu kw h5 b8 fy S
      have ⟨b,b7,k⟩:=U3 b8 b b7 k
      have d:=MR.mono d b8
      have c:=c.up b8
      refine We ?_
      refine Ct 15 20 65535 rfl (fun _ _=>(R.build [(0,(str o.fName)),(1,eu)] [(str o.fName),eu] bp68 zer68 rfl (by obtain ⟨_,_,rfl,_⟩:=fy; rfl))) ?_
      refine Cx [16] ⟨h5,b8,(S.pk [4,5])⟩ (all1 ?_)
      refine Nx 20 131071 rfl<|W.bslice (α:=GAxis) [(agg [(str o.fName),eu])] ([(⟨o.fName,a2⟩:GAxis)]:List GAxis) S el22 rfl rfl rfl (by decide) (Go.Eng.encS ⟨rfl,_,rfl,fy⟩ enc0) ?_
      intro kx ky h6 cp h7 S
      have ⟨b,b7,k⟩:=U3 cp b b7 k
      have d:=MR.mono d cp
      have c:=c.up cp
      refine We ?_
      refine Cx [17] ⟨h6,(b8.trans cp),(S.pk [5,6])⟩ (all1 ?_)
      refine Nx 20 262143 rfl<|W.app (α:=GAxis) (i:=3) S el22 rfl rfl rfl k h7 a3 ?_
      intro fz kz ew c7 f0 S
      have ⟨b,b7,k⟩:=U3 c7 b b7 k
      have d:=MR.mono d c7
      have c:=c.up c7
      refine We ?_
      refine Ct 18 20 524287 rfl (fun _ _=>(R.fieldB q zBw)) ?_
      refine Cx [19] ⟨ew,((b8.trans cp).trans c7),(S.pk [5,6])⟩ (all1 ?_)
      refine Nx 20 1048575 rfl ?_
      refine W.storeSl (α:=GAxis) (i:=4) [fz,ae] S f0 rfl rfl rfl lay22 (Nat.le_of_ble_eq_true rfl) rfl ?_
      intro k0 S
      refine We<|WC.done ⟨ew,((b8.trans cp).trans c7),(S.pk [5,6])⟩ kr ?_
      exact ⟨ew,fz,al,aw,q,aq,f0,d,b,c,(((ax.trans b8).trans cp).trans c7),(S.pt 7 [2,3,4,5,6])⟩
     refine Nx 20 32765 rfl ?_
     have S:=S.addNil 9 1
     refine W.app (α:=Str) (i:=0) S el34 rfl rfl rfl Sl.nil b7 bf ?_
     intro d6 k1 f1 a6 cq S
     have ⟨b,k⟩:=U2 a6 b k
     have d:=MR.mono d a6
     have c:=c.up a6
     refine We ?_
     refine Ct 15 20 65533 rfl (fun _ _=>(R.build [(0,(str o.fName)),(1,d6)] [(str o.fName),d6] bp68 zer68 rfl (by obtain ⟨_,_,rfl,_⟩:=cq; rfl))) ?_
     refine Cx [1,16] ⟨f1,a6,(S.pk [4,5])⟩ (allS ?_ (all1 ?_))
     ·refine Nx 20 65535 rfl ?_
      refine Lo 3 S<|We ?_
      refine Cx [16] ⟨f1,a6,(S.pk [4,5])⟩ (all1 ?_)
      refine Nx 20 131071 rfl<|W.bslice (α:=GAxis) [(agg [(str o.fName),d6])] ([(⟨o.fName,a2⟩:GAxis)]:List GAxis) S el22 rfl rfl rfl (by decide) (Go.Eng.encS ⟨rfl,_,rfl,cq⟩ enc0) ?_
      intro k2 k3 h8 cr h9 S
      have ⟨b,cq,k⟩:=U3 cr b cq k
      have d:=MR.mono d cr
      have c:=c.up cr
      refine We ?_
      refine Cx [17] ⟨h8,(a6.trans cr),(S.pk [5,6])⟩ (all1 ?_)
      refine Nx 20 262143 rfl<|W.app (α:=GAxis) (i:=3) S el22 rfl rfl rfl k h9 a3 ?_
      intro f2 k4 ex c8 f3 S
      have ⟨b,cq,k⟩:=U3 c8 b cq k
      have d:=MR.mono d c8
      have c:=c.up c8
      refine We ?_
      refine Ct 18 20 524287 rfl (fun _ _=>(R.fieldB q zBw)) ?_
      refine Cx [19] ⟨ex,((a6.trans cr).trans c8),(S.pk [5,6])⟩ (all1 ?_)
      refine Nx 20 1048575 rfl ?_
      refine W.storeSl (α:=GAxis) (i:=4) [f2,ae] S f3 rfl rfl rfl lay22 (Nat.le_of_ble_eq_true rfl) rfl ?_
      intro k5 S
      refine We<|WC.done ⟨ex,((a6.trans cr).trans c8),(S.pk [5,6])⟩ kr ?_
      exact ⟨ex,f2,al,aw,q,aq,f3,d,b,c,(((ax.trans a6).trans cr).trans c8),(S.pt 7 [2,3,4,5,6])⟩
     refine Nx 20 131069 rfl<|W.bslice (α:=GAxis) [(agg [(str o.fName),d6])] ([(⟨o.fName,a2⟩:GAxis)]:List GAxis) S el22 rfl rfl rfl (by decide) (Go.Eng.encS ⟨rfl,_,rfl,cq⟩ enc0) ?_
     intro k6 k7 f4 b9 ia S
     have ⟨b,k⟩:=U2 b9 b k
     have d:=MR.mono d b9
     have c:=c.up b9
     refine We ?_
     refine Cx [1] ⟨f4,(a6.trans b9),(S.pk [5,6])⟩ (all1 ?_)
     refine Nx 20 131071 rfl ?_
     refine Lo 4 S<|We ?_
     refine Cx [17] ⟨f4,(a6.trans b9),(S.pk [5,6])⟩ (all1 ?_)
     refine Nx 20 262143 rfl<|W.app (α:=GAxis) (i:=3) S el22 rfl rfl rfl k ia a3 ?_
     intro f5 k8 ey c9 f6 S
     have ⟨b,k⟩:=U2 c9 b k
     have d:=MR.mono d c9
     have c:=c.up c9
     refine We ?_
     refine Ct 18 20 524287 rfl (fun _ _=>(R.fieldB q zBw)) ?_
     refine Cx [19] ⟨ey,((a6.trans b9).trans c9),(S.pk [5,6])⟩ (all1 ?_)
     refine Nx 20 1048575 rfl ?_
     refine W.storeSl (α:=GAxis) (i:=4) [f5,ae] S f6 rfl rfl rfl lay22 (Nat.le_of_ble_eq_true rfl) rfl ?_
     intro k9 S
     refine We<|WC.done ⟨ey,((a6.trans b9).trans c9),(S.pk [5,6])⟩ kr ?_
     exact ⟨ey,f5,al,aw,q,aq,f6,d,b,c,(((ax.trans a6).trans b9).trans c9),(S.pt 7 [2,3,4,5,6])⟩
    refine Nx 20 3869 rfl<|W.idx (α:=GAxis) b rfl rfl el22 dt ?_
    rintro la _ ib ⟨ic,rfl,u⟩
    refine We ?_
    refine Ct 12 20 7965 rfl (fun _ _=>(R.field rfl zHP)) ?_
    have id:=At.add ib 1 (by simp)
    refine Ct 13 20 16157 rfl (fun w hw=>by obtain ⟨_,hq,S⟩:=hw; exact (R.loadH (v:=ic) S rfl (At.mono id hq (by simp)) lay34 rfl)) ?_
    refine Cx [1,5,14] ⟨ad,lr,(S.pk [3,4])⟩ (allS ?_ (allS ?_ (all1 ?_)))
    ·refine Nx 20 16159 rfl ?_
     refine Lo 2 S<|We ?_
     refine Cx [5,14] ⟨ad,lr,(S.pk [3,4])⟩ (allS ?_ (all1 ?_))
     ·refine Nx 20 16191 rfl<|W.idx (α:=GAxis) b rfl rfl el22 bt ?_
      rintro lb _ ie ⟨lc,rfl,ld⟩
      refine We ?_
      refine Ct 6 20 16255 rfl (fun _ _=>(R.field rfl zFB)) ?_
      have ig:=At.add ie 0 (by simp)
      refine Ct 7 20 16383 rfl (fun w hw=>by obtain ⟨_,hq,S⟩:=hw; exact (R.loadH (v:=str o.fName) S rfl (At.mono ig hq (by simp)) lay9 rfl)) ?_
      refine Cx [14] ⟨ad,lr,(S.pk [3,4])⟩ (all1 ?_)
      refine Nx 20 32767 rfl ?_
      have S:=S.addNil 9 1
      refine W.app (α:=Str) (i:=0) S el34 rfl rfl rfl Sl.nil u bf ?_
      intro ez lf ih ca f7 S
      have ⟨b,u,k⟩:=U3 ca b u k
      have d:=MR.mono d ca
      have c:=c.up ca
      refine We ?_
      refine Ct 15 20 65535 rfl (fun _ _=>(R.build [(0,(str o.fName)),(1,ez)] [(str o.fName),ez] bp68 zer68 rfl (by obtain ⟨_,_,rfl,_⟩:=f7; rfl))) ?_
      refine Cx [16] ⟨ih,ca,(S.pk [4,5])⟩ (all1 ?_)
      refine Nx 20 131071 rfl<|W.bslice (α:=GAxis) [(agg [(str o.fName),ez])] ([(⟨o.fName,a2⟩:GAxis)]:List GAxis) S el22 rfl rfl rfl (by decide) (Go.Eng.encS ⟨rfl,_,rfl,f7⟩ enc0) ?_
      intro lg lh ii ct ij S
      have ⟨b,u,k⟩:=U3 ct b u k
      have d:=MR.mono d ct
      have c:=c.up ct
      refine We ?_
      refine Cx [17] ⟨ii,(ca.trans ct),(S.pk [5,6])⟩ (all1 ?_)
      refine Nx 20 262143 rfl<|W.app (α:=GAxis) (i:=3) S el22 rfl rfl rfl k ij a3 ?_
      intro f8 li e0 da f9 S
      have ⟨b,u,k⟩:=U3 da b u k
      have d:=MR.mono d da
      have c:=c.up da
      refine We ?_
      refine Ct 18 20 524287 rfl (fun _ _=>(R.fieldB q zBw)) ?_
      refine Cx [19] ⟨e0,((ca.trans ct).trans da),(S.pk [5,6])⟩ (all1 ?_)
      refine Nx 20 1048575 rfl ?_
      refine W.storeSl (α:=GAxis) (i:=4) [f8,ae] S f9 rfl rfl rfl lay22 (Nat.le_of_ble_eq_true rfl) rfl ?_
      intro lj S
      refine We<|WC.done ⟨e0,((ca.trans ct).trans da),(S.pk [5,6])⟩ kr ?_
      exact ⟨e0,f8,al,aw,q,aq,f9,d,b,c,(((ax.trans ca).trans ct).trans da),(S.pt 7 [2,3,4,5,6])⟩
     refine Nx 20 32543 rfl ?_
     have S:=S.addNil 9 1
     refine W.app (α:=Str) (i:=0) S el34 rfl rfl rfl Sl.nil u bf ?_
     intro e2 lk e3 bn ga S
     have ⟨b,u,k⟩:=U3 bn b u k
     have d:=MR.mono d bn
     have c:=c.up bn
     refine We ?_
     refine Cx [5] ⟨e3,bn,(S.pk [4,5])⟩ (all1 ?_)
     refine Nx 20 32575 rfl<|W.idx (α:=GAxis) b rfl rfl el22 bt ?_
     rintro ll _ ik ⟨lm,rfl,ln⟩
     refine We ?_
     refine Ct 6 20 32639 rfl (fun _ _=>(R.field rfl zFB)) ?_
     have il:=At.add ik 0 (by simp)
     refine Cx [7] ⟨e3,bn,(S.pk [4,5])⟩ (all1 ?_)
     refine Nx 20 32767 rfl ?_
     refine Lq S il<|We ?_
     refine Ct 15 20 65535 rfl (fun _ _=>(R.build [(0,(str o.fName)),(1,e2)] [(str o.fName),e2] bp68 zer68 rfl (by obtain ⟨_,_,rfl,_⟩:=ga; rfl))) ?_
     refine Cx [16] ⟨e3,bn,(S.pk [4,5])⟩ (all1 ?_)
     refine Nx 20 131071 rfl<|W.bslice (α:=GAxis) [(agg [(str o.fName),e2])] ([(⟨o.fName,a2⟩:GAxis)]:List GAxis) S el22 rfl rfl rfl (by decide) (Go.Eng.encS ⟨rfl,_,rfl,ga⟩ enc0) ?_
     intro lp lq im cu io S
     have ⟨b,u,k⟩:=U3 cu b u k
     have d:=MR.mono d cu
     have c:=c.up cu
     refine We ?_
     refine Cx [17] ⟨im,(bn.trans cu),(S.pk [5,6])⟩ (all1 ?_)
     refine Nx 20 262143 rfl<|W.app (α:=GAxis) (i:=3) S el22 rfl rfl rfl k io a3 ?_
     intro gb ls e4 db gc S
     have ⟨b,u,k⟩:=U3 db b u k
     have d:=MR.mono d db
     have c:=c.up db
     refine We ?_
     refine Ct 18 20 524287 rfl (fun _ _=>(R.fieldB q zBw)) ?_
     refine Cx [19] ⟨e4,((bn.trans cu).trans db),(S.pk [5,6])⟩ (all1 ?_)
     refine Nx 20 1048575 rfl ?_
     refine W.storeSl (α:=GAxis) (i:=4) [gb,ae] S gc rfl rfl rfl lay22 (Nat.le_of_ble_eq_true rfl) rfl ?_
     intro lu S
     refine We<|WC.done ⟨e4,((bn.trans cu).trans db),(S.pk [5,6])⟩ kr ?_
     exact ⟨e4,gb,al,aw,q,aq,gc,d,b,c,(((ax.trans bn).trans cu).trans db),(S.pt 7 [2,3,4,5,6])⟩
    ·refine Nx 20 16189 rfl<|W.idx (α:=GAxis) b rfl rfl el22 bt ?_
     rintro lv _ ip ⟨lw,rfl,lx⟩
     refine We ?_
     refine Ct 6 20 16253 rfl (fun _ _=>(R.field rfl zFB)) ?_
     have iq:=At.add ip 0 (by simp)
     refine Ct 7 20 16381 rfl (fun w hw=>by obtain ⟨_,hq,S⟩:=hw; exact (R.loadH (v:=str o.fName) S rfl (At.mono iq hq (by simp)) lay9 rfl)) ?_
     refine Cx [1,14] ⟨ad,lr,(S.pk [3,4])⟩ (allS ?_ (all1 ?_))
     ·refine Nx 20 16383 rfl ?_
      refine Lo 2 S<|We ?_
      refine Cx [14] ⟨ad,lr,(S.pk [3,4])⟩ (all1 ?_)
      refine Nx 20 32767 rfl ?_
      have S:=S.addNil 9 1
      refine W.app (α:=Str) (i:=0) S el34 rfl rfl rfl Sl.nil u bf ?_
      intro e5 ly ir cb gd S
      have ⟨b,u,k⟩:=U3 cb b u k
      have d:=MR.mono d cb
      have c:=c.up cb
      refine We ?_
      refine Ct 15 20 65535 rfl (fun _ _=>(R.build [(0,(str o.fName)),(1,e5)] [(str o.fName),e5] bp68 zer68 rfl (by obtain ⟨_,_,rfl,_⟩:=gd; rfl))) ?_
      refine Cx [16] ⟨ir,cb,(S.pk [4,5])⟩ (all1 ?_)
      refine Nx 20 131071 rfl<|W.bslice (α:=GAxis) [(agg [(str o.fName),e5])] ([(⟨o.fName,a2⟩:GAxis)]:List GAxis) S el22 rfl rfl rfl (by decide) (Go.Eng.encS ⟨rfl,_,rfl,gd⟩ enc0) ?_
      intro lz l0 is cv it S
      have ⟨b,u,k⟩:=U3 cv b u k
      have d:=MR.mono d cv
      have c:=c.up cv
      refine We ?_
      refine Cx [17] ⟨is,(cb.trans cv),(S.pk [5,6])⟩ (all1 ?_)
      refine Nx 20 262143 rfl<|W.app (α:=GAxis) (i:=3) S el22 rfl rfl rfl k it a3 ?_
      intro ge l1 e6 dc gf S
      have ⟨b,u,k⟩:=U3 dc b u k
      have d:=MR.mono d dc
      have c:=c.up dc
      refine We ?_
      refine Ct 18 20 524287 rfl (fun _ _=>(R.fieldB q zBw)) ?_
      refine Cx [19] ⟨e6,((cb.trans cv).trans dc),(S.pk [5,6])⟩ (all1 ?_)
      refine Nx 20 1048575 rfl ?_
      refine W.storeSl (α:=GAxis) (i:=4) [ge,ae] S gf rfl rfl rfl lay22 (Nat.le_of_ble_eq_true rfl) rfl ?_
      intro l2 S
      refine We<|WC.done ⟨e6,((cb.trans cv).trans dc),(S.pk [5,6])⟩ kr ?_
      exact ⟨e6,ge,al,aw,q,aq,gf,d,b,c,(((ax.trans cb).trans cv).trans dc),(S.pt 7 [2,3,4,5,6])⟩
     refine Nx 20 32765 rfl ?_
     have S:=S.addNil 9 1
     refine W.app (α:=Str) (i:=0) S el34 rfl rfl rfl Sl.nil u bf ?_
     intro d7 l3 gg a7 cw S
     have ⟨b,u,k⟩:=U3 a7 b u k
     have d:=MR.mono d a7
     have c:=c.up a7
     refine We ?_
     refine Ct 15 20 65533 rfl (fun _ _=>(R.build [(0,(str o.fName)),(1,d7)] [(str o.fName),d7] bp68 zer68 rfl (by obtain ⟨_,_,rfl,_⟩:=cw; rfl))) ?_
     refine Cx [1,16] ⟨gg,a7,(S.pk [4,5])⟩ (allS ?_ (all1 ?_))
     ·refine Nx 20 65535 rfl ?_
      refine Lo 3 S<|We ?_
      refine Cx [16] ⟨gg,a7,(S.pk [4,5])⟩ (all1 ?_)
      refine Nx 20 131071 rfl<|W.bslice (α:=GAxis) [(agg [(str o.fName),d7])] ([(⟨o.fName,a2⟩:GAxis)]:List GAxis) S el22 rfl rfl rfl (by decide) (Go.Eng.encS ⟨rfl,_,rfl,cw⟩ enc0) ?_
      intro l4 l5 iu cx iv S
      have ⟨b,u,cw,k⟩:=U4 cx b u cw k
      have d:=MR.mono d cx
      have c:=c.up cx
      refine We ?_
      refine Cx [17] ⟨iu,(a7.trans cx),(S.pk [5,6])⟩ (all1 ?_)
      refine Nx 20 262143 rfl<|W.app (α:=GAxis) (i:=3) S el22 rfl rfl rfl k iv a3 ?_
      intro gh l6 e7 dd gi S
      have ⟨b,u,cw,k⟩:=U4 dd b u cw k
      have d:=MR.mono d dd
      have c:=c.up dd
      refine We ?_
      refine Ct 18 20 524287 rfl (fun _ _=>(R.fieldB q zBw)) ?_
      refine Cx [19] ⟨e7,((a7.trans cx).trans dd),(S.pk [5,6])⟩ (all1 ?_)
      refine Nx 20 1048575 rfl ?_
      refine W.storeSl (α:=GAxis) (i:=4) [gh,ae] S gi rfl rfl rfl lay22 (Nat.le_of_ble_eq_true rfl) rfl ?_
      intro l7 S
      refine We<|WC.done ⟨e7,((a7.trans cx).trans dd),(S.pk [5,6])⟩ kr ?_
      exact ⟨e7,gh,al,aw,q,aq,gi,d,b,c,(((ax.trans a7).trans cx).trans dd),(S.pt 7 [2,3,4,5,6])⟩
     refine Nx 20 131069 rfl<|W.bslice (α:=GAxis) [(agg [(str o.fName),d7])] ([(⟨o.fName,a2⟩:GAxis)]:List GAxis) S el22 rfl rfl rfl (by decide) (Go.Eng.encS ⟨rfl,_,rfl,cw⟩ enc0) ?_
     intro l8 l9 gj cc iw S
     have ⟨b,u,k⟩:=U3 cc b u k
     have d:=MR.mono d cc
     have c:=c.up cc
     refine We ?_
     refine Cx [1] ⟨gj,(a7.trans cc),(S.pk [5,6])⟩ (all1 ?_)
     refine Nx 20 131071 rfl ?_
     refine Lo 4 S<|We ?_
     refine Cx [17] ⟨gj,(a7.trans cc),(S.pk [5,6])⟩ (all1 ?_)
     refine Nx 20 262143 rfl<|W.app (α:=GAxis) (i:=3) S el22 rfl rfl rfl k iw a3 ?_
     intro gk ma e8 de gl S
     have ⟨b,u,k⟩:=U3 de b u k
     have d:=MR.mono d de
     have c:=c.up de
     refine We ?_
     refine Ct 18 20 524287 rfl (fun _ _=>(R.fieldB q zBw)) ?_
     refine Cx [19] ⟨e8,((a7.trans cc).trans de),(S.pk [5,6])⟩ (all1 ?_)
     refine Nx 20 1048575 rfl ?_
     refine W.storeSl (α:=GAxis) (i:=4) [gk,ae] S gl rfl rfl rfl lay22 (Nat.le_of_ble_eq_true rfl) rfl ?_
     intro mb S
     refine We<|WC.done ⟨e8,((a7.trans cc).trans de),(S.pk [5,6])⟩ kr ?_
     exact ⟨e8,gk,al,aw,q,aq,gl,d,b,c,(((ax.trans a7).trans cc).trans de),(S.pt 7 [2,3,4,5,6])⟩
    refine Nx 20 32541 rfl ?_
    have S:=S.addNil 9 1
    refine W.app (α:=Str) (i:=0) S el34 rfl rfl rfl Sl.nil u bf ?_
    intro bo mc bu z ar S
    have ⟨b,k⟩:=U2 z b k
    have d:=MR.mono d z
    have c:=c.up z
    refine We ?_
    refine Cx [1,5] ⟨bu,z,(S.pk [4,5])⟩ (allS ?_ (all1 ?_))
    ·refine Nx 20 32543 rfl ?_
     refine Lo 3 S<|We ?_
     refine Cx [5] ⟨bu,z,(S.pk [4,5])⟩ (all1 ?_)
     refine Nx 20 32575 rfl<|W.idx (α:=GAxis) b rfl rfl el22 bt ?_
     rintro md _ ix ⟨me,rfl,mf⟩
     refine We ?_
     refine Ct 6 20 32639 rfl (fun _ _=>(R.field rfl zFB)) ?_
     have iy:=At.add ix 0 (by simp)
     refine Cx [7] ⟨bu,z,(S.pk [4,5])⟩ (all1 ?_)
     refine Nx 20 32767 rfl ?_
     refine Lq S iy<|We ?_
     refine Ct 15 20 65535 rfl (fun _ _=>(R.build [(0,(str o.fName)),(1,bo)] [(str o.fName),bo] bp68 zer68 rfl (by obtain ⟨_,_,rfl,_⟩:=ar; rfl))) ?_
     refine Cx [16] ⟨bu,z,(S.pk [4,5])⟩ (all1 ?_)
     refine Nx 20 131071 rfl<|W.bslice (α:=GAxis) [(agg [(str o.fName),bo])] ([(⟨o.fName,a2⟩:GAxis)]:List GAxis) S el22 rfl rfl rfl (by decide) (Go.Eng.encS ⟨rfl,_,rfl,ar⟩ enc0) ?_
     intro mg mh iz cy i0 S
     have ⟨b,ar,k⟩:=U3 cy b ar k
     have d:=MR.mono d cy
     have c:=c.up cy
     refine We ?_
     refine Cx [17] ⟨iz,(z.trans cy),(S.pk [5,6])⟩ (all1 ?_)
     refine Nx 20 262143 rfl<|W.app (α:=GAxis) (i:=3) S el22 rfl rfl rfl k i0 a3 ?_
     intro gm mi e9 df gn S
     have ⟨b,ar,k⟩:=U3 df b ar k
     have d:=MR.mono d df
     have c:=c.up df
     refine We ?_
     refine Ct 18 20 524287 rfl (fun _ _=>(R.fieldB q zBw)) ?_
     refine Cx [19] ⟨e9,((z.trans cy).trans df),(S.pk [5,6])⟩ (all1 ?_)
     refine Nx 20 1048575 rfl ?_
     refine W.storeSl (α:=GAxis) (i:=4) [gm,ae] S gn rfl rfl rfl lay22 (Nat.le_of_ble_eq_true rfl) rfl ?_
     intro mj S
     refine We<|WC.done ⟨e9,((z.trans cy).trans df),(S.pk [5,6])⟩ kr ?_
     exact ⟨e9,gm,al,aw,q,aq,gn,d,b,c,(((ax.trans z).trans cy).trans df),(S.pt 7 [2,3,4,5,6])⟩
    refine Nx 20 32573 rfl<|W.idx (α:=GAxis) b rfl rfl el22 bt ?_
    rintro ml _ i1 ⟨mm,rfl,mn⟩
    refine We ?_
    refine Ct 6 20 32637 rfl (fun _ _=>(R.field rfl zFB)) ?_
    have dh:=At.add i1 0 (by simp)
    refine Cx [1,7] ⟨bu,z,(S.pk [4,5])⟩ (allS ?_ (all1 ?_))
    ·refine Nx 20 32639 rfl ?_
     refine Lo 3 S<|We ?_
     refine Cx [7] ⟨bu,z,(S.pk [4,5])⟩ (all1 ?_)
     refine Nx 20 32767 rfl ?_
     refine Lq S dh<|We ?_
     refine Ct 15 20 65535 rfl (fun _ _=>(R.build [(0,(str o.fName)),(1,bo)] [(str o.fName),bo] bp68 zer68 rfl (by obtain ⟨_,_,rfl,_⟩:=ar; rfl))) ?_
     refine Cx [16] ⟨bu,z,(S.pk [4,5])⟩ (all1 ?_)
     refine Nx 20 131071 rfl<|W.bslice (α:=GAxis) [(agg [(str o.fName),bo])] ([(⟨o.fName,a2⟩:GAxis)]:List GAxis) S el22 rfl rfl rfl (by decide) (Go.Eng.encS ⟨rfl,_,rfl,ar⟩ enc0) ?_
     intro mo mp i2 bv i3 S
     have ⟨b,ar⟩:=U2 bv b ar
     have dh:=At.mono dh bv (by simp)
     have k:=k.up bv
     have d:=MR.mono d bv
     have c:=c.up bv
     refine We ?_
     refine Cx [17] ⟨i2,(z.trans bv),(S.pk [5,6])⟩ (all1 ?_)
     refine Nx 20 262143 rfl<|W.app (α:=GAxis) (i:=3) S el22 rfl rfl rfl k i3 a3 ?_
     intro go mq fa cd gp S
     have ⟨b,ar⟩:=U2 cd b ar
     have dh:=At.mono dh cd (by simp)
     have k:=k.up cd
     have d:=MR.mono d cd
     have c:=c.up cd
     refine We ?_
     refine Ct 18 20 524287 rfl (fun _ _=>(R.fieldB q zBw)) ?_
     refine Cx [19] ⟨fa,((z.trans bv).trans cd),(S.pk [5,6])⟩ (all1 ?_)
     refine Nx 20 1048575 rfl ?_
     refine W.storeSl (α:=GAxis) (i:=4) [go,ae] S gp rfl rfl rfl lay22 (Nat.le_of_ble_eq_true rfl) rfl ?_
     intro mr S
     refine We<|WC.done ⟨fa,((z.trans bv).trans cd),(S.pk [5,6])⟩ kr ?_
     exact ⟨fa,go,al,aw,q,aq,gp,d,b,c,(((ax.trans z).trans bv).trans cd),(S.pt 7 [2,3,4,5,6])⟩
    refine Nx 20 32765 rfl ?_
    refine Lq S dh<|We ?_
    refine Ct 15 20 65533 rfl (fun _ _=>(R.build [(0,(str o.fName)),(1,bo)] [(str o.fName),bo] bp68 zer68 rfl (by obtain ⟨_,_,rfl,_⟩:=ar; rfl))) ?_
    refine Cx [1,16] ⟨bu,z,(S.pk [4,5])⟩ (allS ?_ (all1 ?_))
    ·refine Nx 20 65535 rfl ?_
     refine Lo 3 S<|We ?_
     refine Cx [16] ⟨bu,z,(S.pk [4,5])⟩ (all1 ?_)
     refine Nx 20 131071 rfl<|W.bslice (α:=GAxis) [(agg [(str o.fName),bo])] ([(⟨o.fName,a2⟩:GAxis)]:List GAxis) S el22 rfl rfl rfl (by decide) (Go.Eng.encS ⟨rfl,_,rfl,ar⟩ enc0) ?_
     intro ms mt i4 cz i5 S
     have ⟨b,ar,k⟩:=U3 cz b ar k
     have d:=MR.mono d cz
     have c:=c.up cz
     refine We ?_
     refine Cx [17] ⟨i4,(z.trans cz),(S.pk [5,6])⟩ (all1 ?_)
     refine Nx 20 262143 rfl<|W.app (α:=GAxis) (i:=3) S el22 rfl rfl rfl k i5 a3 ?_
     intro gq mu fb di gr S
     have ⟨b,ar,k⟩:=U3 di b ar k
     have d:=MR.mono d di
     have c:=c.up di
     refine We ?_
     refine Ct 18 20 524287 rfl (fun _ _=>(R.fieldB q zBw)) ?_
     refine Cx [19] ⟨fb,((z.trans cz).trans di),(S.pk [5,6])⟩ (all1 ?_)
     refine Nx 20 1048575 rfl ?_
     refine W.storeSl (α:=GAxis) (i:=4) [gq,ae] S gr rfl rfl rfl lay22 (Nat.le_of_ble_eq_true rfl) rfl ?_
     intro mw S
     refine We<|WC.done ⟨fb,((z.trans cz).trans di),(S.pk [5,6])⟩ kr ?_
     exact ⟨fb,gq,al,aw,q,aq,gr,d,b,c,(((ax.trans z).trans cz).trans di),(S.pt 7 [2,3,4,5,6])⟩
    refine Nx 20 131069 rfl<|W.bslice (α:=GAxis) [(agg [(str o.fName),bo])] ([(⟨o.fName,a2⟩:GAxis)]:List GAxis) S el22 rfl rfl rfl (by decide) (Go.Eng.encS ⟨rfl,_,rfl,ar⟩ enc0) ?_
    intro mx my gs ce i6 S
    have ⟨b,k⟩:=U2 ce b k
    have d:=MR.mono d ce
    have c:=c.up ce
    refine We ?_
    refine Cx [1] ⟨gs,(z.trans ce),(S.pk [5,6])⟩ (all1 ?_)
    refine Nx 20 131071 rfl ?_
    refine Lo 4 S<|We ?_
    refine Cx [17] ⟨gs,(z.trans ce),(S.pk [5,6])⟩ (all1 ?_)
    refine Nx 20 262143 rfl<|W.app (α:=GAxis) (i:=3) S el22 rfl rfl rfl k i6 a3 ?_
    intro gt mz fc dj gu S
    have ⟨b,k⟩:=U2 dj b k
    have d:=MR.mono d dj
    have c:=c.up dj
    refine We ?_
    refine Ct 18 20 524287 rfl (fun _ _=>(R.fieldB q zBw)) ?_
    refine Cx [19] ⟨fc,((z.trans ce).trans dj),(S.pk [5,6])⟩ (all1 ?_)
    refine Nx 20 1048575 rfl ?_
    refine W.storeSl (α:=GAxis) (i:=4) [gt,ae] S gu rfl rfl rfl lay22 (Nat.le_of_ble_eq_true rfl) rfl ?_
    intro m0 S
    refine We<|WC.done ⟨fc,((z.trans ce).trans dj),(S.pk [5,6])⟩ kr ?_
    exact ⟨fc,gt,al,aw,q,aq,gu,d,b,c,(((ax.trans z).trans ce).trans dj),(S.pt 7 [2,3,4,5,6])⟩
   rintro f w ⟨bz,du,i7,i8,i9,ja,jb,d,jc,jd,je,S⟩
   refine Wg<|M' ja<|Lg<|A<|We ?_
   obtain rfl:=oi bb
   exact ⟨rfl,⟨bz,du,ae,(ck),i7,i8,i9,rfl,jb,d,jc,jd,je,S⟩⟩
  refine CF ek<|Wx ?_
  obtain rfl:=oi bb
  obtain rfl:=g4
  exact ⟨ad,ds,ae,(ck),al,aw,q,k,d,b,c,ax,S⟩
 intro f w hM
 obtain ⟨d3,eh⟩:=eg
 obtain ⟨bx,dq,d4,d5,jf,jg,jh,ji,jj,b,c,jk,S⟩:=hM
 refine Ws<|Ws<|Wg<|A<|We<|B h fun fd jl h=>WP.cut (fun f w=>match fd with | (fe,gv)=>∃ (dw:Hp) (cf:Value) (c0:Value) (d8:Ent),f 2=(ptr b3 0)∧f 3=(ptr b5 0)∧Sl dw cf fe∧MR (α:=GEntry) dw d8 36 c0 gv∧Hp.le Hs dw∧St w0 H0 w dw (d8 :: .row cf 68 2 fe.length :: .box b5 25 [cf,c0] :: .box b3 25 [(.slice none 0 0),(.slice none 0 0)] :: L2)) ?_ ?_
 ·refine Wb ?_
  refine WP.loopM (zEZ a9) (fun s f w=>match s with | (ff,fg,gw)=>∃ (cg:Hp) (ay:Value) (d9:Value) (ea:Ent),f 1=(ptr b1 0)∧f 2=(ptr b3 0)∧f 3=(ptr b5 0)∧f 5=(int ff)∧Sl cg ay fg∧MR (α:=GEntry) cg ea 36 d9 gw∧Sl cg au a9.fAxes∧Sl cg a1 a9.fEntries∧Hp.le Hs cg∧St w0 H0 w cg (ea :: .row ay 68 2 fg.length :: .box b5 25 [ay,d9] :: .box b3 25 [(.slice none 0 0),(.slice none 0 0)] :: .box b1 25 [au,a1] :: L2)) (0,d3,eh) fd jl ?_ ?_
  ·exact ⟨bx,dq,d4,(d5),jf,jg,jh,rfl,ji,jj,b,c,jk,S⟩
  intro s f w hI m1 p jm
  obtain ⟨ff,fg,gw⟩:=s
  obtain ⟨cg,ay,d9,ea,ch,c1,a8,ci,aa,ab,b,c,c2,S⟩:=hI
  refine Ws<|Ws<|Wg<|M' ci<|Fb' ch ?_
  refine Lo 4 S<|Nq c<|La<|We ?_
  rcases condE p with ⟨fh,p⟩ | ⟨fh,p⟩
  ·refine CT fh<|Wk<|Ws<|Wb<|WP.draw kr 12 rfl (bm 12 0) rfl ?_
   have S:=S.drew
   refine At_ 0 12 1 rfl (fun _=>(R.fieldB a8 zBV)) ?_
   refine At_ 2 12 5 rfl (fun _=>(R.fieldB ch zBV)) ?_
   refine At_ 4 12 21 rfl (fun _=>(R.mv (v:=int ff) ci)) ?_
   refine WA.two (i:=1) (j:=3) (bm 12 23) (bm 12 29) rfl rfl kr rfl rfl ?_ ?_
   ·refine Lo 2 S<|We<|WA.one (i:=3) (bm 12 31) rfl kr rfl ?_
    refine Lo 4 S<|We<|WA.one (i:=5) (bm 12 63) rfl kr rfl<|B p fun af dx p=>W.idx (α:=GEntry) c rfl rfl el23 dx ?_
    rintro gx _ av ⟨dk,dl,dm,dn,rfl,ah,ai,aj,ak⟩
    refine We<|WA.one (i:=6) (bm 12 127) rfl kr rfl ?_
    refine WL.w (R.loadHN (vs:=[dk,dl,dm,(str af.fReason),dn,(str af.fBody),(int af.fRequested),(int af.fReceived)]) S rfl av lay36 rfl rfl)<|We<|WA.one (i:=7) (bm 12 255) rfl kr rfl<|B p fun t bw p=>W.call S rfl (zBt S.holds af ah ai aj ak bw) ?_
    rintro eb ec ed ac S ⟨bp,bq,br,bs,rfl,am,an,ao,ap⟩
    have c:=c.up ac
    have ab:=MR.mono ab ac
    have av:=At.mono av ac (by simp)
    have ⟨ah,ai,aj,ak,aa,b⟩:=U6 ac ah ai aj ak aa b
    refine We<|WA.one (i:=8) (bm 12 511) rfl kr rfl<|W.bslice (α:=GEntry) [(agg [bp,bq,br,(str t.fReason),bs,(str t.fBody),(int t.fRequested),(int t.fReceived)])] ([t]:List GEntry) S el23 rfl rfl rfl (by decide) (Go.Eng.encS ⟨rfl,_,_,_,_,rfl,am,an,ao,ap⟩ enc0) ?_
    intro dy dz bg x bh S
    have c:=c.up x
    have ab:=MR.mono ab x
    have av:=At.mono av x (by simp)
    have ⟨ah,ai,aj,ak,am,an,ao,ap,aa,b⟩:=U10 x ah ai aj ak am an ao ap aa b
    refine We<|WA.one (i:=9) (bm 12 1023) rfl kr rfl<|B p fun d0 bi p=>W.appM (α:=GEntry) (i:=1) S el23 rfl rfl rfl ab bh bi ?_
    intro az bj d1 a0 S
    refine We ?_
    refine At_ 10 12 2047 rfl (fun _=>(R.fieldB a8 zBV))<|WA.one (i:=11) (bm 12 4095) rfl kr rfl ?_
    refine W.storeMR (α:=GEntry) (i:=3) [ay,az] S a0 rfl rfl rfl lay23 (Nat.le_of_ble_eq_true rfl) rfl ?_
    intro d2 S
    refine We<|WA.done kr<|Wg<|M' ci<|Lg<|A<|We ?_
    obtain rfl:=oi p
    exact ⟨rfl,⟨bg,ay,az,(bj),ch,c1,a8,rfl,aa,a0,b,c,((c2.trans ac).trans x),(S.pt 6 [1,2,3,4,5])⟩⟩
   refine Lo 4 S<|We ?_
   refine WA.two (i:=1) (j:=5) (bm 12 31) (bm 12 61) rfl rfl kr rfl rfl ?_ ?_
   ·refine Lo 2 S<|We<|WA.one (i:=5) (bm 12 63) rfl kr rfl<|B p fun af dx p=>W.idx (α:=GEntry) c rfl rfl el23 dx ?_
    rintro gx _ av ⟨dk,dl,dm,dn,rfl,ah,ai,aj,ak⟩
    refine We<|WA.one (i:=6) (bm 12 127) rfl kr rfl ?_
    refine WL.w (R.loadHN (vs:=[dk,dl,dm,(str af.fReason),dn,(str af.fBody),(int af.fRequested),(int af.fReceived)]) S rfl av lay36 rfl rfl)<|We<|WA.one (i:=7) (bm 12 255) rfl kr rfl<|B p fun t bw p=>W.call S rfl (zBt S.holds af ah ai aj ak bw) ?_
    rintro eb ec ed ac S ⟨bp,bq,br,bs,rfl,am,an,ao,ap⟩
    have c:=c.up ac
    have ab:=MR.mono ab ac
    have av:=At.mono av ac (by simp)
    have ⟨ah,ai,aj,ak,aa,b⟩:=U6 ac ah ai aj ak aa b
    refine We<|WA.one (i:=8) (bm 12 511) rfl kr rfl<|W.bslice (α:=GEntry) [(agg [bp,bq,br,(str t.fReason),bs,(str t.fBody),(int t.fRequested),(int t.fReceived)])] ([t]:List GEntry) S el23 rfl rfl rfl (by decide) (Go.Eng.encS ⟨rfl,_,_,_,_,rfl,am,an,ao,ap⟩ enc0) ?_
    intro dy dz bg x bh S
    have c:=c.up x
    have ab:=MR.mono ab x
    have av:=At.mono av x (by simp)
    have ⟨ah,ai,aj,ak,am,an,ao,ap,aa,b⟩:=U10 x ah ai aj ak am an ao ap aa b
    refine We<|WA.one (i:=9) (bm 12 1023) rfl kr rfl<|B p fun d0 bi p=>W.appM (α:=GEntry) (i:=1) S el23 rfl rfl rfl ab bh bi ?_
    intro az bj d1 a0 S
    refine We ?_
    refine At_ 10 12 2047 rfl (fun _=>(R.fieldB a8 zBV))<|WA.one (i:=11) (bm 12 4095) rfl kr rfl ?_
    refine W.storeMR (α:=GEntry) (i:=3) [ay,az] S a0 rfl rfl rfl lay23 (Nat.le_of_ble_eq_true rfl) rfl ?_
    intro d2 S
    refine We<|WA.done kr<|Wg<|M' ci<|Lg<|A<|We ?_
    obtain rfl:=oi p
    exact ⟨rfl,⟨bg,ay,az,(bj),ch,c1,a8,rfl,aa,a0,b,c,((c2.trans ac).trans x),(S.pt 6 [1,2,3,4,5])⟩⟩
   refine B p fun af dx p=>W.idx (α:=GEntry) c rfl rfl el23 dx ?_
   rintro gx _ av ⟨dk,dl,dm,dn,rfl,ah,ai,aj,ak⟩
   refine We ?_
   refine WA.two (i:=1) (j:=6) (bm 12 63) (bm 12 125) rfl rfl kr rfl rfl ?_ ?_
   ·refine Lo 2 S<|We<|WA.one (i:=6) (bm 12 127) rfl kr rfl ?_
    refine WL.w (R.loadHN (vs:=[dk,dl,dm,(str af.fReason),dn,(str af.fBody),(int af.fRequested),(int af.fReceived)]) S rfl av lay36 rfl rfl)<|We<|WA.one (i:=7) (bm 12 255) rfl kr rfl<|B p fun t bw p=>W.call S rfl (zBt S.holds af ah ai aj ak bw) ?_
    rintro eb ec ed ac S ⟨bp,bq,br,bs,rfl,am,an,ao,ap⟩
    have c:=c.up ac
    have av:=At.mono av ac (by simp)
    have ⟨ah,ai,aj,ak⟩:=U4 ac ah ai aj ak
    have ab:=MR.mono ab ac
    have ⟨aa,b⟩:=U2 ac aa b
    refine We<|WA.one (i:=8) (bm 12 511) rfl kr rfl<|W.bslice (α:=GEntry) [(agg [bp,bq,br,(str t.fReason),bs,(str t.fBody),(int t.fRequested),(int t.fReceived)])] ([t]:List GEntry) S el23 rfl rfl rfl (by decide) (Go.Eng.encS ⟨rfl,_,_,_,_,rfl,am,an,ao,ap⟩ enc0) ?_
    intro dy dz bg x bh S
    have c:=c.up x
    have av:=At.mono av x (by simp)
    have ⟨ah,ai,aj,ak⟩:=U4 x ah ai aj ak
    have ab:=MR.mono ab x
    have ⟨am,an,ao,ap,aa,b⟩:=U6 x am an ao ap aa b
    refine We<|WA.one (i:=9) (bm 12 1023) rfl kr rfl<|B p fun d0 bi p=>W.appM (α:=GEntry) (i:=1) S el23 rfl rfl rfl ab bh bi ?_
    intro az bj d1 a0 S
    refine We ?_
    refine At_ 10 12 2047 rfl (fun _=>(R.fieldB a8 zBV))<|WA.one (i:=11) (bm 12 4095) rfl kr rfl ?_
    refine W.storeMR (α:=GEntry) (i:=3) [ay,az] S a0 rfl rfl rfl lay23 (Nat.le_of_ble_eq_true rfl) rfl ?_
    intro d2 S
    refine We<|WA.done kr<|Wg<|M' ci<|Lg<|A<|We ?_
    obtain rfl:=oi p
    exact ⟨rfl,⟨bg,ay,az,(bj),ch,c1,a8,rfl,aa,a0,b,c,((c2.trans ac).trans x),(S.pt 6 [1,2,3,4,5])⟩⟩
   refine WL.w (R.loadHN (vs:=[dk,dl,dm,(str af.fReason),dn,(str af.fBody),(int af.fRequested),(int af.fReceived)]) S rfl av lay36 rfl rfl)<|We ?_
   refine WA.two (i:=1) (j:=7) (bm 12 127) (bm 12 253) rfl rfl kr rfl rfl ?_ ?_
   ·refine Lo 2 S<|We<|WA.one (i:=7) (bm 12 255) rfl kr rfl<|B p fun t bw p=>W.call S rfl (zBt S.holds af ah ai aj ak bw) ?_
    rintro eb ec ed ac S ⟨bp,bq,br,bs,rfl,am,an,ao,ap⟩
    have ⟨c,ah,ai,aj,ak⟩:=U5 ac c ah ai aj ak
    have ab:=MR.mono ab ac
    have ⟨aa,b⟩:=U2 ac aa b
    refine We<|WA.one (i:=8) (bm 12 511) rfl kr rfl<|W.bslice (α:=GEntry) [(agg [bp,bq,br,(str t.fReason),bs,(str t.fBody),(int t.fRequested),(int t.fReceived)])] ([t]:List GEntry) S el23 rfl rfl rfl (by decide) (Go.Eng.encS ⟨rfl,_,_,_,_,rfl,am,an,ao,ap⟩ enc0) ?_
    intro dy dz bg x bh S
    have ⟨c,ah,ai,aj,ak⟩:=U5 x c ah ai aj ak
    have ab:=MR.mono ab x
    have ⟨am,an,ao,ap,aa,b⟩:=U6 x am an ao ap aa b
    refine We<|WA.one (i:=9) (bm 12 1023) rfl kr rfl<|B p fun d0 bi p=>W.appM (α:=GEntry) (i:=1) S el23 rfl rfl rfl ab bh bi ?_
    intro az bj d1 a0 S
    refine We ?_
    refine At_ 10 12 2047 rfl (fun _=>(R.fieldB a8 zBV))<|WA.one (i:=11) (bm 12 4095) rfl kr rfl ?_
    refine W.storeMR (α:=GEntry) (i:=3) [ay,az] S a0 rfl rfl rfl lay23 (Nat.le_of_ble_eq_true rfl) rfl ?_
    intro d2 S
    refine We<|WA.done kr<|Wg<|M' ci<|Lg<|A<|We ?_
    obtain rfl:=oi p
    exact ⟨rfl,⟨bg,ay,az,(bj),ch,c1,a8,rfl,aa,a0,b,c,((c2.trans ac).trans x),(S.pt 6 [1,2,3,4,5])⟩⟩
   refine B p fun t bw p=>W.call S rfl (zBt S.holds af ah ai aj ak bw) ?_
   rintro eb ec ed ac S ⟨bp,bq,br,bs,rfl,am,an,ao,ap⟩
   have ⟨c,aa⟩:=U2 ac c aa
   have ab:=MR.mono ab ac
   have b:=b.up ac
   refine We ?_
   refine WA.two (i:=1) (j:=8) (bm 12 255) (bm 12 509) rfl rfl kr rfl rfl ?_ ?_
   ·refine Lo 2 S<|We<|WA.one (i:=8) (bm 12 511) rfl kr rfl<|W.bslice (α:=GEntry) [(agg [bp,bq,br,(str t.fReason),bs,(str t.fBody),(int t.fRequested),(int t.fReceived)])] ([t]:List GEntry) S el23 rfl rfl rfl (by decide) (Go.Eng.encS ⟨rfl,_,_,_,_,rfl,am,an,ao,ap⟩ enc0) ?_
    intro dy dz bg x bh S
    have ⟨c,am,an,ao,ap⟩:=U5 x c am an ao ap
    have ab:=MR.mono ab x
    have ⟨aa,b⟩:=U2 x aa b
    refine We<|WA.one (i:=9) (bm 12 1023) rfl kr rfl<|B p fun d0 bi p=>W.appM (α:=GEntry) (i:=1) S el23 rfl rfl rfl ab bh bi ?_
    intro az bj d1 a0 S
    refine We ?_
    refine At_ 10 12 2047 rfl (fun _=>(R.fieldB a8 zBV))<|WA.one (i:=11) (bm 12 4095) rfl kr rfl ?_
    refine W.storeMR (α:=GEntry) (i:=3) [ay,az] S a0 rfl rfl rfl lay23 (Nat.le_of_ble_eq_true rfl) rfl ?_
    intro d2 S
    refine We<|WA.done kr<|Wg<|M' ci<|Lg<|A<|We ?_
    obtain rfl:=oi p
    exact ⟨rfl,⟨bg,ay,az,(bj),ch,c1,a8,rfl,aa,a0,b,c,((c2.trans ac).trans x),(S.pt 6 [1,2,3,4,5])⟩⟩
   refine W.bslice (α:=GEntry) [(agg [bp,bq,br,(str t.fReason),bs,(str t.fBody),(int t.fRequested),(int t.fReceived)])] ([t]:List GEntry) S el23 rfl rfl rfl (by decide) (Go.Eng.encS ⟨rfl,_,_,_,_,rfl,am,an,ao,ap⟩ enc0) ?_
   intro dy dz bg x bh S
   have ⟨c,aa⟩:=U2 x c aa
   have ab:=MR.mono ab x
   have b:=b.up x
   refine We<|WA.one (i:=1) (bm 12 511) rfl kr rfl ?_
   refine Lo 3 S<|We<|WA.one (i:=9) (bm 12 1023) rfl kr rfl<|B p fun d0 bi p=>W.appM (α:=GEntry) (i:=1) S el23 rfl rfl rfl ab bh bi ?_
   intro az bj d1 a0 S
   refine We ?_
   refine At_ 10 12 2047 rfl (fun _=>(R.fieldB a8 zBV))<|WA.one (i:=11) (bm 12 4095) rfl kr rfl ?_
   refine W.storeMR (α:=GEntry) (i:=3) [ay,az] S a0 rfl rfl rfl lay23 (Nat.le_of_ble_eq_true rfl) rfl ?_
   intro d2 S
   refine We<|WA.done kr<|Wg<|M' ci<|Lg<|A<|We ?_
   obtain rfl:=oi p
   exact ⟨rfl,⟨bg,ay,az,(bj),ch,c1,a8,rfl,aa,a0,b,c,((c2.trans ac).trans x),(S.pt 6 [1,2,3,4,5])⟩⟩
  refine CF fh<|Wx ?_
  obtain rfl:=oi p
  obtain rfl:=jm
  exact ⟨cg,ay,d9,(ea),c1,a8,aa,ab,c2,(S.pt 5 [0,1,2,3])⟩
 intro f w hM
 obtain ⟨fe,gv⟩:=fd
 obtain ⟨dw,cf,c0,d8,gy,jn,gz,g0,jp,S⟩:=hM
 refine Ws<|Wg ?_
 refine WL.w (R.loadBN (i:=2) (vs:=[cf,c0]) S jn rfl lay25 rfl rfl) ?_
 refine W.store (i:=3) [cf,c0] S gy rfl rfl lay25 rfl (AllOne.all (l:=[cf,c0]) (.cons (Sl.oneC gz) (.cons (MR.oneC g0) .nil))) (Nat.le_of_ble_eq_true rfl) rfl ?_
 intro m2 S
 refine We ?_
 obtain rfl:=oi h
 refine WP.ret (OutS.one (L':=[d8]) rfl jp (S.pt 4 [0]) (Res.cellB (i:=3) (cs:=[cf,c0]) S gy rfl lay25 rfl rfl) ?_)
 exact ⟨_,_,_,rfl,rfl,gz,g0⟩
theorem zDx {x:World} {j:Hp} (hw:Holds x j) (af:GTable) (z:Int) {p q:Value} (aw:Sl j p af.fAxes) (ax:Sl j q af.fEntries) {r:GTable} (h:zEX af z=some r) :
  Con Tryz.prog 24 [(agg [p,q]),(int z)] x j (fun H' v=>∃ u1 u2:Value,v=(agg [u1,u2])∧Sl H' u1 r.fAxes∧Sl H' u2 r.fEntries):=by
 unfold zEX at h
 refine CM 30 Tryz.func24 hw fun S=>?_
 refine Ws<|Wg ?_
 refine W.box [p,q] S rfl rfl ?_
 intro b1 w2 S
 refine W.alloc [(.slice none 0 0),(.slice none 0 0)] S zer25 ?_
 intro b3 w4 S
 refine We<|Ws<|Wg ?_
 refine WL.w (R.loadBN (i:=1) (vs:=[p,q]) S rfl rfl lay25 rfl rfl)<|B h fun b ay h=>W.callS rfl (zJw af S aw ax ay) ?_
 rintro a5 a6 c a7 a8 S ⟨d,t,aj,rfl,rfl,ac,ai⟩
 replace S:St x j _ c [aj,.box b3 25 [(.slice none 0 0),(.slice none 0 0)],.box b1 25 [p,q]]:=S
 refine W.alloc [(.slice none 0 0),(.slice none 0 0)] S zer25 ?_
 intro ad a9 S
 refine W.store (i:=0) [d,t] S rfl rfl rfl lay25 rfl (AllOne.all (l:=[d,t]) (.cons (Sl.oneC ac) (.cons (MR.oneC ai) .nil))) (Nat.le_of_ble_eq_true rfl) rfl ?_
 intro ba S
 replace S:St x j _ c [.box ad 25 [d,t],aj,.box b3 25 [(.slice none 0 0),(.slice none 0 0)],.box b1 25 [p,q]]:=S
 refine We<|Ws<|Ws ?_
 obtain ⟨a0,c0,hv,bd⟩:=ai.shape
 refine WP.cut (fun f w=>f 1=int z∧f 4=ptr b3 0∧f 5=ptr ad 0∧f 16=boo (decide (z<0)||decide ((b.fEntries.length:Int)≤z))∧St x j w c [.box ad 25 [d,t],aj,.box b3 25 [(.slice none 0 0),(.slice none 0 0)],.box b1 25 [p,q]]) ?_ ?_
 ·refine Wg<|M<|La<|M ?_
  cases h0:decide (z<0) with
  | true =>
   refine WL.n (b':=true) rfl rfl rfl<|WL.n (b':=true) rfl rfl rfl<|WL.n (b':=true) rfl rfl rfl<|WL.n (b':=true) rfl rfl rfl<|WL.n (b':=true) rfl rfl rfl<|Pt rfl<|We ?_
   exact ⟨rfl,rfl,rfl,rfl,S⟩
  | false =>
   refine WL.y (b':=false) rfl rfl rfl<|M<|WL.y (b':=false) rfl rfl rfl<|Fb<|WL.y (b':=false) rfl rfl rfl ?_
   refine Lo 0 S<|WL.y (b':=false) rfl rfl rfl<|Nv' hv<|WL.y (b':=false) rfl rfl rfl<|Ld<|Pf rfl<|We ?_
   exact ⟨rfl,rfl,rfl,rfl,S⟩
 rintro f w ⟨f1,f4,o,ar,S⟩
 rcases condE h with ⟨hc,h⟩ | ⟨hc,h⟩
 ·refine WP.condT ar hc<|Ws<|Wg ?_
  refine WL.w (R.loadBN (i:=0) (vs:=[d,t]) S o rfl lay25 rfl rfl) ?_
  obtain ⟨H2,ak,ae,S⟩:=S.settleM (i:=1) rfl ai
  refine W.store (i:=1) [d,t] S f4 rfl rfl lay25 rfl (AllOne.all (l:=[d,t]) (.cons (Sl.oneC ac) (.cons (Sl.oneC ae) .nil))) (Nat.le_of_ble_eq_true rfl) rfl ?_
  intro w3 S
  refine We ?_
  obtain rfl:=oi h
  refine WP.ret (Out.one rfl S (Res.cellB (i:=1) (cs:=[d,t]) S f4 rfl lay25 rfl rfl) ?_)
  exact ⟨_,_,rfl,ac.up ak,ae⟩
 refine WP.condF ar hc<|Wk<|B h fun l al h9=>?_
 rw [Bool.or_eq_false_iff] at hc
 have bf:=of_decide_eq_false hc.1
 have au:=of_decide_eq_false hc.2
 obtain ⟨i,rfl⟩:=Int.eq_ofNat_of_zero_le (show 0≤z by omega)
 rcases ai with ⟨_,hnil,_⟩ | ⟨g,cap,cur0,cs0,rfl,rfl,hnc,hcm,hcs,htk,hC⟩
 ·rw [hnil] at au; simp only [List.length_nil] at au; omega
 have hlen:b.fEntries.length≤9223372036854775807∧i<b.fEntries.length:=⟨by simp only [maxLen] at hcm; omega,by omega⟩
 have hwi:wr ((i:Int)+1)=((i+1:Nat):Int):=by rw [wr_eq ⟨by omega,by omega⟩]; rfl
 have hl:l=b.fEntries.take i++b.fEntries.drop (i+1):=by
  unfold delI at al
  rw [hwi,if_pos (by omega)] at al
  exact (oi al).symm
 have hsz:cur0.size=cap*8:=hcs
 have hll:cur0.toList.length=cap*8:=hcs
 have hone:∀ u ∈ (cur0.toList.drop ((i+1)*8)).take ((b.fEntries.length - (i+1))*8),u.oneCell'=true:=fun u hu=>by
  refine hC.one u ?_
  rw [← htk]
  rw [show b.fEntries.length*Enc.sz GEntry=(i+1)*8+(b.fEntries.length - (i+1))*8 by rw [← Nat.add_mul]; show b.fEntries.length*8=_; congr 1; omega,List.take_add]
  exact List.mem_append_right _ hu
 have hok:(cur0.toList.drop (if cap=i+1 then 0 else (i+1)*8)).take ((b.fEntries.length - (i+1))*8)=(cur0.toList.drop ((i+1)*8)).take ((b.fEntries.length - (i+1))*8):=by
  split
  ·rw [show b.fEntries.length - (i+1)=0 by omega]; rfl
  rfl
 have hos:(if cap=i+1 then 0 else (i+1)*8)+(b.fEntries.length - (i+1))*8≤cur0.size:=by
  split <;> omega
 have hkey:∀ (cur1:Array Value) (w:World),cur1.toList=cur0.toList.take (i*8)++(cur0.toList.drop ((i+1)*8)).take ((b.fEntries.length - (i+1))*8)++cur0.toList.drop (i*8+(b.fEntries.length - (i+1))*8) →
   MR (α:=GEntry) c (.obj g (.cells cur1 36 (0,0))) 36 (.slice (some ⟨g,0,none⟩) (i+(b.fEntries.length - (i+1))) cap) l:=by
  intro cur1 w hcur1
  have av:(cur0.toList.take (i*8)++(cur0.toList.drop ((i+1)*8)).take ((b.fEntries.length - (i+1))*8)).length=(i+(b.fEntries.length - (i+1)))*8:=by
   rw [List.length_append,List.length_take,List.length_take,List.length_drop,hll]; omega
  have a3:cur1.size=cap*8:=by
   rw [← Array.length_toList,hcur1,List.length_append,av,List.length_drop,hll]; omega
  have hln:l.length=i+(b.fEntries.length - (i+1)):=by rw [hl,List.length_append,List.length_take,List.length_drop]; omega
  refine .inr ⟨g,cap,cur1,cur1.toList.take ((i+(b.fEntries.length - (i+1)))*8),by rw [hln],rfl,by rw [hln]; omega,hcm,a3,by rw [hln]; rfl,?_⟩
  rw [hcur1,← av,List.take_left,hl]
  exact Cells.cutOut htk hC (by omega) (by omega)
 refine Ws ?_
 refine WP.cut (fun f w=>∃ cur1:Array Value,f 4=ptr b3 0∧f 5=ptr ad 0∧MR (α:=GEntry) c (.obj g (.cells cur1 36 (0,0))) 36 (.slice (some ⟨g,0,none⟩) (i+(b.fEntries.length - (i+1))) cap) l ∧
   St x j w c [.box ad 25 [d,(.slice (some ⟨g,0,none⟩) (i+(b.fEntries.length - (i+1))) cap)],.obj g (.cells cur1 36 (0,0)),.box b3 25 [(.slice none 0 0),(.slice none 0 0)],.box b1 25 [p,q]]) ?_ ?_
 ·refine WP.drawC (Cl x j c []) kr 12 rfl (bm 12 0) rfl ?_
  have S:=S.drew
  refine Ct 0 12 1 rfl (fun _ _=>(R.fieldB o zBV)) ?_
  refine Ct 2 12 5 rfl (fun _ _=>(R.mv (v:=int i) f1)) ?_
  refine Ct 4 12 21 rfl (fun _ _=>(R.fieldB o zBV)) ?_
  refine Ct 6 12 85 rfl (fun _ _=>(R.mv (v:=int i) f1)) ?_
  refine Ct 7 12 213 rfl (fun _ _=>(R.add rfl rfl)) ?_
  rw [hwi]
  refine Cx [1,5] ⟨c,lr,S.pk []⟩ (allS ?_ (all1 ?_))
  ·refine Nx 12 215 rfl ?_
   refine Lo 0 S<|We ?_
   refine Ct 3 12 223 rfl (fun _ _=>R.sliceHi rfl rfl el23 (by omega)) ?_
   refine Cx [5] ⟨c,lr,S.pk []⟩ (all1 ?_)
   refine Nx 12 255 rfl ?_
   refine Lo 0 S<|We ?_
   refine Ct 8 12 511 rfl (fun _ _=>R.sliceLoE rfl rfl el23 (by omega) hnc) ?_
   refine Cx [9] ⟨c,lr,S.pk []⟩ (all1 ?_)
   refine Nx 12 1023 rfl<|W.appO (i:=1) (sz:=8) (k:=b.fEntries.length - (i+1)) S el23 rfl rfl rfl hsz (by omega) hos (by rw [hok]; exact hone) ?_
   intro w1 cur1 hcur1 S
   rw [hok] at hcur1
   refine We ?_
   refine Ct 10 12 2047 rfl (fun _ _=>(R.fieldB o zBV)) ?_
   refine Cx [11] ⟨c,lr,S.pk []⟩ (all1 ?_)
   refine Nx 12 4095 rfl ?_
   refine W.store (i:=0) [d,(.slice (some ⟨g,0,none⟩) (i+(b.fEntries.length - (i+1))) cap)] S rfl rfl rfl lay23 rfl rfl (Nat.le_of_ble_eq_true rfl) rfl ?_
   intro w2 S
   refine We<|WC.done ⟨c,lr,S.pk []⟩ kr ?_
   exact ⟨cur1,f4,o,hkey cur1 w1 hcur1,S⟩
  refine Nx 12 245 rfl ?_
  refine Lo 0 S<|We ?_
  refine Ct 8 12 501 rfl (fun _ _=>R.sliceLoE rfl rfl el23 (by omega) hnc) ?_
  refine Cx [1] ⟨c,lr,S.pk []⟩ (all1 ?_)
  refine Nx 12 503 rfl ?_
  refine Lo 0 S<|We ?_
  refine Ct 3 12 511 rfl (fun _ _=>R.sliceHi rfl rfl el23 (by omega)) ?_
  refine Cx [9] ⟨c,lr,S.pk []⟩ (all1 ?_)
  refine Nx 12 1023 rfl<|W.appO (i:=1) (sz:=8) (k:=b.fEntries.length - (i+1)) S el23 rfl rfl rfl hsz (by omega) hos (by rw [hok]; exact hone) ?_
  intro w1 cur1 hcur1 S
  rw [hok] at hcur1
  refine We ?_
  refine Ct 10 12 2047 rfl (fun _ _=>(R.fieldB o zBV)) ?_
  refine Cx [11] ⟨c,lr,S.pk []⟩ (all1 ?_)
  refine Nx 12 4095 rfl ?_
  refine W.store (i:=0) [d,(.slice (some ⟨g,0,none⟩) (i+(b.fEntries.length - (i+1))) cap)] S rfl rfl rfl lay23 rfl rfl (Nat.le_of_ble_eq_true rfl) rfl ?_
  intro w2 S
  refine We<|WC.done ⟨c,lr,S.pk []⟩ kr ?_
  exact ⟨cur1,f4,o,hkey cur1 w1 hcur1,S⟩
 rintro f w ⟨cur1,f4,o,RM,S⟩
 refine Ws<|Wg ?_
 refine WL.w (R.loadBN (i:=0) (vs:=[d,(.slice (some ⟨g,0,none⟩) (i+(b.fEntries.length - (i+1))) cap)]) S o rfl lay25 rfl rfl) ?_
 obtain ⟨H2,ak,ae,S⟩:=S.settleM (i:=1) rfl RM
 refine W.store (i:=1) [d,(.slice (some ⟨g,0,none⟩) (i+(b.fEntries.length - (i+1))) cap)] S f4 rfl rfl lay25 rfl (AllOne.all (l:=[d,(.slice (some ⟨g,0,none⟩) (i+(b.fEntries.length - (i+1))) cap)]) (.cons (Sl.oneC ac) (.cons (Sl.oneC ae) .nil))) (Nat.le_of_ble_eq_true rfl) rfl ?_
 intro w3 S
 refine We ?_
 obtain rfl:=oi h9
 refine WP.ret (Out.one rfl S (Res.cellB (i:=1) (cs:=[d,(.slice (some ⟨g,0,none⟩) (i+(b.fEntries.length - (i+1))) cap)]) S f4 rfl lay25 rfl rfl) ?_)
 exact ⟨_,_,rfl,ac.up ak,ae⟩
end Go.Proofs
