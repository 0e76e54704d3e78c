/- A part. -/
import Derived.Test.YtipgfplekgdoiaaGreatDoorEng38
import Derived.Test.YtipgfplekgdoiaaGreatDoorEng33
import Derived.Test.YtipgfplekgdoiaaGreatDoorGenK10
namespace Go.Proofs
set_option maxHeartbeats 4000000
set_option maxRecDepth 10000
open Go.Eng Go.Eng.Pure
set_option linter.unusedVariables false
theorem zKL {w0:World} {H0:Hp} (hw:Holds w0 H0) (x:Int) (ar:Str) {r:(GPref×Bool)} (h:zF5 x ar=some r) :
  Con Tryz.prog 146 [(int x),(str ar)] w0 H0 (fun H' v=>v=(.tuple ⟨[(agg [(str r.1.fRange),(int r.1.fQ)]),(boo r.2)]⟩)):=by
 refine CM 85 Tryz.func146 hw fun S=>?_
 refine Ws<|Wg ?_
 refine W.alloc [(str []),(int 0)] S zG5 ?_
 intro t w2 S
 refine A<|We<|Ws<|Wg<|M<|B h fun j bh h=>W.call S rfl (zFE S.holds ar bh) ?_
 rintro v4 w5 H6 ck S ⟨u8,rfl,c⟩
 refine M ?_
 refine Ex ?_
 refine Ex ?_
 refine Ex<|A<|A<|A<|We<|Ws<|Ws<|Wg<|M ?_
 refine No<|We ?_
 rcases condE h with ⟨au,h⟩ | ⟨au,h⟩
 ·refine CT au<|Ws<|Wg ?_
  refine WL.w (R.build [] [(str []),(int 0)] bp147 zG5 rfl rfl) ?_
  refine W.store (i:=0) [(str []),(int 0)] S rfl rfl rfl zDU rfl rfl (Nat.le_of_ble_eq_true rfl) rfl ?_
  intro cl S
  refine A<|We ?_
  cases h
  refine WP.ret (Out.two rfl S (Res.cellB (i:=0) (cs:=[(str []),(int 0)]) S rfl rfl zDU rfl rfl) rfl ?_)
  exact rfl
 refine CF au<|Wk<|Ws<|Wg<|A<|We<|Ws<|B h fun ad bj h=>WP.cut (fun f w=>∃ (ah:Hp),f 0=(int x)∧f 4=(ptr t 0)∧f 6=(str j.1)∧f 7=u8∧f 9=(int ad)∧Sl ah u8 j.2.1∧St w0 H0 w ah [.box t 147 [(str []),(int 0)]]) ?_ ?_
 ·refine Wb ?_
  refine WP.loopM (zBo j) (fun s f w=>match s with | av=>∃ (ae:Hp),f 0=(int x)∧f 4=(ptr t 0)∧f 6=(str j.1)∧f 7=u8∧f 9=(int av)∧Sl ae u8 j.2.1∧St w0 H0 w ae [.box t 147 [(str []),(int 0)]]) 0 ad bj ?_ ?_
  ·exact ⟨H6,rfl,rfl,rfl,rfl,rfl,c,S⟩
  intro av f w hI cm z bk
  obtain ⟨ae,a5,a6,a7,ai,aj,c,S⟩:=hI
  refine Ws<|Ws<|Wg<|M' aj<|M' ai<|Nq c<|La<|M<|B z fun bn u z=>WL.grp 7 [27,28,29,30,31,32] 33 (boo bn) ?_ ?_
  ·rcases boolE (decide (av<(j.2.1.length:Int))) with d | d
   ·replace u:=condT u d
    refine Gy d<|M' ai<|Gy d<|M' aj<|Gy d<|B u fun cn bo u=>W.idx (α:=GParam) c rfl rfl el156 bo ?_
    rintro co _ bp rfl
    refine Gy d<|Fc ?_
    have bq:=At.add bp 0 (by simp)
    refine Gy d ?_
    refine Lq S bq<|Gy d<|Nb<|Pt d ?_
    exact We ⟨(ob u),ag,rfl⟩
   replace u:=condF u d
   refine Gn d<|Gn d<|Gn d<|Gn d<|Gn d<|Gn d<|Pf d ?_
   exact We ⟨(ob u),ag,rfl⟩
  intro us
  refine We ?_
  rcases condE z with ⟨aw,z⟩ | ⟨aw,z⟩
  ·refine CT aw<|Wk<|Wb<|Wg<|M' aj<|Lg<|A<|We ?_
   cases z
   exact ⟨rfl,⟨ae,a5,a6,a7,ai,rfl,c,S⟩⟩
  refine CF aw<|Wx ?_
  cases z
  obtain rfl:=bk
  exact ⟨ae,a5,a6,a7,ai,aj,c,S⟩
 rintro f w ⟨ah,a8,ak,a9,al,am,c,S⟩
 refine Ws<|Wg<|A<|We<|Ws<|Ws<|Wg<|M' am<|M' al<|Nq c<|La<|We<|B h fun ba k h=>WP.cut (fun f w=>match ba with | .inl o=>∃ (ax:Hp),f 0=(int x)∧f 4=(ptr t 0)∧f 6=(str j.1)∧f 7=u8∧f 9=(int ad)∧f 10=(int o)∧Sl ax u8 j.2.1∧St w0 H0 w ax [.box t 147 [(str []),(int 0)]] | .inr _=>False) ?_ ?_
 ·rcases condE k with ⟨ay,k⟩ | ⟨ay,k⟩
  ·refine CT ay<|Ws<|Wg<|M' al<|M' am<|B k fun br bs k=>W.idx (α:=GParam) c rfl rfl el156 bs ?_
   rintro cp _ bt rfl
   refine Fc ?_
   have bu:=At.add bt 1 (by simp)
   refine Lq S bu<|B k fun cq bv k=>W.call S rfl (zJq S.holds br.fValue bv) ?_
   rintro cr ct bw bx S rfl
   have c:=c.up bx
   refine M ?_
   refine Ex ?_
   refine Ex<|A<|A<|We<|Ws<|Wg<|M<|No<|We ?_
   rcases condE k with ⟨az,k⟩ | ⟨az,k⟩
   ·refine CT az<|Ws<|Wg ?_
    refine WL.w (R.build [] [(str []),(int 0)] bp147 zG5 rfl rfl) ?_
    refine W.store (i:=0) [(str []),(int 0)] S ak rfl rfl zDU rfl rfl (Nat.le_of_ble_eq_true rfl) rfl ?_
    intro cu S
    refine A<|We ?_
    cases k
    cases h
    refine WP.ret (Out.two rfl S (Res.cellB (i:=0) (cs:=[(str []),(int 0)]) S ak rfl zDU rfl rfl) rfl ?_)
    exact rfl
   refine CF az<|Wk ?_
   cases k
   exact ⟨bw,a8,ak,a9,al,am,rfl,c,S⟩
  refine CF ay<|Wk ?_
  cases k
  exact ⟨ah,a8,ak,a9,al,am,rfl,c,S⟩
 intro f w hM
 rcases ba with o | e
 ·obtain ⟨ax,a0,an,af,bz,a1,a2,c,S⟩:=hM
  refine Ws<|Ws<|Wg<|M' a0<|We<|B h fun bb b h=>WP.cut (fun f w=>match bb with | .inl ao=>∃ (bc:Hp),f 0=(int x)∧f 4=(ptr t 0)∧f 6=(str j.1)∧f 8=(boo ao)∧f 9=(int ad)∧f 10=(int o)∧St w0 H0 w bc [.box t 147 [(str []),(int 0)]] | .inr _=>False) ?_ ?_
  ·refine Wb<|Ws<|Wg<|Le<|A<|We ?_
   rcases condE b with ⟨a3,b⟩ | ⟨a3,b⟩
   ·refine CT a3<|Ws<|Wg<|M' af<|B b fun p b0 b=>W.call S rfl (zDv S.holds j.1 b0) ?_
    rintro cv cw cx b2 S ⟨bd,rfl,b3⟩
    have c:=c.up b2
    refine M ?_
    refine Ex ?_
    refine Ex ?_
    refine W.alloc [(str []),(str []),(.slice none 0 0)] S zDQ ?_
    intro cy cz S
    refine W.store (i:=0) [(str p.1.fType),(str p.1.fSub),bd] S rfl rfl rfl zA9 rfl (AllOne.all (l:=[(str p.1.fType),(str p.1.fSub),bd]) (.cons rfl (.cons rfl (.cons (Sl.oneC b3) .nil)))) (Nat.le_of_ble_eq_true rfl) rfl ?_
    intro c0 S
    refine A<|We<|Ws<|Wg<|M' bz<|M' a1<|B b fun b4 b5 b=>W.subHi (α:=GParam) c rfl rfl el156 b5 ?_
    intro be bf
    refine Fb ?_
    refine W.storeSl (α:=GParam) (i:=0) [(str p.1.fType),(str p.1.fSub),be] S bf rfl rfl rfl zHW (Nat.le_of_ble_eq_true rfl) rfl ?_
    intro c1 S
    refine We<|Ws<|Wg ?_
    refine WL.w (R.loadBN (i:=0) (vs:=[(str p.1.fType),(str p.1.fSub),be]) S rfl rfl zA9 rfl rfl)<|B b fun ap b6 b=>W.call S rfl (zIG S.holds (⟨p.1.fType,p.1.fSub,b4⟩:GMediaType) bf b6) ?_
    rintro c2 c3 c4 c5 S rfl
    refine M' a2 ?_
    refine WL.w (R.build [(0,(str ap)),(1,(int o))] [(str ap),(int o)] bp147 zG5 rfl rfl)<|M ?_
    refine W.store (i:=1) [(str ap),(int o)] S an rfl rfl zDU rfl rfl (Nat.le_of_ble_eq_true rfl) rfl ?_
    intro c6 S
    refine A<|We ?_
    cases b
    cases h
    refine WP.ret (Out.two rfl S (Res.cellB (i:=1) (cs:=[(str ap),(int o)]) S an rfl zDU rfl rfl) rfl ?_)
    exact rfl
   refine CF a3<|Ws<|Wg<|Le<|A<|We ?_
   rcases condE b with ⟨a4,b⟩ | ⟨a4,b⟩
   ·refine CT a4<|Wg<|M' af<|B b fun c7 b7 b=>W.call S rfl (zH4 S.holds j.1 b7) ?_
    rintro c8 c9 b8 da S rfl
    refine A<|We ?_
    cases b
    exact ⟨b8,a0,an,af,rfl,a1,a2,S⟩
   refine CF a4<|Wg<|M' af<|B b fun db b9 b=>W.call S rfl (zA4 S.holds j.1 b9) ?_
   rintro dc dd ca de S rfl
   refine A<|We ?_
   cases b
   exact ⟨ca,a0,an,af,rfl,a1,a2,S⟩
  intro f w hM
  rcases bb with ao | e
  ·obtain ⟨bc,cb,bg,cc,cd,ce,cf,S⟩:=hM
   refine Ws<|Wg<|M' cb<|M' cc<|B h fun aq cg h=>W.call S rfl (zBy S.holds x j.1 cg) ?_
   rintro df dh di dj S rfl
   refine M' cf ?_
   refine WL.w (R.build [(0,(str aq)),(1,(int o))] [(str aq),(int o)] bp147 zG5 rfl rfl)<|M' cd<|M ?_
   refine WL.grp 3 [82,83] 84 (boo (ao&&(ad==0))) ?_ ?_
   ·rcases boolE ao with q | q
    ·refine Gy q<|M' ce<|Gy q<|Le<|Pt q ?_
     exact We ⟨(andT q),ag,rfl⟩
    refine Gn q<|Gn q<|Pf q ?_
    exact We ⟨(andF q),ag,rfl⟩
   intro us
   refine W.store (i:=0) [(str aq),(int o)] S bg rfl rfl zDU rfl rfl (Nat.le_of_ble_eq_true rfl) rfl ?_
   intro dk S
   refine A<|We ?_
   cases h
   refine WP.ret (Out.two rfl S (Res.cellB (i:=0) (cs:=[(str aq),(int o)]) S bg rfl zDU rfl rfl) rfl ?_)
   exact rfl
  exact hM.elim
 exact hM.elim
theorem zKT {u:World} {q:Hp} (hw:Holds u q) (o:Int) (z:(List GField)) {am:Value} (d:Sl q am z) {r:((List GPref)×Bool)} (h:zFc o z=some r) :
  Con Tryz.prog 117 [(int o),am] u q (fun H' v=>∃ u1:Value,v=(.tuple ⟨[u1,(boo r.2)]⟩)∧Sl H' u1 r.1):=by
 refine CM 46 Tryz.func117 hw fun S=>?_
 refine Ws<|Wg<|A<|A<|We<|Ws<|Ws<|Wg<|M<|B h fun r1 a0 h=>W.call S rfl (zCR S.holds o a0) ?_
 rintro v2 w3 H4 a1 S rfl
 have d:=d.up a1
 refine Na<|M<|B h fun a2 k h=>WL.grpw 6 [15,16,17,18,19] 20 (boo a2) (fun w=>∃ H':Hp,H4.le H'∧St u q w H' []) ?_ ?_
 ·rcases boolE (r1==[]) with b | b
  ·replace k:=condT k b
   refine Gn b<|Gn b<|Gn b<|Gn b<|Gn b<|Pt b ?_
   exact We ⟨(ob k),ag,⟨H4,lr,S⟩⟩
  replace k:=condF k b
  refine Gy b<|M<|Gy b<|M<|Gy b<|B k fun r8 a4 k=>W.call S rfl (zCR S.holds o a4) ?_
  rintro v9 bw bx ap S rfl
  have d:=d.up ap
  refine Gy b<|B k fun bz a5 k=>W.call S rfl (zL7 S.holds z r8 d a5) ?_
  rintro b0 b1 a6 aq S rfl
  have d:=d.up aq
  refine Gy b<|No<|Pf b ?_
  exact We ⟨(ob k),ag,⟨a6,(ap.trans aq),S⟩⟩
 intro us b2 ⟨b3,a7,S⟩
 have d:=d.up a7
 refine We ?_
 rcases condE h with ⟨ad,h⟩ | ⟨ad,h⟩
 ·refine CT ad<|Ws<|Wg<|A<|A<|We ?_
  cases h
  refine WP.ret (Out.two rfl S rfl rfl ?_)
  exact ⟨_,rfl,Sl.nil⟩
 refine CF ad<|Wk<|Ws<|Wg<|M<|M<|B h fun a8 a9 h=>W.call S rfl (zCR S.holds o a9) ?_
 rintro b4 b5 b6 ba S rfl
 have d:=d.up ba
 refine B h fun ar bb h=>W.call S rfl (zJR S.holds z a8 d bb) ?_
 rintro au b7 bc b8 S j
 refine A<|We<|Ws<|Wg<|A<|We<|Ws<|Ws<|Wg<|A<|We ?_
 have S:=S.addNil 147 2
 refine B h fun ae bd h=>WP.cut (fun f w=>∃ (af:Hp) (aa:Value),f 7=aa∧Sl af aa ae∧St u q w af [.row aa 147 2 ae.length]) ?_ ?_
 ·refine Wb ?_
  refine WP.loopM (zDd o ar) (fun s f w=>match s with | (ah,av)=>∃ (x:Hp) (t:Value),f 0=(int o)∧f 6=au∧f 7=t∧f 8=(int av)∧Sl x au ar∧Sl x t ah∧St u q w x [.row t 147 2 ah.length]) (([]:List GPref),0) ae bd ?_ ?_
  ·exact ⟨bc,.slice none 0 0,rfl,rfl,rfl,rfl,j,Sl.nil,S⟩
  intro s f w hI b9 c be
  obtain ⟨ah,av⟩:=s
  obtain ⟨x,t,ai,ab,aj,ac,j,l,S⟩:=hI
  refine Ws<|Ws<|Wg<|M' ac<|M' ab<|Nq j<|La<|We ?_
  rcases condE c with ⟨ak,c⟩ | ⟨ak,c⟩
  ·refine CT ak<|Wk<|Ws<|Wb<|Ws<|Wg<|M' ai<|M' ab<|M' ac<|B c fun bf bg c=>W.idx (α:=Str) j rfl rfl el34 bg ?_
   rintro ca _ bh rfl
   refine Lq S bh<|B c fun p bi c=>W.call S rfl (zKL S.holds o bf bi) ?_
   rintro cb cc bj aw S rfl
   have j:=j.up aw
   have l:=l.up aw
   refine M ?_
   refine Ex ?_
   refine Ex ?_
   refine W.alloc [(str []),(int 0)] S zG5 ?_
   intro cd ce S
   refine W.store (i:=0) [(str p.1.fRange),(int p.1.fQ)] S rfl rfl rfl zDU rfl rfl (Nat.le_of_ble_eq_true rfl) rfl ?_
   intro cf S
   refine A<|We<|Ws<|Wg<|M<|We ?_
   rcases condE c with ⟨al,c⟩ | ⟨al,c⟩
   ·refine CT al<|Wg<|M' aj ?_
    refine WL.w (R.loadBN (i:=0) (vs:=[(str p.1.fRange),(int p.1.fQ)]) S rfl rfl zDU rfl rfl)<|W.bslice (α:=GPref) [(agg [(str p.1.fRange),(int p.1.fQ)])] ([p.1]:List GPref) S el122 rfl rfl rfl (by decide) (Go.Eng.encS ⟨rfl,rfl⟩ enc0) ?_
    intro cg ch ci ax bk S
    have j:=j.up ax
    have l:=l.up ax
    refine B c fun cj bn c=>W.app (α:=GPref) (i:=2) S el122 rfl rfl rfl l bk bn ?_
    intro bo ck bp ay bq S
    have j:=j.up ay
    have l:=l.up ay
    refine A<|We<|Wg<|M' ac<|Lg<|A<|We ?_
    cases c
    exact ⟨rfl,⟨bp,bo,ai,ab,rfl,rfl,j,bq,(S.drop _ (.cons _ (.cons _ (.cons_cons _ .slnil))))⟩⟩
   refine CF al<|Wk<|Wg<|M' ac<|Lg<|A<|We ?_
   cases c
   exact ⟨rfl,⟨bj,t,ai,ab,aj,rfl,j,l,(S.drop _ (.cons _ (.cons_cons _ .slnil)))⟩⟩
  refine CF ak<|Wx ?_
  cases c
  obtain rfl:=be
  exact ⟨x,t,aj,l,S⟩
 rintro f w ⟨af,aa,br,bs,S⟩
 refine Ws<|Wg<|M' br<|A<|A<|We ?_
 cases h
 refine WP.ret (Out.two rfl S rfl rfl ?_)
 exact ⟨_,rfl,bs⟩
theorem zIX {w0:World} {x:Hp} (hw:Holds w0 x) (d:GMediaType) (i:GMediaType) {k:Value} {q:Value} (j:Sl x k d.fParams) (l:Sl x q i.fParams) {r:Int} (h:zEB d i=some r) :
  Ci Tryz.prog 228 [(agg [(str d.fType),(str d.fSub),k]),(agg [(str i.fType),(str i.fSub),q])] w0 x r:=by
 refine CM 80 Tryz.func228 hw fun S=>?_
 refine Ws<|Wg ?_
 refine W.box [(str d.fType),(str d.fSub),k] S rfl rfl ?_
 intro z w2 S
 refine W.box [(str i.fType),(str i.fSub),q] S rfl rfl ?_
 intro b3 w4 S
 refine A<|We<|Ws<|Ws<|Wg<|Fb ?_
 refine Lo 1 S<|Na<|M ?_
 refine WL.grp 4 [12,13,14] 15 (boo ((d.fType==[42])&&(d.fSub==[42]))) ?_ ?_
 ·rcases boolE (d.fType==[42]) with t | t
  ·refine Gy t<|Fb<|Gy t ?_
   refine Lo 1 S<|Gy t<|Na<|Pt t ?_
   exact We ⟨(andT t),ag,rfl⟩
  refine Gn t<|Gn t<|Gn t<|Pf t ?_
  exact We ⟨(andF t),ag,rfl⟩
 intro us
 refine We ?_
 rcases condE h with ⟨am,h⟩ | ⟨am,h⟩
 ·refine CT am<|Ws<|Wg<|A<|We ?_
  exact WP.ret (Ri h S)
 refine CF am<|Wk<|Ws<|Ws<|Wg<|Fb ?_
 refine Lo 1 S<|Fb ?_
 refine Lo 0 S<|Nb<|We ?_
 rcases condE h with ⟨an,h⟩ | ⟨an,h⟩
 ·refine CT an<|Ws<|Wg<|A<|We ?_
  exact WP.ret (Ri h S)
 refine CF an<|Wk<|Ws<|Ws<|Wg<|Fb ?_
 refine Lo 1 S<|Na<|We ?_
 rcases condE h with ⟨ao,h⟩ | ⟨ao,h⟩
 ·refine CT ao<|Ws<|Wg<|A<|We ?_
  exact WP.ret (Ri h S)
 refine CF ao<|Wk<|Ws<|Ws<|Wg<|Fb ?_
 refine Lo 1 S<|Fb ?_
 refine Lo 0 S<|Nb<|We ?_
 rcases condE h with ⟨ap,h⟩ | ⟨ap,h⟩
 ·refine CT ap<|Ws<|Wg<|A<|We ?_
  exact WP.ret (Ri h S)
 refine CF ap<|Wk<|Ws<|Ws<|Wg<|A<|We<|B h fun aq a9 h=>WP.cut (fun f w=>match aq with | .inl _=>∃ (ar:Hp),f 2=(ptr z 0)∧Sl ar k d.fParams∧St w0 x w ar [.box z 158 [(str d.fType),(str d.fSub),k]] | .inr _=>False) ?_ ?_
 ·refine Wb ?_
  refine WP.loopM (zBu d i) (fun s f w=>match s with | ae=>∃ (ad:Hp),f 2=(ptr z 0)∧f 3=(ptr b3 0)∧f 5=(int ae)∧Sl ad q i.fParams∧Sl ad k d.fParams∧St w0 x w ad [.box b3 158 [(str i.fType),(str i.fSub),q],.box z 158 [(str d.fType),(str d.fSub),k]]) 0 aq a9 ?_ ?_
  ·exact ⟨x,rfl,rfl,rfl,l,j,S⟩
  intro ae f w hI b6 u az
  obtain ⟨ad,au,ba,a0,l,j,S⟩:=hI
  refine Ws<|Ws<|Wg<|M' a0<|Fb' au ?_
  refine Lo 1 S<|Nq j<|La<|We ?_
  rcases condE u with ⟨av,u⟩ | ⟨av,u⟩
  ·refine CT av<|Wk<|Ws<|Wb<|Ws<|Wg<|A<|We<|Ws<|Ws<|Wg<|A ?_
   refine We<|B u fun a1 bb u=>WP.cut (fun f w=>∃ (af:Hp),f 2=(ptr z 0)∧f 3=(ptr b3 0)∧f 5=(int ae)∧f 6=(boo a1)∧Sl af q i.fParams∧Sl af k d.fParams∧St w0 x w af [.box b3 158 [(str i.fType),(str i.fSub),q],.box z 158 [(str d.fType),(str d.fSub),k]]) ?_ ?_
   ·refine Wb ?_
    refine WP.loopM (zA8 d i ae) (fun s f w=>match s with | (aw,a2)=>∃ (ah:Hp),f 2=(ptr z 0)∧f 3=(ptr b3 0)∧f 5=(int ae)∧f 6=(boo aw)∧f 7=(int a2)∧Sl ah q i.fParams∧Sl ah k d.fParams∧St w0 x w ah [.box b3 158 [(str i.fType),(str i.fSub),q],.box z 158 [(str d.fType),(str d.fSub),k]]) (false,0) a1 bb ?_ ?_
    ·exact ⟨ad,au,ba,a0,rfl,rfl,l,j,S⟩
    intro s f w hI b7 aa bc
    obtain ⟨aw,a2⟩:=s
    obtain ⟨ah,aj,ai,ak,a3,al,l,j,S⟩:=hI
    refine Ws<|Ws<|Wg<|M' al<|Fb' ai ?_
    refine Lo 0 S<|Nq l<|La<|We ?_
    rcases condE aa with ⟨ax,aa⟩ | ⟨ax,aa⟩
    ·refine CT ax<|Wk<|Ws<|Wb<|WP.quiet S kr kr<|QM' a3<|QM<|B aa fun bd o aa=>WQ.grp 29 [45,46,47,48,49,50,51,52,53,54,55,56,57,58,59,60,61,62,63,64,65,66,67,68,69,70,71,72] 73 (boo bd) ?_ ?_
     ·rcases boolE aw with b | b
      ·replace o:=condT o b
       refine QGn b<|QGn b<|QGn b<|QGn b<|QGn b<|QGn b<|QGn b<|QGn b<|QGn b<|QGn b<|QGn b<|QGn b ?_
       refine QGn b<|QGn b<|WQ.gund rfl rfl<|WQ.gund rfl rfl<|WQ.gund rfl rfl<|WQ.gund rfl rfl<|WQ.gund rfl rfl<|WQ.gund rfl rfl<|WQ.gund rfl rfl<|WQ.gund rfl rfl<|WQ.gund rfl rfl<|WQ.gund rfl rfl ?_
       refine WQ.gund rfl rfl<|WQ.gund rfl rfl<|WQ.gund rfl rfl<|QGn b<|QPt b ?_
       exact WQ.nil ⟨(ob o),ag⟩
      replace o:=condF o b
      refine QGy b<|QFb' aj<|QGy b ?_
      refine QB 1 k<|QGy b<|QM' ak<|QGy b<|B o fun a4 be o=>WQ.idx (α:=GParam) j rfl rfl el156 be ?_
      rintro b8 _ bf rfl
      refine QGy b<|QFc ?_
      have bg:=At.add bf 0 (by simp)
      refine QGy b ?_
      refine QH (str a4.fName) bg<|QGy b<|QFb' ai<|QGy b ?_
      refine QB 0 q<|QGy b<|QM' al<|QGy b<|B o fun a5 bh o=>WQ.idx (α:=GParam) l rfl rfl el156 bh ?_
      rintro b9 _ bi rfl
      refine QGy b<|QFc ?_
      have bj:=At.add bi 0 (by simp)
      refine QGy b ?_
      refine QH (str a5.fName) bj<|QGy b<|QNa<|QGy b<|QM<|B o fun bk p o=>WQ.grp 14 [59,60,61,62,63,64,65,66,67,68,69,70,71] 72 (boo bk) ?_ ?_
      ·rcases boolE (a4.fName==a5.fName) with c | c
       ·replace p:=condT p c
        refine QGy c<|QFb' aj<|QGy c ?_
        refine QB 1 k<|QGy c<|QM' ak<|QGy c<|B p fun a6 bn p=>WQ.idx (α:=GParam) j rfl rfl el156 bn ?_
        rintro ca _ bo rfl
        refine QGy c<|QFc ?_
        have bp:=At.add bo 1 (by simp)
        refine QGy c ?_
        refine QH (str a6.fValue) bp<|QGy c<|QFb' ai<|QGy c ?_
        refine QB 0 q<|QGy c<|QM' al<|QGy c<|B p fun a7 bq p=>WQ.idx (α:=GParam) l rfl rfl el156 bq ?_
        rintro cb _ br rfl
        refine QGy c<|QFc ?_
        have bs:=At.add br 1 (by simp)
        refine QGy c ?_
        refine QH (str a7.fValue) bs<|QGy c<|B p fun bt bu p=>WQ.call (v:=boo bt) rfl (fun w H' hq S=>zBc S.holds a6.fValue a7.fValue bu)<|QGy b<|QPt c ?_
        exact WQ.nil ⟨(ob p),ag⟩
       replace p:=condF p c
       refine QGn c<|QGn c<|QGn c<|QGn c<|QGn c<|QGn c<|QGn c<|QGn c<|QGn c<|QGn c<|QGn c<|QGn c ?_
       refine QGn c<|QGy b<|QPf c ?_
       exact WQ.nil ⟨(ob p),ag⟩
      intro us
      refine QPf b ?_
      exact WQ.nil ⟨(ob o),ag⟩
     intro us
     refine QA<|WQ.nil ?_
     intro cc bv a8 S
     have l:=l.up a8
     have j:=j.up a8
     refine Wg<|M' al<|Lg<|A<|We ?_
     cases aa
     exact ⟨rfl,⟨bv,aj,ai,ak,rfl,rfl,l,j,S⟩⟩
    refine CF ax<|Wx ?_
    cases aa
    obtain rfl:=bc
    exact ⟨ah,aj,ai,ak,a3,l,j,S⟩
   rintro f w ⟨af,bw,bx,bz,b0,l,j,S⟩
   refine Ws<|Wg<|M' b0<|No<|We ?_
   rcases condE u with ⟨ay,u⟩ | ⟨ay,u⟩
   ·refine CT ay<|Ws<|Wg<|A<|We ?_
    cases u
    obtain rfl:=az
    exact WP.ret (Ri h S)
   refine CF ay<|Wk<|Wg<|M' bz<|Lg<|A<|We ?_
   cases u
   exact ⟨rfl,⟨af,bw,bx,rfl,l,j,S⟩⟩
  refine CF av<|Wx ?_
  cases u
  obtain rfl:=az
  exact ⟨ad,au,j,(S.drop _ (.cons _ (.cons_cons _ .slnil)))⟩
 intro f w hM
 rcases aq with _ | e
 ·obtain ⟨ar,b2,j,S⟩:=hM
  refine Ws<|Wg<|Fb' b2 ?_
  refine Lo 0 S<|Nq j<|Lg<|A<|We ?_
  exact WP.ret (Ri h S)
 exact hM.elim
theorem zJE {o:World} {p:Hp} (hw:Holds o p) (u:Str) (x:Str) {r:Int} (h:zEq u x=some r) :
  Ci Tryz.prog 229 [(str u),(str x)] o p r:=by
 refine CM 46 Tryz.func229 hw fun S=>?_
 refine Ws<|Wg<|A<|We<|Ws<|Ws<|Wg<|M<|B h fun r1 av h=>W.call S rfl (zH4 S.holds u av) ?_
 rintro v2 w3 H4 bg S rfl
 refine No<|M<|B h fun aw k h=>WL.grpw 4 [12,13,14] 15 (boo aw) (fun w=>∃ H':Hp,H4.le H'∧St o p w H' []) ?_ ?_
 ·rcases boolE (!r1) with i | i
  ·replace k:=condT k i
   refine Gn i<|Gn i<|Gn i<|Pt i ?_
   exact We ⟨(ob k),ag,⟨H4,lr,S⟩⟩
  replace k:=condF k i
  refine Gy i<|M<|Gy i<|B k fun r8 ax k=>W.call S rfl (zHO S.holds x ax) ?_
  rintro v9 bj ay az S rfl
  refine Gy i<|No<|Pf i ?_
  exact We ⟨(ob k),ag,⟨ay,az,S⟩⟩
 intro us bk ⟨bn,bo,S⟩
 refine We ?_
 rcases condE h with ⟨ab,h⟩ | ⟨ab,h⟩
 ·refine CT ab<|Ws<|Wg<|A<|We ?_
  exact WP.ret (Ri h S)
 refine CF ab<|Wk<|Ws<|Ws<|Wg<|M<|Na<|We ?_
 rcases condE h with ⟨ac,h⟩ | ⟨ac,h⟩
 ·refine CT ac<|Ws<|Wg<|A<|We ?_
  exact WP.ret (Ri h S)
 refine CF ac<|Wk<|Ws<|Wg<|M<|B h fun ad a0 h=>W.call S rfl (zE9 S.holds u a0) ?_
 rintro z bp bq br S c
 refine M<|B h fun ae a1 h=>W.call S rfl (zE9 S.holds x a1) ?_
 rintro an bs a2 a3 S l
 have c:=c.up a3
 refine A<|A<|We<|Ws<|Ws<|Wg<|A<|We<|B h fun af a4 h=>WP.cut (fun f w=>match af with | .inl _=>∃ (ah:Hp),f 5=z∧Sl ah z ad∧St o p w ah [] | .inr _=>False) ?_ ?_
 ·refine Wb ?_
  refine WP.loopM (zBG ad ae) (fun s f w=>match s with | ai=>∃ (q:Hp),f 5=z∧f 6=an∧f 7=(int ai)∧Sl q z ad∧Sl q an ae∧St o p w q []) 0 af a4 ?_ ?_
  ·exact ⟨a2,rfl,rfl,rfl,c,l,S⟩
  intro ai f w hI bt j ao
  obtain ⟨q,aa,aj,t,c,l,S⟩:=hI
  refine Ws<|Ws<|Wg<|M' t<|M' aa<|Nq c<|La<|We ?_
  rcases condE j with ⟨ak,j⟩ | ⟨ak,j⟩
  ·refine CT ak<|Wk<|Ws<|Wb<|Ws<|WP.quiet S kr kr<|QM' t<|QM' aj<|QNq l<|QLe<|QM<|B j fun a5 d j=>WQ.grp 11 [33,34,35,36,37,38,39,40,41,42] 43 (boo a5) ?_ ?_
   ·rcases boolE (ai==(ae.length:Int)) with b | b
    ·replace d:=condT d b
     refine QGn b<|QGn b<|QGn b<|QGn b<|QGn b<|QGn b<|QGn b<|QGn b<|QGn b<|QGn b<|QPt b ?_
     exact WQ.nil ⟨(ob d),ag⟩
    replace d:=condF d b
    refine QGy b<|QM' aa<|QGy b<|QM' t<|QGy b<|B d fun ap a6 d=>WQ.idx (α:=Str) c rfl rfl el34 a6 ?_
    rintro bu _ a7 rfl
    refine QGy b ?_
    refine QH (str ap) a7<|QGy b<|QM' aj<|QGy b<|QM' t<|QGy b<|B d fun aq a8 d=>WQ.idx (α:=Str) l rfl rfl el34 a8 ?_
    rintro bv _ a9 rfl
    refine QGy b ?_
    refine QH (str aq) a9<|QGy b<|B d fun ba bb d=>WQ.call (v:=boo ba) rfl (fun w H' hq S=>zBc S.holds ap aq bb)<|QGy b<|QNo<|QPf b ?_
    exact WQ.nil ⟨(ob d),ag⟩
   intro us
   refine WQ.nil ?_
   intro bw bc ar S
   have c:=c.up ar
   have l:=l.up ar
   rcases condE j with ⟨al,j⟩ | ⟨al,j⟩
   ·refine CT al<|Ws<|Wg<|A<|We ?_
    cases j
    obtain rfl:=ao
    exact WP.ret (Ri h S)
   refine CF al<|Wk<|Wg<|M' t<|Lg<|A<|We ?_
   cases j
   exact ⟨rfl,⟨bc,aa,aj,rfl,c,l,S⟩⟩
  refine CF ak<|Wx ?_
  cases j
  obtain rfl:=ao
  exact ⟨q,aa,c,S⟩
 intro f w hM
 rcases af with _ | e
 ·obtain ⟨ah,bd,c,S⟩:=hM
  refine Ws<|Wg<|M' bd<|Nq c<|A<|We ?_
  exact WP.ret (Ri h S)
 exact hM.elim
theorem zHx {j:World} {k:Hp} (hw:Holds j k) (b:Int) (c:Str) (d:Str) {r:Int} (h:zDJ b c d=some r) :
  Ci Tryz.prog 230 [(int b),(str c),(str d)] j k r:=by
 refine CM 16 Tryz.func230 hw fun S=>?_
 refine Ws<|Wg<|A<|We<|Ws<|Ws<|Wg<|M<|Na<|We ?_
 rcases condE h with ⟨f,h⟩ | ⟨f,h⟩
 ·refine CT f<|Ws<|Wg<|A<|We ?_
  exact WP.ret (Ri h S)
 refine CF f<|Wk<|Ws<|Ws<|Wg<|M<|M<|B h fun p l h=>W.call S rfl (zBy S.holds b c l) ?_
 rintro q t u v S rfl
 refine M<|M<|B h fun x o h=>W.call S rfl (zBy S.holds b d o) ?_
 rintro z w9 ab ac S rfl
 refine Na<|We ?_
 rcases condE h with ⟨i,h⟩ | ⟨i,h⟩
 ·refine CT i<|Ws<|Wg<|A<|We ?_
  exact WP.ret (Ri h S)
 refine CF i<|Wk<|Ws<|Wg<|A<|We ?_
 exact WP.ret (Ri h S)
theorem zKe {v:World} {q:Hp} (hw:Holds v q) (z:Int) (t:Str) (k:Str) {r:Int} (h:zG1 z t k=some r) :
  Ci Tryz.prog 192 [(int z),(str t),(str k)] v q r:=by
 refine CM 53 Tryz.func192 hw fun S=>?_
 refine Ws<|Wg<|A<|We<|Ws<|Ws<|Wg<|M<|We<|B h fun j3 b h=>WP.cut (fun f w=>match j3 with | .inl _=>∃ (H1:Hp),St v q w H1 [] | .inr _=>False) ?_ ?_
 ·refine Wb<|Ws<|Wg<|Le<|A<|We ?_
  rcases condE b with ⟨ab,b⟩ | ⟨ab,b⟩
  ·refine CT ab<|Ws<|Wg<|M<|B b fun c av b=>W.call S rfl (zDv S.holds t av) ?_
   rintro v6 w7 H8 bd S ⟨ac,rfl,aa⟩
   refine M ?_
   refine Ex ?_
   refine Ex ?_
   refine W.alloc [(str []),(str []),(.slice none 0 0)] S zDQ ?_
   intro be bf S
   refine W.store (i:=0) [(str c.1.fType),(str c.1.fSub),ac] S rfl rfl rfl zA9 rfl (AllOne.all (l:=[(str c.1.fType),(str c.1.fSub),ac]) (.cons rfl (.cons rfl (.cons (Sl.oneC aa) .nil)))) (Nat.le_of_ble_eq_true rfl) rfl ?_
   intro bg S
   refine A<|We<|Ws<|Wg<|M<|B b fun o aw b=>W.call S rfl (zFx S.holds k aw) ?_
   rintro bh bi ax ay S ⟨ad,rfl,ap⟩
   have aa:=aa.up ay
   refine M ?_
   refine Ex ?_
   refine Ex ?_
   refine W.alloc [(str []),(str []),(.slice none 0 0)] S zDQ ?_
   intro bj bk S
   refine W.store (i:=0) [(str o.1.fType),(str o.1.fSub),ad] S rfl rfl rfl zA9 rfl (AllOne.all (l:=[(str o.1.fType),(str o.1.fSub),ad]) (.cons rfl (.cons rfl (.cons (Sl.oneC ap) .nil)))) (Nat.le_of_ble_eq_true rfl) rfl ?_
   intro bn S
   refine A<|We<|Ws<|Wg<|M<|M ?_
   refine WL.grp 2 [26] 27 (boo (c.2&&o.2)) ?_ ?_
   ·rcases boolE c.2 with u | u
    ·refine Gy u<|M<|Pt u ?_
     exact We ⟨(andT u),ag,rfl⟩
    refine Gn u<|Pf u ?_
    exact We ⟨(andF u),ag,rfl⟩
   intro us
   refine We ?_
   rcases condE b with ⟨ae,b⟩ | ⟨ae,b⟩
   ·refine CT ae<|Ws<|Wg ?_
    refine WL.w (R.loadBN (i:=1) (vs:=[(str c.1.fType),(str c.1.fSub),ac]) S rfl rfl zA9 rfl rfl) ?_
    refine WL.w (R.loadBN (i:=0) (vs:=[(str o.1.fType),(str o.1.fSub),ad]) S rfl rfl zA9 rfl rfl)<|B b fun bo az b=>W.call S rfl (zIX S.holds c.1 o.1 aa ap az) ?_
    rintro bp bq br bs S rfl
    refine A<|We ?_
    cases b
    exact WP.ret (Ri h S)
   refine CF ae<|Wk ?_
   cases b
   exact ⟨ax,(S.drop _ (.cons _ (.cons _ .slnil)))⟩
  refine CF ab<|Ws<|Wg<|Le<|A<|We ?_
  rcases condE b with ⟨af,b⟩ | ⟨af,b⟩
  ·refine CT af<|Ws<|Wg<|M<|M<|B b fun bt a0 b=>W.call S rfl (zJE S.holds t k a0) ?_
   rintro bu bv bw bx S rfl
   refine A<|We ?_
   cases b
   exact WP.ret (Ri h S)
  refine CF af<|Ws<|Ws<|Wg<|Le<|A<|We<|B b fun a1 x b=>WP.cut (fun f w=>∃ (ah:Hp),f 0=(int z)∧f 1=(str t)∧f 2=(str k)∧f 36=(boo a1)∧St v q w ah []) ?_ ?_
  ·rcases condE x with ⟨ai,x⟩ | ⟨ai,x⟩
   ·refine CT ai<|Wk ?_
    cases x
    exact ⟨q,rfl,rfl,rfl,rfl,S⟩
   refine CF ai<|Wg<|Le<|A<|We ?_
   cases x
   exact ⟨q,rfl,rfl,rfl,rfl,S⟩
  rintro f w ⟨ah,a2,aq,aj,ar,S⟩
  rcases condE b with ⟨ak,b⟩ | ⟨ak,b⟩
  ·refine WP.condT ar ak<|Ws<|Wg<|M' aq<|B b fun a3 a4 b=>W.call S rfl (zA4 S.holds t a4) ?_
   rintro bz b0 au b1 S rfl
   refine M<|B b fun al p b=>WL.grpw 3 [42,43] 44 (boo al) (fun w=>∃ H':Hp,au.le H'∧St v q w H' []) ?_ ?_
   ·rcases boolE a3 with d | d
    ·replace p:=condT p d
     refine Gy d<|M' aj<|Gy d<|B p fun b2 a5 p=>W.call S rfl (zA4 S.holds k a5) ?_
     rintro b3 b4 a6 a7 S rfl
     refine Pt d ?_
     exact We ⟨(ob p),ag,⟨a6,a7,S⟩⟩
    replace p:=condF p d
    refine Gn d<|Gn d<|Pf d ?_
    exact We ⟨(ob p),ag,⟨au,lr,S⟩⟩
   intro us b5 ⟨a8,b6,S⟩
   refine M ?_
   refine WL.grp 3 [46,47] 48 (boo (al&&(k !=[42]))) ?_ ?_
   ·rcases boolE al with j | j
    ·refine Gy j<|M' aj<|Gy j<|Nb<|Pt j ?_
     exact We ⟨(andT j),ag,rfl⟩
    refine Gn j<|Gn j<|Pf j ?_
    exact We ⟨(andF j),ag,rfl⟩
   intro us
   refine We ?_
   rcases condE b with ⟨am,b⟩ | ⟨am,b⟩
   ·refine CT am<|Ws<|Wg<|M' a2<|M' aq<|M' aj<|B b fun b7 a9 b=>W.call S rfl (zHx S.holds z t k a9) ?_
    rintro b8 b9 ca cb S rfl
    refine A<|We ?_
    cases b
    exact WP.ret (Ri h S)
   refine CF am<|Wk ?_
   cases b
   exact ⟨a8,S⟩
  refine WP.condF ar ak<|Wk ?_
  cases b
  exact ⟨ah,S⟩
 intro f w hM
 rcases j3 with _ | e
 ·obtain ⟨H1,S⟩:=hM
  refine Ws<|Wg<|A<|We ?_
  exact WP.ret (Ri h S)
 exact hM.elim
theorem zE3 {o:World} {d:Hp} (hw:Holds o d) (k:Int) (q:(List GPref)) (ah:Bool) (l:Str) {p:Value} (b:Sl d p q) {r:Int} (h:zBA k q ah l=some r) :
  Ci Tryz.prog 147 [(int k),p,(boo ah),(str l)] o d r:=by
 refine CM 45 Tryz.func147 hw fun S=>?_
 refine Ws<|Wg<|A<|We<|Ws<|Ws<|Wg<|M<|No<|We ?_
 rcases condE h with ⟨aa,h⟩ | ⟨aa,h⟩
 ·refine CT aa<|Ws<|Wg<|A<|We ?_
  exact WP.ret (Ri h S)
 refine CF aa<|Wk<|Ws<|Wg<|A<|A<|We<|Ws<|Ws<|Wg<|M<|Le ?_
 refine M<|B h fun b9 j h=>WL.grpw 3 [18,19] 20 (boo b9) (fun w=>∃ H':Hp,d.le H'∧St o d w H' []) ?_ ?_
 ·rcases boolE (k==4) with i | i
  ·replace j:=condT j i
   refine Gy i<|M<|Gy i<|B j fun r4 av j=>W.call S rfl (zBc S.holds l [105,100,101,110,116,105,116,121] av) ?_
   rintro v5 w6 H7 ai S rfl
   have b:=b.up ai
   refine Pt i ?_
   exact We ⟨(ob j),ag,⟨H7,ai,S⟩⟩
  replace j:=condF j i
  refine Gn i<|Gn i<|Pf i ?_
  exact We ⟨(ob j),ag,⟨d,lr,S⟩⟩
 intro us bo ⟨aj,ax,S⟩
 have b:=b.up ax
 refine We<|B h fun ak t h=>WP.cut (fun f w=>∃ (x:Hp),f 0=(int k)∧f 1=p∧f 3=(str l)∧f 9=(int (-1))∧f 10=(int ak)∧Sl x p q∧St o d w x []) ?_ ?_
 ·rcases condE t with ⟨ab,t⟩ | ⟨ab,t⟩
  ·refine CT ab<|Wg<|A<|We ?_
   cases t
   exact ⟨aj,rfl,rfl,rfl,rfl,rfl,b,S⟩
  refine CF ab<|Wk ?_
  cases t
  exact ⟨aj,rfl,rfl,rfl,rfl,rfl,b,S⟩
 rintro f w ⟨x,ay,az,a0,a1,a2,b,S⟩
 refine Ws<|Ws<|Wg<|A<|We<|B h fun al a3 h=>WP.cut (fun f w=>∃ (am:Hp),f 10=(int al)∧St o d w am []) ?_ ?_
 ·refine Wb ?_
  refine WP.loopM (zCZ k q l) (fun s f w=>match s with | (an,ao,ap)=>∃ (z:Hp),f 0=(int k)∧f 1=p∧f 3=(str l)∧f 9=(int an)∧f 10=(int ao)∧f 11=(int ap)∧Sl z p q∧St o d w z []) ((-1),ak,0) al a3 ?_ ?_
  ·exact ⟨x,ay,az,a0,a1,a2,rfl,b,S⟩
  intro s f w hI bp c a4
  obtain ⟨an,ao,ap⟩:=s
  obtain ⟨z,ac,u,ad,aq,ar,v,b,S⟩:=hI
  refine Ws<|Ws<|Wg<|M' v<|M' u<|Nq b<|La<|We ?_
  rcases condE c with ⟨ae,c⟩ | ⟨ae,c⟩
  ·refine CT ae<|Wk<|Ws<|Wb<|Ws<|Wg<|M' ac<|M' u<|M' v<|B c fun a5 a6 c=>W.idx (α:=GPref) b rfl rfl el122 a6 ?_
   rintro bq _ a7 rfl
   refine Fc ?_
   have a8:=At.add a7 0 (by simp)
   refine Lq S a8<|M' ad<|B c fun br a9 c=>W.call S rfl (zKe S.holds k a5.fRange l a9) ?_
   rintro bs bt ba bb S rfl
   have b:=b.up bb
   refine A<|We<|Ws<|Wg<|M<|M' aq<|Lc<|We ?_
   rcases condE c with ⟨af,c⟩ | ⟨af,c⟩
   ·refine CT af<|WP.quiet S kr kr<|QM<|QM' u<|QM' v<|B c fun bc bd c=>WQ.idx (α:=GPref) b rfl rfl el122 bd ?_
    rintro bu _ be rfl
    refine QFc ?_
    have bf:=At.add be 1 (by simp)
    refine QH (int bc.fQ) bf<|QA<|QA<|WQ.nil ?_
    intro bv bg bh S
    have b:=b.up bh
    refine Wg<|M' v<|Lg<|A<|We ?_
    cases c
    exact ⟨rfl,⟨bg,ac,u,ad,rfl,rfl,rfl,b,S⟩⟩
   refine CF af<|Wk<|Wg<|M' v<|Lg<|A<|We ?_
   cases c
   exact ⟨rfl,⟨ba,ac,u,ad,aq,ar,rfl,b,S⟩⟩
  refine CF ae<|Wx ?_
  cases c
  obtain rfl:=a4
  exact ⟨z,ar,S⟩
 rintro f w ⟨am,bi,S⟩
 refine Ws<|Wg<|M' bi<|A<|We ?_
 exact WP.ret (Ri h S)
end Go.Proofs
