/- A part. -/
import Derived.Test.YtffangblkofjdaaGreatDoorEng38
import Derived.Test.YtffangblkofjdaaGreatDoorEng35
import Derived.Test.YtffangblkofjdaaGreatDoorGenM4
namespace Go.Proofs
set_option maxHeartbeats 4000000
set_option maxRecDepth 10000
open Go Go.Eng Go.VI Go.Eng.Pure
set_option linter.unusedVariables false
set_option maxRecDepth 10000
set_option maxHeartbeats 4000000
theorem c41:FE.ok (U:=UU) Tryz.prog ⟨41,[(.sl (.st 62)),(.sl (.st 41)),.boo,.int],[(.sl (.sl .str))],fun x=>zDY x.1 x.2.1 x.2.2.1 x.2.2.2⟩:=@fun w H az x y hw hg b hT h=>by
 obtain ⟨l,_,rfl,c,⟨o,_,rfl,d,⟨f,_,rfl,i,⟨j,rfl,k⟩⟩⟩⟩:=hT
 obtain rfl:f=_:=i
 obtain rfl:j=_:=k
 exact (zH5 hw b x.1 x.2.1 x.2.2.1 x.2.2.2 c d h).mono (fun _ v K0=>⟨[v],rfl,v,rfl,K0⟩)
theorem c19:FE.ok (U:=UU) Tryz.prog ⟨19,[(.sl (.st 62)),(.sl (.st 41)),.boo],[(.sl .str),.boo],fun x=>zCc x.1 x.2.1 x.2.2⟩:=mk (fcons c41 anil) (.e) Tryz.func19
theorem zHg {c : World} {b : Hp} (hw : Holds c b) (hG : Tryz.Gl c) (d : (List GAxis)) (f : (List GField)) (i : Bool) {j : Value} {k : Value} (o : Sl b j d) (p : Sl b k f) {r : ((List Str) × Bool)} (h : zCc d f i = some r) :
    Con Tryz.prog 19 [j,k,(boo i)] c b (fun H' v=>∃ l:Value,v=(.tuple ⟨[l,(boo r.2)]⟩)∧Sl H' l r.1):=by
  refine (c19 (xs:=(d,f,i)) (y:=r) hw (fun _ _ e=>by cases e) hG ⟨_,_,rfl,o,⟨_,_,rfl,p,⟨_,rfl,rfl⟩⟩⟩ h).mono ?_
  rintro _ v ⟨_,rfl,D⟩
  obtain ⟨x,_,rfl,K0,⟨t,rfl,u⟩⟩:=D
  obtain rfl:t=_:=u
  exact ⟨_,rfl,K0⟩
end Go.Proofs
namespace Go.Proofs
open Go.Eng Go.Eng.Pure
set_option linter.unusedVariables false
theorem zRu:fld Tryz.prog 38 0=some 0:=by kernel_rfl
instance:Fld Tryz.prog 38 0 0:=⟨zRu⟩
theorem lay35:lay Tryz.prog 35=some (false,1):=by kernel_rfl
instance:Lay Tryz.prog 35 (false,1):=⟨lay35⟩
theorem zCd {j : World} {c : Hp} (hw : Holds j c) (hG : Tryz.Gl j) (k : (List (List Str))) (p : ((List Str) → Option Bool)) {l : Value} {kp_f : FuncId} {cp_f : List Value} (d : Sl c l k) (Fp_f : ∀ {w : World} {H : Hp}, c.le H → Holds w H → Tryz.Gl w → ∀ (x0 : (List Str)), ∀ {y0 : Value}, Sl H y0 x0 → ∀ (rr : Bool), p x0 = some rr → Con Tryz.prog kp_f ([y0] ++ cp_f) w H (fun H' v => v = (boo rr))) {r : Int} (h : zAu k p = some r) :
    Ci Tryz.prog 90 [l,(.func (.func kp_f) #[] cp_f.toArray)] j c r:=by
  refine CM 19 Tryz.func90 hw fun S=>?_
  refine Ws<|Wg<|A<|We<|Ws<|Ws<|Wg<|M<|Nq d<|M<|We<|B h fun t ai h=>WP.cut (fun f w=>match t with | .inl _=>∃ (H7:Hp),St j c w H7 [] | .inr _=>False) ?_ ?_
  · refine WP.block ?_
    refine WP.loopM (zAO k p) (fun s f w=>match s with | i=>∃ (o:Hp),f 0=l∧f 1=(.func (.func kp_f) #[] cp_f.toArray)∧f 7=(int (k.length:Int))∧f 8=(int i)∧Sl o l k∧St j c w o []) 0 t ai ?_ ?_
    · exact ⟨c,rfl,rfl,rfl,rfl,d,S⟩
     intro i f w hI y8 b ad
     obtain ⟨o,h2,h3,h4,u,d,S⟩:=hI
     refine Ws<|Wg<|La' u h4<|We<|Ws ?_
     rcases condE b with ⟨x,b⟩ | ⟨x,b⟩
     · refine WP.condT rfl x<|WP.skip<|WP.s<|WP.block<|WP.s<|WP.g<|WL.m (int i) u<|WL.a (int i) rfl<|WL.e<|WP.s<|WP.g<|WL.m (.func (.func kp_f) #[] cp_f.toArray) h3 ?_
       refine M' h2<|M<|B b fun aj ak b=>W.idx (α:=(List Str)) d rfl rfl el35 ak ?_
       rintro au _ al ⟨av,rfl,am⟩
       refine Lq S al<|B b fun aw an b=>W.callv S rfl rfl (Fp_f (S.post.le) S.holds (hG.post S.post) aj am _ an) ?_
       rintro ax ay ao ap S rfl
       have d:=d.up ap
       refine We ?_
       rcases condE b with ⟨z,b⟩ | ⟨z,b⟩
       · refine WP.condT rfl z<|WP.s<|WP.g<|WL.m (int i) rfl<|WL.a (int i) rfl<|WL.e ?_
         obtain rfl:=oi b
         obtain rfl:=ad
         exact WP.ret (Ri h S)
        refine WP.condF rfl z<|WP.skip<|WP.g<|WL.w (R.add u rfl)<|WL.m (int (wr (i+1))) rfl<|WL.e ?_
        obtain rfl:=oi b
        exact ⟨rfl,⟨ao,h2,h3,h4,rfl,d,S⟩⟩
      refine WP.condF rfl x<|WP.exit ?_
      obtain rfl:=oi b
      obtain rfl:=ad
      exact ⟨o,S⟩
   intro f w hM
   rcases t with _ | e
   · obtain ⟨H7,S⟩:=hM
     refine Ws<|Wg<|A<|We ?_
     exact WP.ret (Ri h S)
    exact hM.elim
theorem zCB {c : World} {b : Hp} (hw : Holds c b) (hG : Tryz.Gl c) (d : (List (List Str))) (f : ((List Str) → Option Bool)) {i : Value} {kp_f : FuncId} {cp_f : List Value} (l : Sl b i d) (Fp_f : ∀ {w : World} {H : Hp}, b.le H → Holds w H → Tryz.Gl w → ∀ (j : (List Str)), ∀ {k : Value}, Sl H k j → ∀ (rr : Bool), f j = some rr → Con Tryz.prog kp_f ([k] ++ cp_f) w H (fun H' v => v = (boo rr))) {r : Bool} (h : zAb d f = some r) :
    Cb Tryz.prog 42 [i,(.func (.func kp_f) #[] cp_f.toArray)] c b r:=by
  refine CM 9 Tryz.func42 hw fun S=>?_
  refine Ws<|Wg<|A<|We<|Ws<|Wg<|M<|M<|B h fun p o h=>W.call S rfl (zCd S.holds (hG.post S.post) d f l (fun hle=>Fp_f (Hp.le.trans S.post.le hle)) o) ?_
  rintro t u x z S rfl
  refine Ld<|A<|We ?_
  exact WP.ret (Rb h S)
theorem zE4 {d ws : World} {k Hs : Hp} {l : List Ent} (hG : Tryz.Gl d) (f : Str) (j : Str) (o : (List GAxis)) (b : Int) {p : Value} {c : Nat} {t : Addr} (S : St d k ws Hs (.box c 3 [(int b)] :: l)) (u : At Hs t [p]) (x : Sl Hs p o) {r : (Bool × Int)} (h : zCa f j o b = some r) :
    ConS Tryz.prog 92 [(str f),(str j),(ptr c 0),(.pointer (some t))] d k ws Hs l (fun H' v L'=>L'=[.box c 3 [(int r.2)]]∧v=(boo r.1)):=by
  refine ConS.mk (N:=17) Tryz.func92 rfl rfl kr rfl<|Ws<|Wg<|A<|We<|Ws<|Wg ?_
  refine Lo 0 S<|Lg ?_
  refine W.store (i:=0) [(int (wr (b+1)))] S rfl rfl rfl lay3 rfl rfl (Nat.le_of_ble_eq_true rfl) rfl ?_
  intro w1 S
  refine We<|Ws<|Wg ?_
  refine Lq S u ?_
  refine Lo 0 S<|B h fun z aa h=>W.idx (α:=GAxis) x rfl rfl el22 aa ?_
  rintro a3 _ ab ⟨v5,rfl,R6⟩
  refine Fc ?_
  have ac:=At.add ab 0 (by simp)
  refine Lq S ac<|M<|M<|B h fun r8 ad h=>W.call S rfl (zFe S.holds (hG.post S.post) z.fName f j ad) ?_
  rintro v9 am an ae S rfl
  refine A<|We ?_
  obtain rfl:=oi h
  refine WP.ret (OutS.one (L':=[.box c 3 [(int (wr (b+1)))]]) rfl ae S rfl ?_)
  exact ⟨rfl,rfl⟩
theorem zBe {j ws : World} {l Hs : Hp} {o : List Ent} (hG : Tryz.Gl j) (p : (List Str)) (aa : (List Str)) (t : (List GAxis)) (s0 : Int) {u : Value} {ac : Value} {vq00 : Value} {c : Nat} {aq0 : Addr} (S : St j l ws Hs (.box c 3 [(int s0)] :: o)) (i : Sl Hs u p) (k : Sl Hs ac aa) (Aq0 : At Hs aq0 [vq00]) (Rq00 : Sl Hs vq00 t) {r : (Bool × Int)} (h : zAc p aa t s0 = some r) :
    ConS Tryz.prog 91 [u,ac,(.func (.func 92) #[] [(ptr c 0),(.pointer (some aq0))].toArray)] j l ws Hs o (fun H' v L'=>L'=[.box c 3 [(int r.2)]]∧v=(boo r.1)):=by
  refine ConS.mk (N:=32) Tryz.func91 rfl rfl kr rfl<|Ws<|Wg<|A<|We<|Ws<|Ws<|Wg<|M<|Nq i<|M<|Nq k ?_
  refine Lf<|We ?_
  rcases condE h with ⟨ah,h⟩ | ⟨ah,h⟩
  · refine WP.condT rfl ah<|WP.s<|WP.g<|WL.a (boo false) rfl<|WL.e ?_
    obtain rfl:=oi h
    refine WP.ret (OutS.one (L':=[.box c 3 [(int s0)]]) rfl lr S rfl ?_)
    exact ⟨rfl,rfl⟩
   refine WP.condF rfl ah<|WP.skip<|WP.s<|WP.s<|WP.g<|WL.m (u) rfl<|WL.w (R.lenL (α:=Str) (xs:=p) (H:=Hs) i rfl Tryz.underlying36)<|WL.m (int 0) rfl<|WL.e ?_
   refine B h fun ai ax h=>WP.cut (fun f w=>match ai with | .inl aj=>∃ (x:Hp),f 2=(.func (.func 92) #[] [(ptr c 0),(.pointer (some aq0))].toArray)∧At x aq0 [vq00]∧Sl x vq00 t∧Hp.le Hs x∧St j l w x (.box c 3 [(int aj)] :: o) | .inr _=>False) ?_ ?_
   · refine WP.block ?_
     refine WP.loopM (zAJ p aa t) (fun s f w=>match s with | (ad,m9)=>∃ (d:Hp),f 1=ac∧f 2=(.func (.func 92) #[] [(ptr c 0),(.pointer (some aq0))].toArray)∧f 15=u∧f 16=(int (p.length:Int))∧f 17=(int ad)∧Sl d ac aa∧At d aq0 [vq00]∧Sl d vq00 t∧Sl d u p∧Hp.le Hs d∧St j l w d (.box c 3 [(int m9)] :: o)) (0,s0) ai ax ?_ ?_
     · exact ⟨Hs,rfl,rfl,rfl,rfl,rfl,k,Aq0,Rq00,i,lr,S⟩
      intro s f w hI a6 b ao
      obtain ⟨ad,m9⟩:=s
      obtain ⟨d,h3,h4,h5,h6,h8,k,Aq0,Rq00,i,al,S⟩:=hI
      refine Ws<|Wg<|La' h8 h6<|We<|Ws ?_
      rcases condE b with ⟨am,b⟩ | ⟨am,b⟩
      · refine WP.condT rfl am<|WP.skip<|WP.s<|WP.block<|WP.s<|WP.g<|WL.m (int ad) h8 ?_
        refine B b fun ay az b=>W.idx (α:=Str) i h5 h8 el36 az ?_
        rintro a7 _ a0 rfl
        refine Lq S a0<|A<|A<|We<|Ws<|Wg<|M' h3<|M<|B b fun a1 a2 b=>W.idx (α:=Str) k rfl rfl el36 a2 ?_
        rintro a8 _ a3 rfl
        refine Lq S a3<|A<|We<|Ws<|Wg<|M' h4<|M<|M ?_
        replace S:St j l _ d (.box c 3 [(int m9)] :: o):=S
        refine B b fun av a4 b=>W.callvS rfl rfl (zE4 hG ay a1 t m9 S Aq0 Rq00 a4) ?_
        rintro a9 ba aw bb z S ⟨rfl,rfl⟩
        replace S:St j l _ aw (.box c 3 [(int av.2)] :: o):=S
        have k:=k.up z
        have Aq0:=At.mono Aq0 z (by simp)
        have ⟨Rq00,i⟩:=U2 z Rq00 i
        refine No<|We ?_
        rcases condE b with ⟨an,b⟩ | ⟨an,b⟩
        · refine WP.condT rfl an<|WP.s<|WP.g<|WL.a (boo false) rfl<|WL.e ?_
          obtain rfl:=oi b
          obtain rfl:=ao
          obtain rfl:=oi h
          refine WP.ret (OutS.one (L':=[.box c 3 [(int av.2)]]) rfl (al.trans z) S rfl ?_)
          exact ⟨rfl,rfl⟩
         refine WP.condF rfl an<|WP.skip<|WP.g<|WL.w (R.add h8 rfl)<|WL.m (int (wr (ad+1))) rfl<|WL.e ?_
         obtain rfl:=oi b
         exact ⟨rfl,⟨aw,h3,h4,h5,h6,rfl,k,Aq0,Rq00,i,(al.trans z),S⟩⟩
       refine WP.condF rfl am<|WP.exit ?_
       obtain rfl:=oi b
       obtain rfl:=ao
       exact ⟨d,h4,Aq0,Rq00,al,S⟩
    intro f w hM
    rcases ai with aj | e
    · obtain ⟨x,bc,Aq0,Rq00,a5,S⟩:=hM
      refine Ws<|Wg<|A<|We ?_
      obtain rfl:=oi h
      refine WP.ret (OutS.one (L':=[.box c 3 [(int aj)]]) rfl a5 S rfl ?_)
      exact ⟨rfl,rfl⟩
     exact hM.elim
theorem zHT {c : World} {b : Hp} (hw : Holds c b) (hG : Tryz.Gl c) (l : (List GAxis)) (o : (List Str)) (p : (List Str)) {f : Value} {x : Value} {z : Value} (d : Sl b f l) (j : Sl b x o) (t : Sl b z p) {r : Bool} (h : zC8 l o p = some r) :
    Cb Tryz.prog 44 [f,x,z] c b r:=by
  refine CM 17 Tryz.func44 hw fun S=>?_
  refine Ws<|Wg ?_
  refine W.box [f] S rfl (congrArg Array.toList (Sl.cellsOne d)) ?_
  intro b1 w2 S
  refine A<|We<|Ws<|Ws<|Wg<|M<|Nq j ?_
  refine Lo 0 S<|Nq d<|Lf<|We ?_
  rcases condE h with ⟨u,h⟩ | ⟨u,h⟩
  · refine WP.condT rfl u<|WP.s<|WP.g<|WL.a (boo false) rfl<|WL.e ?_
    exact WP.ret (Rb h S)
   refine WP.condF rfl u<|WP.skip<|WP.s<|WP.g<|W.alloc [(int 0)] S zer3 ?_
   intro k w5 S
   refine W.store (i:=0) [(int (-1))] S rfl rfl rfl lay3 rfl rfl (Nat.le_of_ble_eq_true rfl) rfl ?_
   intro w6 S
   refine We<|Ws<|Wg<|M<|M ?_
   obtain ⟨v,ab,ac,_,S⟩:=S.settle (i:=1) rfl
   replace S:St c b _ v [.box k 3 [(int (-1))]]:=S
   have ad:At v ⟨b1,0,none⟩ [f]:=⟨_,_,rfl,ac,[],by simp⟩
   have ⟨d,j,t⟩:=U3 ab d j t
   refine WL.w (R.mkFunc (vs:=[(ptr k 0),(.pointer (some ⟨b1,0,none⟩))]) rfl) ?_
   replace S:St c b _ v [.box k 3 [(int (-1))]]:=S
   refine B h fun ae af h=>W.callS rfl (zBe hG o p l (-1) S j t ad d af) ?_
   rintro al am ah an ao S ⟨rfl,rfl⟩
   replace S:St c b _ ah [.box k 3 [(int ae.2)]]:=S
   refine A<|We ?_
   exact WP.ret (Rb h S)
theorem zJf {c : World} {b : Hp} (hw : Holds c b) (hG : Tryz.Gl c) (d : (List Str)) (f : (List GAxis)) (i : (List Str)) {j : Value} {k : Value} {l : Value} {o : Addr} {p : Addr} (t : Sl b j d) (u : At b o [k]) (v : Sl b k f) (x : At b p [l]) (z : Sl b l i) {r : Bool} (h : zER d f i = some r) :
    Cb Tryz.prog 43 [j,(.pointer (some o)),(.pointer (some p))] c b r:=by
  refine CM 9 Tryz.func43 hw fun S=>?_
  refine Ws<|Wg<|A<|We<|Ws<|Wg ?_
  refine Lq S u<|M ?_
  refine Lq S x<|B h fun r1 aa h=>W.call S rfl (zHT S.holds (hG.post S.post) f d i v t z aa) ?_
  rintro v2 w3 H4 af S rfl
  refine A<|We ?_
  exact WP.ret (Rb h S)
theorem zLu {j : World} {c : Hp} (hw : Holds j c) (hG : Tryz.Gl j) (v : (List GAxis)) (b : GEntry) (x : (List Str)) {z : Value} {k : Value} {l : Value} {o : Value} {p : Value} {t : Value} (d : Sl c z v) (u : Sl c k b.fKeys) (ap : Sl c l b.fVary) (aq : Sl c o b.fSnapshot) (au : Sl c p b.fFields) (f : Sl c t x) {r : Bool} (h : zG6 v b x = some r) :
    Cb Tryz.prog 21 [z,(agg [k,l,o,(str b.fReason),p,(str b.fBody),(int b.fRequested),(int b.fReceived)]),t] j c r:=by
  refine CM 11 Tryz.func21 hw fun S=>?_
  refine Ws<|Wg ?_
  refine W.box [z] S rfl (congrArg Array.toList (Sl.cellsOne d)) ?_
  intro b1 w2 S
  refine W.box [k,l,o,(str b.fReason),p,(str b.fBody),(int b.fRequested),(int b.fReceived)] S rfl rfl ?_
  intro b3 w4 S
  refine W.box [t] S rfl (congrArg Array.toList (Sl.cellsOne f)) ?_
  intro b5 w6 S
  refine A<|We<|Ws<|Wg<|Fb ?_
  refine Lo 1 S ?_
  obtain ⟨H7,aj,ak,_,S⟩:=S.settle (i:=2) rfl
  replace S:St j c _ H7 [.box b5 36 [t],.box b3 38 [k,l,o,(str b.fReason),p,(str b.fBody),(int b.fRequested),(int b.fReceived)]]:=S
  have ab:At H7 ⟨b1,0,none⟩ [z]:=⟨_,_,rfl,ak,[],by simp⟩
  have ⟨d,u,f⟩:=U3 aj d u f
  obtain ⟨ah,ai,al,_,S⟩:=S.settle (i:=0) rfl
  replace S:St j c _ ah [.box b3 38 [k,l,o,(str b.fReason),p,(str b.fBody),(int b.fRequested),(int b.fReceived)]]:=S
  have am:At ah ⟨b5,0,none⟩ [t]:=⟨_,_,rfl,al,[],by simp⟩
  have ⟨d,u,f⟩:=U3 ai d u f
  have ab:=At.mono ab ai (by simp)
  refine WL.w (R.mkFunc (vs:=[(.pointer (some ⟨b1,0,none⟩)),(.pointer (some ⟨b5,0,none⟩))]) rfl)<|B h fun ay an h=>W.call S rfl (zCB S.holds (hG.post S.post) b.fKeys (fun x0=>zER x0 v x) u (fun hle hw hG x0=>fun q0 r h=>zJf hw hG x0 v x q0 (At.mono ab hle (by simp)) (d.up hle) (At.mono am hle (by simp)) (f.up hle) h) an) ?_
  rintro az a0 a1 a2 S rfl
  refine A<|We ?_
  exact WP.ret (Rb h S)
theorem zJV {o : World} {c : Hp} (hw : Holds o c) (hG : Tryz.Gl o) (b : GEntry) (d : GTable) (p : (List Str)) {f : Value} {j : Value} {k : Value} {l : Value} {t : Value} {u : Value} {v : Value} {x : Addr} {z : Addr} (aa : Sl c f b.fKeys) (ab : Sl c j b.fVary) (ac : Sl c k b.fSnapshot) (ad : Sl c l b.fFields) (ae : At c x [t, u]) (af : Sl c t d.fAxes) (al : Sl c u d.fEntries) (ah : At c z [v]) (ai : Sl c v p) {r : Bool} (h : zEg b d p = some r) :
    Cb Tryz.prog 20 [(agg [f,j,k,(str b.fReason),l,(str b.fBody),(int b.fRequested),(int b.fReceived)]),(.pointer (some x)),(.pointer (some z))] o c r:=by
  refine CM 10 Tryz.func20 hw fun S=>?_
  refine Ws<|Wg ?_
  refine W.box [f,j,k,(str b.fReason),l,(str b.fBody),(int b.fRequested),(int b.fReceived)] S rfl rfl ?_
  intro b1 w2 S
  refine A<|We<|Ws<|Wg<|Fc ?_
  have aj:=At.add ae 0 (by simp)
  refine Lq S aj ?_
  refine WL.w (R.loadBN (i:=0) (vs:=[f,j,k,(str b.fReason),l,(str b.fBody),(int b.fRequested),(int b.fReceived)]) S rfl rfl lay38 rfl rfl) ?_
  refine Lq S ah<|B h fun r4 ak h=>W.call S rfl (zLu S.holds (hG.post S.post) d.fAxes b p af aa ab ac ad ai ak) ?_
  rintro v5 w6 H7 av S rfl
  refine A<|We ?_
  exact WP.ret (Rb h S)
theorem zKk {p : World} {d : Hp} (hw : Holds p d) (hG : Tryz.Gl p) (f : GTable) (x : (List GField)) (z : Bool) {t : Value} {j : Value} {k : Value} (b : Sl d t f.fAxes) (c : Sl d j f.fEntries) (l : Sl d k x) {r : (Int × Bool)} (h : zD9 f x z = some r) :
    Con Tryz.prog 8 [(agg [t,j]),k,(boo z)] p d (fun H' v=>v=(.tuple ⟨[(int r.1),(boo r.2)]⟩)):=by
  refine CM 32 Tryz.func8 hw fun S=>?_
  refine Ws<|Wg ?_
  refine W.box [t,j] S rfl rfl ?_
  intro b1 w2 S
  refine W.box [k] S rfl (congrArg Array.toList (Sl.cellsOne l)) ?_
  intro b3 w4 S
  refine A<|A<|We<|Ws<|Ws<|Wg<|Fb ?_
  refine Lo 1 S<|Nq b<|Le<|We ?_
  rcases condE h with ⟨ac,h⟩ | ⟨ac,h⟩
  · refine WP.condT rfl ac<|WP.s<|WP.g<|WL.w (R.fieldB rfl zL8)<|WL.w (R.loadB (i:=1) (v:=j) S rfl rfl lay23 rfl) ?_
    obtain ⟨H6,au,av,_,S⟩:=S.settle (i:=0) rfl
    replace S:St p d _ H6 [.box b1 25 [t,j]]:=S
    have aw:At H6 ⟨b3,0,none⟩ [k]:=⟨_,_,rfl,av,[],by simp⟩
    have ⟨b,c,l⟩:=U3 au b c l
    refine WL.w (R.mkFunc (vs:=[(.pointer (some ⟨b3,0,none⟩))]) rfl)<|B h fun a8 ax h=>W.call S rfl (zHU S.holds (hG.post S.post) f.fEntries (fun o=>zEX o x) c (fun hle hw hG o=>fun ad ae af ah r h=>zIx hw hG o x ad ae af ah (At.mono aw hle (by simp)) (l.up hle) h) ax) ?_
    rintro a9 ba bb ay S rfl
    have ⟨b,c,l⟩:=U3 ay b c l
    refine A<|A<|We ?_
    obtain rfl:=oi h
    refine WP.ret (Out.two rfl S rfl rfl ?_)
    exact rfl
   refine WP.condF rfl ac<|WP.skip<|WP.s<|WP.g<|WL.w (R.fieldB rfl zO8)<|WL.w (R.loadB (i:=1) (v:=t) S rfl rfl lay22 rfl)<|WL.w (R.loadB (i:=0) (v:=k) S rfl rfl lay26 rfl)<|WL.m (boo z) rfl ?_
   refine B h fun ao az h=>W.call S rfl (zHg S.holds (hG.post S.post) f.fAxes x z b l az) ?_
   rintro bc bd be a0 S ⟨ai,rfl,u⟩
   have ⟨b,c⟩:=U2 a0 b c
   refine M ?_
   refine Ex ?_
   refine Ex ?_
   refine W.alloc [(.slice none 0 0)] S zer36 ?_
   intro aj bf S
   refine W.storeSl (α:=Str) (i:=0) [ai] S u rfl rfl rfl lay36 (Nat.le_of_ble_eq_true rfl) rfl ?_
   intro bg S
   refine A<|We<|Ws<|Ws<|Wg<|M<|No<|We ?_
   rcases condE h with ⟨ak,h⟩ | ⟨ak,h⟩
   · refine WP.condT rfl ak<|WP.s<|WP.g<|WL.a (int (-1)) rfl<|WL.a (boo false) rfl<|WL.e ?_
     obtain rfl:=oi h
     refine WP.ret (Out.two rfl S rfl rfl ?_)
     exact rfl
    refine WP.condF rfl ak<|WP.skip<|WP.s<|WP.g<|WL.w (R.fieldB rfl zL8)<|WL.w (R.loadB (i:=2) (v:=j) S rfl rfl lay23 rfl) ?_
    obtain ⟨ap,a1,a2,_,S⟩:=S.settle (i:=2) rfl
    replace S:St p d _ ap [.box aj 36 [ai],.box b3 26 [k]]:=S
    have al:At ap ⟨b1,0,none⟩ [t,j]:=⟨_,_,rfl,a2,[],by simp⟩
    have ⟨b,c,u⟩:=U3 a1 b c u
    obtain ⟨aq,am,a3,_,S⟩:=S.settle (i:=0) rfl
    replace S:St p d _ aq [.box b3 26 [k]]:=S
    have a4:At aq ⟨aj,0,none⟩ [ai]:=⟨_,_,rfl,a3,[],by simp⟩
    have ⟨b,c⟩:=U2 am b c
    have al:=At.mono al am (by simp)
    have u:=u.up am
    refine WL.w (R.mkFunc (vs:=[(.pointer (some ⟨b1,0,none⟩)),(.pointer (some ⟨aj,0,none⟩))]) rfl)<|B h fun bh a5 h=>W.call S rfl (zHU S.holds (hG.post S.post) f.fEntries (fun o=>zEg o f ao.1) c (fun hle hw hG o=>fun ad ae af ah r h=>zJV hw hG o f ao.1 ad ae af ah (At.mono al hle (by simp)) (b.up hle) (c.up hle) (At.mono a4 hle (by simp)) (u.up hle) h) a5) ?_
    rintro bi bj bn bo S rfl
    refine A<|A<|We ?_
    obtain rfl:=oi h
    refine WP.ret (Out.two rfl S rfl rfl ?_)
    exact rfl
end Go.Proofs
namespace Go.Proofs
open Go Go.Eng Go.VI Go.Eng.Pure
set_option linter.unusedVariables false
set_option maxRecDepth 10000
set_option maxHeartbeats 4000000
theorem c8:FE.ok (U:=UU) Tryz.prog ⟨8,[(.st 25),(.sl (.st 41)),.boo],[.int,.boo],fun x=>zD9 x.1 x.2.1 x.2.2⟩:=@fun w H az x y hw hg b hT h=>by
 obtain ⟨j,_,rfl,c,⟨k,_,rfl,d,⟨f,rfl,i⟩⟩⟩:=hT
 obtain ⟨_,rfl,⟨_,_,rfl,S0_0,S0_1⟩⟩:=c
 obtain rfl:f=_:=i
 exact (zKk hw b x.1 x.2.1 x.2.2 S0_0 S0_1 d h).mono (fun _ _ e=>⟨[_,_],e,_,_,rfl,rfl,⟨_,rfl,rfl⟩⟩)
theorem c280:FE.ok (U:=UU) Tryz.prog ⟨280,[.str],[.int],fun x=>zIH x⟩:=mk anil (.n .e (.n (.n .e (.lp ⟨[⟨.sl 3,.int,none⟩],some [],[]⟩ (some ⟨[],some [],[]⟩) true .e)) .e)) Tryz.func280
theorem c279:FE.ok (U:=UU) Tryz.prog ⟨279,[.str],[.int],fun x=>zJ9 x⟩:=mk (fcons c177 anil) (.e) Tryz.func279
end Go.Proofs
namespace Go.Proofs
open Go.Eng Go.Eng.Pure
set_option linter.unusedVariables false
theorem zGx {l : World} {o : Hp} (hw : Holds l o) (hG : Tryz.Gl l) (f : Str) (c : Str) {r : Str} (h : zDq f c = some r) :
    Cs Tryz.prog 278 [(str f),(str c)] l o r:=by
  refine CM 37 Tryz.func278 hw fun S=>?_
  refine Ws<|Wg<|A<|We<|Ws<|Ws<|Wg<|M<|Na<|M ?_
  refine WL.grp 3 [10,11] 12 (boo ((f==[])||(c==[]))) ?_ ?_
  · rcases boolE (f==[]) with j | j
    · refine WL.n rfl rfl j<|WL.n rfl rfl j<|WL.w (R.pickT rfl j rfl) ?_
      exact We ⟨(orT j),ag,rfl⟩
     refine WL.y rfl rfl j<|WL.m (str c) rfl<|WL.y rfl rfl j<|WL.w (R.eqlS (a:=c) (b:=[]) rfl rfl)<|WL.w (R.pickF rfl j rfl) ?_
     exact We ⟨(orF j),ag,rfl⟩
   intro us
   refine We ?_
   rcases condE h with ⟨p,h⟩ | ⟨p,h⟩
   · refine WP.condT rfl p<|WP.s<|WP.g<|WL.m (str f) rfl<|WL.a (str f) rfl<|WL.e ?_
     exact WP.ret (Rs h S)
    refine WP.condF rfl p<|WP.skip<|WP.s<|WP.s<|WP.g<|WL.m (str c) rfl<|WL.w (R.lenS (a:=c) rfl Tryz.underlying9)<|WL.w (R.eql rfl rfl)<|WL.m (boo ((c.length:Int)==1)) rfl ?_
    refine B h fun v k h=>WL.grp 4 [18,19,20] 21 (boo v) ?_ ?_
    · rcases boolE ((c.length:Int)==1) with d | d
      · replace k:=condT k d
        refine Gy d<|M<|Gy d<|B k fun c6 x k=>Ja x<|Gy d<|Ma c6 128<|Pt d ?_
        exact We ⟨(ob k),ag,rfl⟩
       replace k:=condF k d
       refine Gn d<|Gn d<|Gn d<|Pf d ?_
       exact We ⟨(ob k),ag,rfl⟩
     intro us
     refine We ?_
     rcases condE h with ⟨t,h⟩ | ⟨t,h⟩
     · refine WP.condT rfl t<|WP.s<|WP.g<|WL.m (str f) rfl<|WL.m (str c) rfl ?_
       refine B h fun c9 z h=>Ja z<|B h fun ah aa h=>W.call S rfl (zDA S.holds (hG.post S.post) f c9 aa) ?_
       rintro ai aj ak al S rfl
       refine A<|We ?_
       exact WP.ret (Rs h S)
      refine WP.condF rfl t<|WP.skip<|WP.s<|WP.s<|WP.g<|WL.m (str c) rfl ?_
      refine B h fun am ab h=>W.call S rfl (zC1 S.holds c ab) ?_
      rintro an ao ap aq S rfl
      refine M ?_
      refine Ex ?_
      refine Ex ?_
      refine W.alloc (List.replicate 256 (boo false)) S zQ0 ?_
      intro ac au S
      refine W.store (i:=0) (setc c) S rfl rfl rfl zPN (show (Lib.setCells c).size=256 by have:=zEh c; simpa [setc] using this) (zMu c) (Nat.le_of_eq (by rw [List.length_replicate])) (zJv ((zEh c).trans (by rw [List.length_replicate]))) ?_
      intro av S
      obtain ⟨u,aw,ad,_,S⟩:=S.settle (i:=0) rfl
      replace S:St l o _ u []:=S
      have ae:At u ⟨ac,0,none⟩ (setc c):=⟨_,_,rfl,ad,[],by simp⟩
      refine A<|We<|Ws<|Wg<|M<|We<|WP.condT (b:=true) rfl rfl<|Ws<|Wg<|M<|B h fun ax af h=>W.call S rfl (zCu S.holds (hG.post S.post) f c ae af) ?_
      rintro ay az a0 a1 S rfl
      refine A<|We ?_
      exact WP.ret (Rs h S)
end Go.Proofs
namespace Go.Proofs
open Go Go.Eng Go.VI Go.Eng.Pure
set_option linter.unusedVariables false
set_option maxRecDepth 10000
set_option maxHeartbeats 4000000
theorem c278:FE.ok (U:=UU) Tryz.prog ⟨278,[.str,.str],[.str],fun x=>zDq x.1 x.2⟩:=@fun w H az x y hw hg b hT h=>by
 obtain ⟨c,_,rfl,d,⟨f,rfl,i⟩⟩:=hT
 obtain rfl:c=_:=d
 obtain rfl:f=_:=i
 exact (zGx hw b x.1 x.2 h).mono (fun _ _ e=>⟨[_],e,_,rfl,rfl⟩)
theorem c227:FE.ok (U:=UU) Tryz.prog ⟨227,[.str],[(.sl .str),.boo],fun x=>zJr x⟩:=mk (fcons c280 (fcons c279 (fcons c278 (fcons c216 anil)))) (.n .e (.n .e (.n .e (.n .e (.lp ⟨[⟨.sl 0,.str,none⟩,⟨.sl 4,(.sl .str),some 9⟩],some [],[]⟩ none true (.n (.n .e (.n .e (.n .e (.n (.n .e (.j ⟨[⟨.sl 5,.int,none⟩],some [.sl 4],[]⟩ false .e)) (.n .e (.n .e (.n (.n .e (.j ⟨[⟨.sl 6,.str,none⟩],some [.sl 4],[]⟩ true .e)) .e))))))) .e)))))) Tryz.func227
theorem c198:FE.ok (U:=UU) Tryz.prog ⟨198,[.str],[(.st 41),.int],fun x=>zIz x⟩:=mk (fcons c269 (fcons c200 (fcons c179 (fcons c174 (fcons c24 anil))))) (.e) Tryz.func198
noncomputable def w187 {l:List (GE UU)} (h:GamOk Tryz.prog (gal l)):WE Tryz.prog UU:=wJ 187 h (.e) [.boo] [] Tryz.func187
noncomputable def w261 {l:List (GE UU)} (h:GamOk Tryz.prog (gal l)):WE Tryz.prog UU:=wJ 261 h (.n .e (.n (.n .e (.lp ⟨[⟨.sl 8,.int,none⟩],some [],[]⟩ (some ⟨[],some [],[]⟩) true .e)) .e)) [.int] [] Tryz.func261
theorem c188:FE.ok (U:=UU) Tryz.prog ⟨188,[.str],[.boo],fun x=>zDK x⟩:=mk (fcons c97 anil) (.e) Tryz.func188
theorem c117:FE.ok (U:=UU) Tryz.prog ⟨117,[(.sl (.st 41))],[(.st 153)],fun x=>zGd x⟩:=mk (wc w187 (wc w261 (fcons c188 (fcons c80 (fcons c78 (fcons c55 anil)))))) (.n .e (.n .e (.n (.n .e (.j ⟨[⟨.cs 3 1,.boo,none⟩],some [],[]⟩ false .e)) .e))) Tryz.func117
theorem c221:FE.ok (U:=UU) Tryz.prog ⟨221,[(.sl (.st 41)),.str],[(.sl (.st 218)),.boo,.boo],fun x=>zPQ x.1 x.2⟩:=mk (fcons c196 (fcons c55 anil)) (.n .e (.n .e (.n .e (.n .e (.n .e (.n (.n .e (.lp ⟨[⟨.sl 8,(.sl (.st 218)),some 218⟩,⟨.sl 35,.int,none⟩],some [],[]⟩ (some ⟨[⟨.sl 8,(.sl (.st 218)),some 218⟩],some [],[]⟩) true .e)) .e)))))) Tryz.func221
theorem c157:FE.ok (U:=UU) Tryz.prog ⟨157,[(.sl (.st 41))],[(.sl (.st 62)),.int],fun x=>zJj x⟩:=mk (fcons c227 (fcons c179 (fcons c80 (fcons c55 (fcons c25 (fcons c24 (fcons c11 anil))))))) (.n .e (.n .e (.n .e (.n (.n .e (.lp ⟨[⟨.sl 4,(.sl (.st 62)),some 62⟩,⟨.sl 18,.int,none⟩],some [],[]⟩ (some ⟨[⟨.sl 4,(.sl (.st 62)),some 62⟩],some [],[]⟩) true .e)) .e)))) Tryz.func157
end Go.Proofs
namespace Go.Proofs
open Go.Eng Go.Eng.Pure
set_option linter.unusedVariables false
theorem zFm:SortCon Tryz.prog 223:=⟨zFZ Tryz.func223 rfl kr,Tryz.slices_Sort_string_none,Tryz.slices_Sort_string⟩
theorem zEo:CompactCon Tryz.prog 224:=⟨zFZ Tryz.func224 rfl kr,Tryz.slices_Compact_string_empty,Tryz.slices_Compact_string⟩
theorem zKV {p : World} {t : Hp} (hw : Holds p t) (hG : Tryz.Gl p) (aa : (List GField)) {al : Value} (am : Sl t al aa) {r : ((List Str) × Bool)} (h : zJo aa = some r) :
    Con Tryz.prog 155 [al] p t (fun H' v=>∃ u1:Value,v=(.tuple ⟨[u1,(boo r.2)]⟩)∧Sl H' u1 r.1):=by
  refine CM 36 Tryz.func155 hw fun S=>?_
  have bn:=am
  refine Ws<|Wg<|A<|A<|We<|Ws<|Wg<|M<|B h fun x a0 h=>W.call S rfl (zGw S.holds (hG.post S.post) aa [86,97,114,121] am a0) ?_
  rintro v2 w3 H4 bp S d
  refine A<|We<|Ws<|Ws<|Wg<|M<|Nq d<|Ld<|We ?_
  rcases condE h with ⟨ac,h⟩ | ⟨ac,h⟩
  · refine WP.condT rfl ac<|WP.s<|WP.g<|WL.a (.slice none 0 0) rfl<|WL.a (boo false) rfl<|WL.e ?_
    obtain rfl:=oi h
    refine WP.ret (Out.two rfl S rfl rfl ?_)
    exact ⟨_,rfl,Sl.nil⟩
   refine WP.condF rfl ac<|WP.skip<|WP.s<|WP.g<|WL.a (.slice none 0 0) rfl<|WL.e<|WP.s<|WP.s<|WP.g<|WL.m (v2) rfl<|WL.w (R.lenL (α:=Str) (xs:=x) (H:=H4) d rfl Tryz.underlying36)<|WL.m (int 0) rfl ?_
   refine We ?_
   have S:=S.addNil 9 1
   refine B h fun ad a1 h=>WP.cut (fun f w=>match ad with | .inl ae=>∃ (af:Hp) (z:Value),f 5=z∧Sl af z ae∧St p t w af [.row z 9 1 ae.length] | .inr _=>False) ?_ ?_
   · refine WP.block ?_
     refine WP.loopM (zHC x) (fun s f w=>match s with | (ah,ap)=>∃ (u:Hp) (l:Value),f 5=l∧f 13=v2∧f 14=(int (x.length:Int))∧f 15=(int ap)∧Sl u l ah∧Sl u v2 x∧St p t w u [.row l 9 1 ah.length]) (([]:List Str),0) ad a1 ?_ ?_
     · exact ⟨H4,.slice none 0 0,rfl,rfl,rfl,rfl,Sl.nil,d,S⟩
      intro s f w hI bq c aq
      obtain ⟨ah,ap⟩:=s
      obtain ⟨u,l,au,av,aw,ai,j,d,S⟩:=hI
      refine Ws<|Wg<|La' ai aw<|We<|Ws ?_
      rcases condE c with ⟨aj,c⟩ | ⟨aj,c⟩
      · refine WP.condT rfl aj<|WP.skip<|WP.s<|WP.block<|WP.s<|WP.g ?_
        refine B c fun o a2 c=>W.idx (α:=Str) d av ai el36 a2 ?_
        rintro br _ a3 rfl
        refine Lq S a3<|A<|We<|Ws<|Ws<|Wg<|M<|B c fun ax a4 c=>W.call S rfl (zEs S.holds (hG.post S.post) o a4) ?_
        rintro bs bt bu a5 S rfl
        have ⟨j,d⟩:=U2 a5 j d
        refine No<|M ?_
        refine WL.grp 3 [23,24] 25 (boo ((!ax)||(o==[42]))) ?_ ?_
        · rcases boolE (!ax) with k | k
          · refine WL.n rfl rfl k<|WL.n rfl rfl k<|WL.w (R.pickT rfl k rfl) ?_
            exact We ⟨(orT k),ag,rfl⟩
           refine WL.y rfl rfl k<|WL.m (str o) rfl<|WL.y rfl rfl k<|WL.w (R.eqlS (a:=o) (b:=[42]) rfl rfl)<|WL.w (R.pickF rfl k rfl) ?_
           exact We ⟨(orF k),ag,rfl⟩
         intro us
         refine We ?_
         rcases condE c with ⟨ak,c⟩ | ⟨ak,c⟩
         · refine WP.condT rfl ak<|WP.s<|WP.g<|WL.a (.slice none 0 0) rfl<|WL.a (boo false) rfl<|WL.e ?_
           obtain rfl:=oi c
           obtain rfl:=aq
           obtain rfl:=oi h
           refine WP.ret (Out.two rfl S rfl rfl ?_)
           exact ⟨_,rfl,Sl.nil⟩
          refine WP.condF rfl ak<|WP.skip<|WP.g<|WL.m (l) au<|WL.m (str o) rfl ?_
          refine B c fun ay a6 c=>W.call S rfl (zA5 S.holds (hG.post S.post) o a6) ?_
          rintro bv bw bx a7 S rfl
          have ⟨j,d⟩:=U2 a7 j d
          refine W.bslice (α:=Str) [(str ay)] ([ay]:List Str) S el36 rfl rfl rfl (by decide) (Go.Eng.encS ⟨rfl,rfl⟩ enc0) ?_
          intro bz b0 b1 a8 a9 S
          have ⟨j,d⟩:=U2 a8 j d
          refine B c fun b2 ba c=>W.app (α:=Str) (i:=1) S el36 rfl rfl rfl j a9 ba ?_
          intro bb b3 bc bd be S
          have ⟨j,d⟩:=U2 bd j d
          refine A<|We<|Wg<|Lg' ai rfl<|M<|We ?_
          obtain rfl:=oi c
          exact ⟨rfl,⟨bc,bb,rfl,av,aw,rfl,be,d,(S.pk [1])⟩⟩
       refine WP.condF rfl aj<|WP.exit ?_
       obtain rfl:=oi c
       obtain rfl:=aq
       exact ⟨u,l,au,j,S⟩
    intro f w hM
    rcases ad with ae | e
    · obtain ⟨af,z,az,bf,S⟩:=hM
      refine Ws<|Wg<|M' az<|B h fun b4 bg h=>W.sortRow (i:=0) zFm hw S rfl rfl bf bg ?_
      intro b5 b6 b7 bh S
      refine We<|Ws<|Wg<|M' az<|B h fun b8 bi h=>W.compactRow (i:=0) zEo hw S rfl rfl bh bi ?_
      intro b9 ca cb cc bj S
      refine A<|A<|We ?_
      obtain rfl:=oi h
      refine WP.ret (Out.two rfl S rfl rfl ?_)
      exact ⟨_,rfl,bj⟩
     exact hM.elim
end Go.Proofs
namespace Go.Proofs
open Go Go.Eng Go.VI Go.Eng.Pure
set_option linter.unusedVariables false
set_option maxRecDepth 10000
set_option maxHeartbeats 4000000
theorem c155:FE.ok (U:=UU) Tryz.prog ⟨155,[(.sl (.st 41))],[(.sl .str),.boo],fun x=>zJo x⟩:=@fun w H az x y hw hg b hT h=>by
 obtain ⟨d,rfl,c⟩:=hT
 exact (zKV hw b x c h).mono (fun _ _ ⟨f,e,K0⟩=>⟨[_,_],e,_,_,rfl,K0,⟨_,rfl,rfl⟩⟩)
end Go.Proofs
