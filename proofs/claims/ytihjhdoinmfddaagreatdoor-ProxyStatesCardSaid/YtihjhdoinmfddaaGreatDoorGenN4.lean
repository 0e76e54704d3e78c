/- A part. -/
import Derived.Test.YtihjhdoinmfddaaGreatDoorGenN3
set_option linter.unusedVariables false
set_option linter.unusedSimpArgs false
set_option maxHeartbeats 4000000
set_option maxRecDepth 10000
namespace Go.Proofs
open Go Go.Eng Go.VI Go.Eng.Pure
theorem c140:FK ⟨140,[.str],[.str,.int,.int],fun x=>zFP x⟩:=@fun w H az x y hw hg b hT h=>by
 obtain ⟨c,rfl,d⟩:=hT;obtain rfl:c=_:=d;exact (zMV hw ⟨b.gl,b,hg⟩ x h).mono (fun _ _ e=>⟨[_,_,_],e,_,_,rfl,rfl,⟨_,_,rfl,rfl,⟨_,rfl,rfl⟩⟩⟩)
theorem c184:FK ⟨184,[(.sl (.st 138)),.str],[.int,.boo],fun x=>zCT x.1 x.2⟩:=mk (fcons c123 (fcons c49 anil)) (.e) Tryz.func184
theorem c193:FK ⟨193,[(.sl (.st 138)),.int],[.int],fun x=>zFF x.1 x.2⟩:=mk (fcons c184 anil) (.e) Tryz.func193
theorem c185:FK ⟨185,[.int,.int],[.int],fun x=>zCH x.1 x.2⟩:=mk anil (.e) Tryz.func185
theorem c129:FK ⟨129,[(.sl (.st 138)),.int,.int,.int],[.int],fun x=>zFv x.1 x.2.1 x.2.2.1 x.2.2.2⟩:=mk (fcons c193 (fcons c185 (fcons c139 (fcons c49 anil)))) (.e) Tryz.func129
theorem c67:FK ⟨67,[(.st 87),.int],[.int],fun x=>zIe x.1 x.2⟩:=mk (fcons c129 anil) (.e) Tryz.func67
theorem rcons {F:FR UU} {l:List (GE UU)} (h:F.ok Tryz.prog) (hG:GamOk Tryz.prog (gal l)):GamOk Tryz.prog (gal (⟨F.id,F.spec⟩ :: l)):=acons (F:=⟨F.id,F.spec⟩) (FR.spec_ok h) hG
end Go.Proofs
namespace Go.Proofs
open Go.Eng Go.Eng.Pure
theorem zJF {o ws:World} {p Hs:Hp} {x:List Ent} (hG:GlX o p) (t:(List GField)) (ae:(GField→Option Bool)) {z:Value} {kp_keep:FuncId} {cp_keep:List Value} (S:St o p ws Hs (x)) (c:Sl Hs z t) (Fp_keep:∀ {w:World} {H:Hp},Hs.le H→Holds w H→GlX w H→∀ (x0:GField) (rr:Bool),ae x0=some rr→Con Tryz.prog kp_keep ([(agg [(str x0.fName),(str x0.fValue)])]++cp_keep) w H (fun H' v=>v=(boo rr))) {r:(List GField)} (h:zBl t ae=some r) :
  ConS Tryz.prog 131 [z,(.func (.func kp_keep) #[] cp_keep.toArray)] o p ws Hs x (fun H' v L'=>∃ u1:Value,L'=[.row u1 138 2 r.length]∧v=u1∧Sl H' u1 r):=by
 refine ConS.mk (N:=23) Tryz.func131 rfl rfl kr rfl<|Ws<|Wg<|A<|We<|Ws<|Wg<|A<|We<|Ws<|Ws<|Wg ?_;refine M<|Nq c<|M<|We ?_;have S:=S.addNil 138 2;refine B h fun aa aw h=>WP.cut (fun f w=>∃ (ab:Hp) (u:Value),f 5=u∧Sl ab u aa∧Hp.le Hs ab∧St o p w ab (.row u 138 2 aa.length :: x)) ?_ ?_
 ·refine Wb ?_
  refine WP.loopM (zBS t ae) (fun s f w=>match s with | (ai,aq)=>∃ (k:Hp) (l:Value),f 1=(.func (.func kp_keep) #[] cp_keep.toArray)∧f 5=l∧f 8=z∧f 9=(int (t.length:Int))∧f 10=(int aq)∧Sl k l ai∧Sl k z t∧Hp.le Hs k∧St o p w k (.row l 138 2 ai.length :: x)) (([]:List GField),0) aa aw ?_ ?_
  ·exact ⟨Hs,.slice none 0 0,rfl,rfl,rfl,rfl,rfl,Sl.nil,c,lr,S⟩
  intro s f w hI ba b ax;obtain ⟨ai,aq⟩:=s;obtain ⟨k,l,h2,h6,h7,h8,ac,j,c,ad,S⟩:=hI;refine Ws<|Wg<|La' ac h8<|We<|Ws ?_;rcases condE b with ⟨an,b⟩ | ⟨an,b⟩
  ·refine CT an<|Wk<|Ws<|Wb<|Ws<|Wg<|B b fun d ay b=>W.idx (α:=GField) c h7 ac el61 ay ?_
   rintro bb _ az rfl;refine WL.wz (R.loadHN (vs:=[(str d.fName),(str d.fValue)]) S rfl az zGn rfl rfl) ?_;refine W.alloc [(str []),(str [])] S zRB ?_;intro bc bd S;refine W.store (i:=0) [(str d.fName),(str d.fValue)] S rfl rfl rfl zGn rfl rfl (nL kr) rfl ?_;intro be S;refine We<|Ws<|Wg<|M' h2 ?_;refine WL.wz (R.loadBN (i:=0) (vs:=[(str d.fName),(str d.fValue)]) S rfl rfl zGn rfl rfl)<|B b fun bf a0 b=>W.callv S rfl rfl (Fp_keep ad S.holds (hG.pstX S.post) d _ a0) ?_
   rintro bg bh a1 ao S rfl;have ⟨j,c⟩:=U2 ao j c;refine We ?_;rcases condE b with ⟨ap,b⟩ | ⟨ap,b⟩
   ·refine CT ap<|Wg<|M' h6 ?_
    refine WL.wz (R.loadBN (i:=0) (vs:=[(str d.fName),(str d.fValue)]) S rfl rfl zGn rfl rfl)<|W.bslice (α:=GField) [(agg [(str d.fName),(str d.fValue)])] ([d]:List GField) S el61 rfl rfl rfl (by decide) (Go.Eng.encS ⟨rfl,rfl⟩ enc0) ?_;intro bi bj bn au a2 S;have ⟨j,c⟩:=U2 au j c;refine B b fun bo a3 b=>W.app (α:=GField) (i:=2) S el61 rfl rfl rfl j a2 a3 ?_
    intro a4 bp a5 av a6 S;have ⟨j,c⟩:=U2 av j c;refine A<|We<|Wg<|Lg' ac rfl<|M<|We ?_;obtain rfl:=oi b;exact ⟨rfl,⟨a5,a4,h2,rfl,h7,h8,rfl,a6,c,(((ad.trans ao).trans au).trans av),(S.pt 3 [2])⟩⟩
   refine CF ap<|Wk<|Wg<|Lg' ac rfl<|M<|We ?_;obtain rfl:=oi b;exact ⟨rfl,⟨a1,l,h2,h6,h7,h8,rfl,j,c,(ad.trans ao),(S.pt 2 [1])⟩⟩
  refine CF an<|Wx ?_;obtain rfl:=oi b;obtain rfl:=ax;exact ⟨k,l,h6,j,ad,S⟩
 rintro f w ⟨ab,u,a7,a8,a9,S⟩;refine Ws<|Wg<|M' a7<|A<|We ?_;obtain rfl:=oi h;refine WP.ret (OutS.one (L':=[.row u 138 2 aa.length]) rfl a9 S rfl ?_);exact ⟨_,rfl,rfl,a8⟩
theorem zJK {b ws:World} {c Hs:Hp} {f:List Ent} (hG:GlX b c) (j:(List GField)) (k:Str) {t:Value} (S:St b c ws Hs (f)) (d:Sl Hs t j) {r:(List GField)} (h:zAs j k=some r) :
  ConS Tryz.prog 128 [t,(str k)] b c ws Hs f (fun H' v L'=>∃ l:Value,L'=[.row l 138 2 r.length]∧v=l∧Sl H' l r):=by
 refine ConS.mk (N:=11) Tryz.func128 rfl rfl kr rfl<|Ws<|Wg<|A<|We<|Ws<|Wg<|M<|B h fun u ad h=>W.call S rfl (zGv S.holds (hG.pstX S.post) k ad) ?_
 rintro v2 w3 H4 x S ⟨kr1,cr1,rfl,Fr1⟩;have d:=d.up x;refine W.alloc [.nilFunc] S zWo ?_;intro z w7 S;refine W.store (i:=0) [(.func (.func kr1) #[] cr1.toArray)] S rfl rfl rfl zUt rfl rfl (nL kr) rfl ?_;intro w8 S;refine We<|Ws<|Wg<|M ?_;obtain ⟨H9,o,ae,_,S⟩:=S.settle (i:=0) rfl;replace S:St b c _ H9 (f):=S;have af:At H9 ⟨z,0,none⟩ [(.func (.func kr1) #[] cr1.toArray)]:=⟨_,_,rfl,ae,[],by simp⟩;have d:=d.up o;refine WL.wz (R.mkFunc (vs:=[(Value.pointer (some ⟨z,0,none⟩))]) rfl)<|B h fun ab ah h=>W.callS rfl (zJF hG j (fun p=>zCJ p u) S d (fun hle hw hG p r h=>zFR hw hG p u (At.mono af hle (by simp)) (fun ai=>Fr1 (Hp.le.trans (Hp.le.trans o hle) ai)) h) ah) ?_
 rintro ac au aj av ak S ⟨_,rfl,rfl,al⟩;replace S:St b c _ aj (.row ac 138 2 ab.length :: f):=S;refine A<|We ?_;obtain rfl:=oi h;refine WP.ret (OutS.one (L':=[.row ac 138 2 ab.length]) rfl ((x.trans o).trans ak) S rfl ?_);exact ⟨_,rfl,rfl,al⟩
end Go.Proofs
namespace Go.Proofs
open Go Go.Eng Go.VI Go.Eng.Pure
theorem r128:FR.ok (U:=UU) Tryz.prog ⟨128,[(.sl (.st 138)),.str],.st 138,138,fun x=>zAs x.1 x.2⟩:=fun S b hg hgw hT h=>by
 obtain ⟨i,_,rfl,c,⟨d,rfl,f⟩⟩:=hT;obtain rfl:d=_:=f;have C:=zJK ⟨hgw.gl,hgw,b⟩ _ _ S c h;exact ⟨C.1,Calls.mono C.2 fun x w' ⟨v,H',L',hx,hle,hS,j,hL,hv,hu⟩=>⟨v,H',L',hx,hle,hS,by subst hv; exact hL,by subst hv; exact hu⟩⟩
theorem c66:FK ⟨66,[(.st 87),.int,.str],[(.st 92)],fun x=>zEc x.1 x.2.1 x.2.2⟩:=mk (fcons c88 (fcons c69 (rcons r128 anil))) (.e) Tryz.func66 [(2,7,[.t 0,.t 1,.t 2,.t 3,.t 5,.t 6,.l 4 true,.l 7 false,.l 8 false])]
theorem c40:FK ⟨40,[(.st 87),.int,.str],[(.st 92)],fun x=>zCt x.1 x.2.1 x.2.2⟩:=mk (fcons c67 (fcons c66 anil)) (.e) Tryz.func40 [(1,5,[.t 0,.t 1,.t 2,.t 4,.l 3 true,.l 5 false,.l 6 false])]
noncomputable def w261 {l:List (GE UU)} (h:GamOk Tryz.prog (gal l)):WE Tryz.prog UU:=wJ 261 h (.n .e (.n .e (.n (.n .e (.lp ⟨[iS 17 .int],some [],[]⟩ (some ⟨[],some [],[]⟩) true .e)) .e))) [.boo] [] Tryz.func261
theorem c177:FK ⟨177,[(.sl .str),(.sl .str)],[.boo],fun x=>zAS x.1 x.2⟩:=mk anil (.n .e (.n .e (.n (.n .e (.lp ⟨[iS 13 .int],some [],[]⟩ (some ⟨[],some [],[]⟩) true .e)) .e))) Tryz.func177
theorem c262:FK ⟨262,[(.st 278),(.st 278)],[.boo],fun x=>zH8 x.1 x.2⟩:=mk (fcons c177 anil) (.e) Tryz.func262
theorem c222:FK ⟨222,[(.sl (.st 278)),(.sl (.st 278))],[.boo],fun x=>zFK x.1 x.2⟩:=mk (wc w261 (fcons c262 anil)) (.e) Tryz.func222
theorem zKv {c:World} {b:Hp} (hw:Holds c b) (hG:GlX c b) (d:(List GAxis)) (f:(List GAxis)) {i:Value} {j:Value} (k:Sl b i d) (l:Sl b j f) {r:Bool} (h:zFK d f=some r) :
  Cb Tryz.prog 222 [i,j] c b r:=by
 refine (c222 (xs:=(d,f)) (y:=r) hw hG.ok hG.gs ⟨_,_,rfl,k,⟨_,rfl,l⟩⟩ h).mono ?_;rintro _ v ⟨_,rfl,D⟩;obtain ⟨o,rfl,p⟩:=D;obtain rfl:o=_:=p;exact rfl
end Go.Proofs
namespace Go.Proofs
open Go.Eng Go.Eng.Pure
theorem zDB {j:World} {d:Hp} (hw:Holds j d) (hG:GlX j d) (k:(List GEntry)) (t:(GEntry→Option Bool)) {o:Value} {kp_f:FuncId} {cp_f:List Value} (i:Sl d o k) (Fp_f:∀ {w:World} {H:Hp},d.le H→Holds w H→GlX w H→∀ (c:GEntry),∀ {ab ac ad ae:Value},Sl H ab c.fKeys→Sl H ac c.fVary→Sl H ad c.fSnapshot→Sl H ae c.fFields→∀ (rr:Bool),t c=some rr→Con Tryz.prog kp_f ([(agg [ab,ac,ad,(str c.fReason),ae,(str c.fBody),(int c.fRequested),(int c.fReceived)])]++cp_f) w H (fun H' v=>v=(boo rr))) {r:Int} (h:zAl k t=some r) :
  Ci Tryz.prog 263 [o,(.func (.func kp_f) #[] cp_f.toArray)] j d r:=by
 refine CM 19 Tryz.func263 hw fun S=>?_
 refine Ws<|Wg<|A<|We<|Ws<|Ws<|Wg<|M<|Nq i<|M<|We<|B h fun u am h=>WP.cut (fun f w=>match u with | .inl _=>∃ (H7:Hp),St j d w H7 [] | .inr _=>False) ?_ ?_
 ·refine Wb ?_
  refine WP.loopM (zAN k t) (fun s f w=>match s with | ah=>∃ (p:Hp),f 0=o∧f 1=(.func (.func kp_f) #[] cp_f.toArray)∧f 7=(int (k.length:Int))∧f 8=(int ah)∧Sl p o k∧St j d w p []) 0 u am ?_ ?_
  ·exact ⟨d,rfl,rfl,rfl,rfl,i,S⟩
  intro ah f w hI y8 b ai;obtain ⟨p,h2,h3,h4,x,i,S⟩:=hI;refine Ws<|Wg<|La' x h4<|We<|Ws ?_;rcases condE b with ⟨z,b⟩ | ⟨z,b⟩
  ·refine CT z<|Wk<|Ws<|Wb<|Ws<|Wg<|M' x<|A<|We<|Ws<|Wg<|M' h3 ?_
   refine M' h2<|M<|B b fun l an b=>W.idx (α:=GEntry) i rfl rfl el77 an ?_
   rintro a4 _ ao ⟨ap,aq,au,av,rfl,aw,ax,ay,az⟩;refine WL.wz (R.loadHN (vs:=[ap,aq,au,(str l.fReason),av,(str l.fBody),(int l.fRequested),(int l.fReceived)]) S rfl ao lay87 rfl rfl)<|B b fun a5 a0 b=>W.callv S rfl rfl (Fp_f (S.post.le) S.holds (hG.pstX S.post) l aw ax ay az _ a0) ?_
   rintro a6 a7 a1 a2 S rfl;have i:=i.up a2;refine We ?_;rcases condE b with ⟨aa,b⟩ | ⟨aa,b⟩
   ·refine CT aa<|Ws<|Wg<|M<|A<|We ?_
    obtain rfl:=oi b;obtain rfl:=ai;exact WP.ret (Ri h S)
   refine CF aa<|Wk<|Wg<|Lg' x rfl<|M<|We ?_;obtain rfl:=oi b;exact ⟨rfl,⟨a1,h2,h3,h4,rfl,i,S⟩⟩
  refine CF z<|Wx ?_;obtain rfl:=oi b;obtain rfl:=ai;exact ⟨p,S⟩
 intro f w hM;rcases u with _ | e
 ·obtain ⟨H7,S⟩:=hM
  refine Ws<|Wg<|A<|We ?_;exact WP.ret (Ri h S)
 exact hM.elim
theorem zCx {w0 ws:World} {H0 Hs:Hp} {L2:List Ent} (hG:GlX w0 H0) (b:(List GEntry)) (ae:(GEntry→Option Bool)) {v:Value} {en:Ent} {kd:FuncId} {cd:List Value} (S:St w0 H0 ws Hs (en :: L2)) (RM:MR (α:=GEntry) Hs en 87 v b)
  (F:∀ {w:World} {H:Hp},Hs.le H→Holds w H→GlX w H→∀ (d:GEntry),∀ {am an ao ap:Value},Sl H am d.fKeys→Sl H an d.fVary→Sl H ao d.fSnapshot→Sl H ap d.fFields→∀ (rr:Bool),ae d=some rr→Con Tryz.prog kd ([(agg [am,an,ao,(str d.fReason),ap,(str d.fBody),(int d.fRequested),(int d.fReceived)])]++cd) w H (fun H' v=>v=(boo rr)))
  {r:List GEntry} (h:zAT b ae=some r) :
  ConS Tryz.prog 223 [v,(.func (.func kd) #[] cd.toArray)] w0 H0 ws Hs L2 (fun H' v' L'=>∃ en',L'=[en']∧MR (α:=GEntry) H' en' 87 v' r):=by
 unfold zAT at h;refine ConS.mk (N:=42) Tryz.func223 rfl rfl kr rfl<|Ws<|Wg<|A<|We<|Ws<|Wg<|M<|M<|B h fun i hi h=>?_
 obtain ⟨H1,aq,aw,R1⟩:=S.view_ (i:=0) rfl RM;refine W.callF S rfl (zDB aw ((hG.pstX S.post).le aq) b ae R1 (fun hle=>F (Hp.le.trans aq hle)) hi) ?_;rintro _ w1 H2 rfl S;refine A<|We<|Ws<|Ws<|Wg<|M<|Le<|We ?_;unfold delR at h;rcases condE h with ⟨hc,h⟩ | ⟨hc,h⟩
 ·refine CT hc<|Ws<|Wg<|M<|A<|We ?_
  obtain rfl:=oi h;refine WP.ret (OutS.one (L':=[en]) rfl lr S rfl ?_);exact ⟨en,rfl,RM⟩
 refine CF hc<|Wk ?_;rcases condE h with ⟨hb,h⟩ | ⟨hb,h⟩
 case inr=>cases h
 have hb:=dT hb;obtain ⟨c,rfl⟩:=Int.eq_ofNat_of_zero_le hb.1;have au:c<b.length:=by omega
 rcases RM with ⟨_,hnil,_⟩ | ⟨g,cap,cur0,cs0,rfl,rfl,hnc,hcm,hcs,htk,hC⟩
 ·subst hnil; exact absurd au (Nat.not_lt_zero _)
 have D0:DelI Hs b cur0 (b.take c) (c+1):=DelI.start htk hC au;have hmax:b.length≤9223372036854775807:=by simp only [maxLen] at hcm; omega
 have az:(b.take c).length=c:=by rw [List.length_take]; omega
 refine Ws<|Ws<|Wg<|M<|Lg<|A<|We ?_;refine WP.cut (fun f w=>∃ (m:Nat) (cur:Array Value),f 0=.slice (some ⟨g,0,none⟩) b.length cap∧f 5=int r.length∧b.length≤m∧cur.size=cap*8∧DelI Hs b cur r m∧St w0 H0 w Hs (.obj g (.cells cur 87 (0,0)) :: L2)) ?_ ?_
 ·refine Wb ?_
  refine WP.loopM (delL b ae) (fun s f w=>∃ (m:Nat) (cur:Array Value),s.2=m∧f 0=.slice (some ⟨g,0,none⟩) b.length cap∧f 1=.func (.func kd) #[] cd.toArray∧f 5=int s.1.length∧f 6=int m∧cur.size=cap*8∧DelI Hs b cur s.1 m∧St w0 H0 w Hs (.obj g (.cells cur 87 (0,0)) :: L2)) _ _ h ?_ ?_
  ·refine ⟨c+1,cur0,rfl,rfl,rfl,?_,?_,hcs,D0,S⟩
   ·show int c=int ((b.take (Int.toNat c)).length:Nat)
    rw [Int.toNat_natCast,az]
   show int (wr ((c:Int)+1))=int ((c+1:Nat):Int)
   rw [wr_eq ⟨by omega,by omega⟩]; rfl
  rintro ⟨K,mi⟩ f w ⟨m,cur,rfl,j,h1,k,h6,hsz,D,S⟩ y hy hyr;unfold delL at hy;refine Ws<|Ws<|Wg<|M' h6<|M' j<|Nv<|La<|We ?_;rcases condE hy with ⟨hcm,hy⟩ | ⟨hcm,hy⟩
  ·refine CT hcm<|Wk ?_
   have hmn:m<b.length:=by have:=dT hcm; omega
   refine B hy fun x hx hy=>?_
   obtain rfl:b[m]=x:=by
    unfold xnth at hx;rw [if_pos (by omega)] at hx;have:=(List.getElem?_eq_some_iff.1 hx).2;exact this
   obtain ⟨_,av,_,p,t,u,u4,rfl,q1,q2,q3,q4⟩:=D.look hmn;refine Ws<|Wb<|Ws<|Wg<|M' j<|M' h6 ?_;refine WL.wz (R.idxN (m:=(m:Int)) rfl rfl el77 ⟨by omega,by omega⟩) ?_;refine WL.wz (R.loadO (i:=0) (o:=m*8) (vs:=[p,t,u,(str b[m].fReason),u4,(str b[m].fBody),(int b[m].fRequested),(int b[m].fReceived)]) S rfl rfl lay87 rfl av) ?_;refine W.alloc _ S zer87 ?_;intro b7 w8 S;refine W.store (i:=0) [p,t,u,(str b[m].fReason),u4,(str b[m].fBody),(int b[m].fRequested),(int b[m].fReceived)] S rfl rfl rfl lay87 rfl (AllOne.all (l:=[p,t,u,(str b[m].fReason),u4,(str b[m].fBody),(int b[m].fRequested),(int b[m].fReceived)]) (.cons (Sl.oneC q1) (.cons (Sl.oneC q2) (.cons (Sl.oneC q3) (.cons rfl (.cons (Sl.oneC q4) (.cons rfl (.cons rfl (.cons rfl .nil))))))))) (nL kr) rfl ?_;intro w9 S;refine We<|Ws<|Wg<|M' h1 ?_;refine WL.wz (R.loadBN (i:=0) (vs:=[p,t,u,(str b[m].fReason),u4,(str b[m].fBody),(int b[m].fRequested),(int b[m].fReceived)]) S rfl rfl lay87 rfl rfl)<|B hy fun bb hbb hy=>?_
   refine W.callvF S rfl rfl (F lr S.holds (hG.pstX S.post) b[m] q1 q2 q3 q4 bb hbb) ?_;rintro _ a9 ba rfl S;refine No<|We ?_;cases bb with
   | true =>
    refine CF rfl<|Wk<|Wg<|M' h6<|Lg<|A<|We ?_;obtain rfl:=oi hy;refine ⟨rfl,m+1,cur,rfl,j,h1,k,?_,hsz,D.skip hmn,S.drop _ (.cons _ (.refl _))⟩
    show int (wr ((m:Int)+1))=int ((m+1:Nat):Int)
    rw [wr_eq ⟨by omega,by omega⟩]; rfl
   | false =>
    refine CT rfl<|Ws<|Wg<|M' j<|M' k ?_;refine WL.wz (R.loadBN (i:=0) (vs:=[p,t,u,(str b[m].fReason),u4,(str b[m].fBody),(int b[m].fRequested),(int b[m].fReceived)]) S rfl rfl lay87 rfl rfl) ?_;have hKm:K.length<m:=D.1;refine WL.wz (R.idxN (m:=(K.length:Int)) rfl rfl el77 ⟨by omega,by omega⟩) ?_;refine W.storeO (i:=1) (o:=K.length*8) S rfl rfl rfl lay87 rfl (AllOne.all (l:=[p,t,u,(str b[m].fReason),u4,(str b[m].fBody),(int b[m].fRequested),(int b[m].fReceived)]) (.cons (Sl.oneC q1) (.cons (Sl.oneC q2) (.cons (Sl.oneC q3) (.cons rfl (.cons (Sl.oneC q4) (.cons rfl (.cons rfl (.cons rfl .nil))))))))) (by omega) ?_;intro bc cur' hcur S;have hcur:cur'.toList=cur.toList.take (K.length*8)++[p,t,u,(str b[m].fReason),u4,(str b[m].fBody),(int b[m].fRequested),(int b[m].fReceived)]++cur.toList.drop (K.length*8+8):=hcur;have D2:=D.keep hmn av hcur;refine We<|Wg<|M' k<|Lg<|A<|We<|Wg<|M' h6<|Lg<|A<|We ?_;obtain rfl:=oi hy;refine ⟨rfl,m+1,cur',rfl,j,h1,?_,?_,?_,D2,S.drop _ (.cons _ (.refl _))⟩
    ·show int (wr ((K.length:Int)+1))=int (((K++[b[m]]).length:Nat):Int)
     rw [wr_eq ⟨by omega,by omega⟩,lA]; rfl
    ·show int (wr ((m:Int)+1))=int ((m+1:Nat):Int)
     rw [wr_eq ⟨by omega,by omega⟩]; rfl
    rw [← Array.length_toList,hcur];simp only [lA,List.length_take,List.length_drop,lC,List.length_nil];have hcl:cur.toList.length=cap*8:=hsz;rw [hcl];omega
  refine CF hcm<|Wx ?_;obtain rfl:=oi hy;obtain rfl:=hyr;have hcm:=dF hcm;exact ⟨m,cur,j,k,by omega,hsz,D,S⟩
 rintro f w ⟨m,cur,j,k,hm,hsz,D,S⟩;have hKm:=D.1;have hmp:=D.2.1;obtain ⟨kc,hkc,hkC⟩:=D.front;refine Ws<|Wg<|M' j<|M' k ?_;refine WL.wz (R.sliceLo rfl rfl el77 (by omega) (by omega))<|W.clearO (α:=GEntry) (i:=0) S el77 (fun z hz=>by rw [zer87] at hz; obtain rfl:=oi hz; rfl) rfl rfl (by show r.length*8+(b.length - r.length)*8≤cur.size; omega) ?_;intro bd cur2 a1 a2 S;refine We<|Ws<|Wg<|M' j<|M' k ?_;refine WL.wz (R.sliceHi rfl rfl el77 (by omega))<|A<|We ?_;refine WP.ret (OutS.one (L':=[.obj g (.cells cur2 87 (0,0))]) rfl lr S rfl ?_);exact ⟨_,rfl,.inr ⟨g,cap,cur2,kc,rfl,rfl,by omega,hcm,by rw [a1]; exact hsz,a2.trans hkc,hkC⟩⟩
end Go.Proofs
namespace Go.Proofs
open Go Go.Eng Go.VI Go.Eng.Pure
noncomputable section
variable {l:List (GE UU)} (h:GamOk Tryz.prog (gal l))
def wI179:WE Tryz.prog UU:=wJ 179 h (.e) [.boo] [] Tryz.func179
def wI237:WE Tryz.prog UU:=wJ 237 h (.n .e (.n (.n .e (.lp ⟨[iS 8 .int],none,[]⟩ (some ⟨[],none,[]⟩) true .e)) .e)) [.int] [] Tryz.func237
def w264:WE Tryz.prog UU:=wJ 264 h (.e) [.boo] [] Tryz.func264
def w180:WE Tryz.prog UU:=wJ 180 h (.e) [.boo] [] Tryz.func180
end
end Go.Proofs
namespace Go.Proofs
open Go.Eng Go.Eng.Pure
theorem el76:Elem Tryz.prog 76 278 2:=zFg kr
theorem zH2 {b:World} {c:Hp} (hw:Holds b c) (hG:GlX b c) (d:Str) (f:Str) (i:Str) {r:Bool} (h:zES d f i=some r) :
  Cb Tryz.prog 240 [(str d),(str f),(str i)] b c r:=by
 refine CM 29 Tryz.func240 hw fun S=>?_
 refine Ws<|Wg<|A<|We<|Ws<|Wg<|M<|B h fun j k h=>W.call S rfl (zFl S.holds (hG.pstX S.post) d k) ?_
 rintro p t u v S rfl;refine A<|We<|Ws<|Wg<|M<|M<|B h fun x l h=>W.invoke S rfl rfl (zCi S.holds (hG.pstX S.post) j f l) ?_
 rintro z w8 H9 ac S rfl;refine M ?_;refine Ex ?_;refine Ex<|A<|A<|We<|Ws<|Wg<|M<|M<|B h fun ad o h=>W.invoke S rfl rfl (zCi S.holds (hG.pstX S.post) j i o) ?_
 rintro ae af ah ai S rfl;refine M ?_;refine Ex ?_;refine Ex<|A<|A<|We<|Ws<|Wg<|M<|M<|Na<|A ?_;refine We ?_;exact WP.ret (Rb h S)
theorem zHS {d ws:World} {f Hs:Hp} {l:List Ent} (hG:GlX d f) (j:Str) (k:Str) (o:(List GAxis)) (b:Int) {p:Value} {c:Nat} {t:Addr} (S:St d f ws Hs (.box c 3 [(int b)] :: l)) (u:At Hs t [p]) (x:Sl Hs p o) {r:(Bool×Int)} (h:zDd j k o b=some r) :
  ConS Tryz.prog 239 [(str j),(str k),(ptr c 0),(Value.pointer (some t))] d f ws Hs l (fun H' v L'=>L'=[.box c 3 [(int r.2)]]∧v=(boo r.1)):=by
 refine ConS.mk (N:=17) Tryz.func239 rfl rfl kr rfl<|Ws<|Wg<|A<|We<|Ws<|Wg ?_;refine Lo 0 S<|Lg ?_;refine W.store (i:=0) [(int (wr (b+1)))] S rfl rfl rfl lay3 rfl rfl (nL kr) rfl ?_;intro w1 S;refine We<|Ws<|Wg ?_;refine Lq S u ?_;refine Lo 0 S<|B h fun z aa h=>W.idx (α:=GAxis) x rfl rfl el76 aa ?_
 rintro a3 _ ab ⟨v5,rfl,R6⟩;refine Fc ?_;have ac:=At.add ab 0 (by simp);refine Lq S ac<|M<|M<|B h fun r8 ad h=>W.call S rfl (zH2 S.holds (hG.pstX S.post) z.fName j k ad) ?_
 rintro v9 am an ae S rfl;refine A<|We ?_;obtain rfl:=oi h;refine WP.ret (OutS.one (L':=[.box c 3 [(int (wr (b+1)))]]) rfl ae S rfl ?_);exact ⟨rfl,rfl⟩
theorem zCM {j ws:World} {k Hs:Hp} {o:List Ent} (hG:GlX j k) (t:(List Str)) (z:(List Str)) (p:(List GAxis)) (s0:Int) {ab:Value} {ac:Value} {vq00:Value} {c:Nat} {aq0:Addr} (S:St j k ws Hs (.box c 3 [(int s0)] :: o)) (i:Sl Hs ab t) (l:Sl Hs ac z) (Aq0:At Hs aq0 [vq00]) (Rq00:Sl Hs vq00 p) {r:(Bool×Int)} (h:zAp t z p s0=some r) :
  ConS Tryz.prog 238 [ab,ac,(.func (.func 239) #[] [(ptr c 0),(Value.pointer (some aq0))].toArray)] j k ws Hs o (fun H' v L'=>L'=[.box c 3 [(int r.2)]]∧v=(boo r.1)):=by
 refine ConS.mk (N:=32) Tryz.func238 rfl rfl kr rfl<|Ws<|Wg<|A<|We<|Ws<|Ws<|Wg<|M<|Nq i<|M<|Nq l ?_;refine Lf<|We ?_;rcases condE h with ⟨af,h⟩ | ⟨af,h⟩
 ·refine CT af<|Ws<|Wg<|A<|We ?_
  obtain rfl:=oi h;refine WP.ret (OutS.one (L':=[.box c 3 [(int s0)]]) rfl lr S rfl ?_);exact ⟨rfl,rfl⟩
 refine CF af<|Wk<|Ws<|Ws<|Wg<|M<|Nq i<|M<|We<|B h fun ah ax h=>WP.cut (fun f w=>match ah with | .inl ai=>∃ (u:Hp),f 2=(.func (.func 239) #[] [(ptr c 0),(Value.pointer (some aq0))].toArray)∧At u aq0 [vq00]∧Sl u vq00 p∧Hp.le Hs u∧St j k w u (.box c 3 [(int ai)] :: o) | .inr _=>False) ?_ ?_
 ·refine Wb ?_
  refine WP.loopM (zBB t z p) (fun s f w=>match s with | (an,m9)=>∃ (d:Hp),f 1=ac∧f 2=(.func (.func 239) #[] [(ptr c 0),(Value.pointer (some aq0))].toArray)∧f 15=ab∧f 16=(int (t.length:Int))∧f 17=(int an)∧Sl d ac z∧At d aq0 [vq00]∧Sl d vq00 p∧Sl d ab t∧Hp.le Hs d∧St j k w d (.box c 3 [(int m9)] :: o)) (0,s0) ah ax ?_ ?_
  ·exact ⟨Hs,rfl,rfl,rfl,rfl,rfl,l,Aq0,Rq00,i,lr,S⟩
  intro s f w hI a6 b ao;obtain ⟨an,m9⟩:=s;obtain ⟨d,h3,h4,h5,h6,h8,l,Aq0,Rq00,i,ak,S⟩:=hI;refine Ws<|Wg<|La' h8 h6<|We<|Ws ?_;rcases condE b with ⟨al,b⟩ | ⟨al,b⟩
  ·refine CT al<|Wk<|Ws<|Wb<|Ws<|Wg<|M' h8<|B b fun ay az b=>W.idx (α:=Str) i h5 h8 el33 az ?_
   rintro a7 _ a0 rfl;refine Lq S a0<|A<|A<|We<|Ws<|Wg<|M' h3<|M<|B b fun a1 a2 b=>W.idx (α:=Str) l rfl rfl el33 a2 ?_
   rintro a8 _ a3 rfl;refine Lq S a3<|A<|We<|Ws<|Wg<|M' h4<|M<|M ?_;replace S:St j k _ d (.box c 3 [(int m9)] :: o):=S;refine B b fun av a4 b=>W.callvS rfl rfl (zHS hG ay a1 p m9 S Aq0 Rq00 a4) ?_
   rintro a9 ba aw bb x S ⟨rfl,rfl⟩;replace S:St j k _ aw (.box c 3 [(int av.2)] :: o):=S;have l:=l.up x;have Aq0:=At.mono Aq0 x (by simp);have ⟨Rq00,i⟩:=U2 x Rq00 i;refine No<|We ?_;rcases condE b with ⟨am,b⟩ | ⟨am,b⟩
   ·refine CT am<|Ws<|Wg<|A<|We ?_
    obtain rfl:=oi b;obtain rfl:=ao;obtain rfl:=oi h;refine WP.ret (OutS.one (L':=[.box c 3 [(int av.2)]]) rfl (ak.trans x) S rfl ?_);exact ⟨rfl,rfl⟩
   refine CF am<|Wk<|Wg<|Lg' h8 rfl<|M<|We ?_;obtain rfl:=oi b;exact ⟨rfl,⟨aw,h3,h4,h5,h6,rfl,l,Aq0,Rq00,i,(ak.trans x),S⟩⟩
  refine CF al<|Wx ?_;obtain rfl:=oi b;obtain rfl:=ao;exact ⟨d,h4,Aq0,Rq00,ak,S⟩
 intro f w hM;rcases ah with ai | e
 ·obtain ⟨u,bc,Aq0,Rq00,a5,S⟩:=hM
  refine Ws<|Wg<|A<|We ?_;obtain rfl:=oi h;refine WP.ret (OutS.one (L':=[.box c 3 [(int ai)]]) rfl a5 S rfl ?_);exact ⟨rfl,rfl⟩
 exact hM.elim
theorem zKD {c:World} {b:Hp} (hw:Holds c b) (hG:GlX c b) (l:(List GAxis)) (o:(List Str)) (p:(List Str)) {f:Value} {x:Value} {z:Value} (d:Sl b f l) (j:Sl b x o) (t:Sl b z p) {r:Bool} (h:zC9 l o p=some r) :
  Cb Tryz.prog 181 [f,x,z] c b r:=by
 refine CM 17 Tryz.func181 hw fun S=>?_
 refine Ws<|Wg ?_;refine W.box [f] S rfl (congrArg Array.toList (Sl.cellsOne d)) ?_;intro b1 w2 S;refine A<|We<|Ws<|Ws<|Wg<|M<|Nq j ?_;refine Lo 0 S<|Nq d<|Lf<|We ?_;rcases condE h with ⟨u,h⟩ | ⟨u,h⟩
 ·refine CT u<|Ws<|Wg<|A<|We ?_
  exact WP.ret (Rb h S)
 refine CF u<|Wk<|Ws<|Wg ?_;refine W.alloc [(int 0)] S zer3 ?_;intro k w5 S;refine W.store (i:=0) [(int (-1))] S rfl rfl rfl lay3 rfl rfl (nL kr) rfl ?_;intro w6 S;refine We<|Ws<|Wg<|M<|M ?_;obtain ⟨v,ab,ac,_,S⟩:=S.settle (i:=1) rfl;replace S:St c b _ v [.box k 3 [(int (-1))]]:=S;have ad:At v ⟨b1,0,none⟩ [f]:=⟨_,_,rfl,ac,[],by simp⟩;have ⟨d,j,t⟩:=U3 ab d j t;refine WL.wz (R.mkFunc (vs:=[(ptr k 0),(Value.pointer (some ⟨b1,0,none⟩))]) rfl) ?_;replace S:St c b _ v [.box k 3 [(int (-1))]]:=S;refine B h fun ae af h=>W.callS rfl (zCM hG o p l (-1) S j t ad d af) ?_
 rintro al am ah an ao S ⟨rfl,rfl⟩;replace S:St c b _ ah [.box k 3 [(int ae.2)]]:=S;refine A<|We ?_;exact WP.ret (Rb h S)
end Go.Proofs
namespace Go.Proofs
open Go Go.Eng Go.VI Go.Eng.Pure
theorem c181:FK ⟨181,[(.sl (.st 278)),(.sl .str),(.sl .str)],[.boo],fun x=>zC9 x.1 x.2.1 x.2.2⟩:=@fun w H az x y hw hg b hT h=>by
 obtain ⟨i,_,rfl,c,⟨j,_,rfl,d,⟨k,rfl,f⟩⟩⟩:=hT;exact (zKD hw ⟨b.gl,b,hg⟩ x.1 x.2.1 x.2.2 c d f h).mono (fun _ _ e=>⟨[_],e,_,rfl,rfl⟩)
theorem c116:FK ⟨116,[(.sl (.st 278)),(.st 87),(.sl .str)],[.boo],fun x=>zKH x.1 x.2.1 x.2.2⟩:=mk (wc wI179 (wc wI237 (wc w180 (fcons c181 anil)))) (.e) Tryz.func116
theorem c225:FK ⟨225,[(.sl (.st 278)),(.st 87),(.st 87)],[.boo],fun x=>zFG x.1 x.2.1 x.2.2⟩:=mk (wc wI179 (wc wI237 (wc w264 (fcons c116 (fcons c177 anil))))) (.e) Tryz.func225
theorem zKw {f:World} {b:Hp} (hw:Holds f b) (hG:GlX f b) (i:(List GAxis)) (c:GEntry) (d:GEntry) {j:Value} {k:Value} {l:Value} {o:Value} {p:Value} {t:Value} {u:Value} {x:Value} {z:Value} (aa:Sl b j i) (ab:Sl b k c.fKeys) (ac:Sl b l c.fVary) (ad:Sl b o c.fSnapshot) (ae:Sl b p c.fFields) (af:Sl b t d.fKeys) (ah:Sl b u d.fVary) (ai:Sl b x d.fSnapshot) (aj:Sl b z d.fFields) {r:Bool} (h:zFG i c d=some r) :
  Cb Tryz.prog 225 [j,(agg [k,l,o,(str c.fReason),p,(str c.fBody),(int c.fRequested),(int c.fReceived)]),(agg [t,u,x,(str d.fReason),z,(str d.fBody),(int d.fRequested),(int d.fReceived)])] f b r:=by
 refine (c225 (xs:=(i,c,d)) (y:=r) hw hG.ok hG.gs ⟨_,_,rfl,aa,⟨_,_,rfl,⟨_,rfl,⟨_,_,_,_,rfl,ab,ac,ad,ae⟩⟩,⟨_,rfl,⟨_,rfl,⟨_,_,_,_,rfl,af,ah,ai,aj⟩⟩⟩⟩⟩ h).mono ?_;rintro _ v ⟨_,rfl,D⟩;obtain ⟨v0,rfl,e0⟩:=D;obtain rfl:v0=_:=e0;exact rfl
end Go.Proofs
namespace Go.Proofs
open Go.Eng Go.Eng.Pure
theorem zMp {o:World} {c:Hp} (hw:Holds o c) (hG:GlX o c) (b:GEntry) (p:(List GAxis)) (d:GEntry) {f:Value} {j:Value} {k:Value} {l:Value} {z:Value} {t:Value} {u:Value} {v:Value} {x:Value} {aa:Addr} {ab:Addr} (ac:Sl c f b.fKeys) (ad:Sl c j b.fVary) (ae:Sl c k b.fSnapshot) (af:Sl c l b.fFields) (ah:At c aa [z]) (ai:Sl c z p) (aj:At c ab [t,u,v,(str d.fReason),x,(str d.fBody),(int d.fRequested),(int d.fReceived)]) (ak:Sl c t d.fKeys) (al:Sl c u d.fVary) (am:Sl c v d.fSnapshot) (an:Sl c x d.fFields) {r:Bool} (h:zJp b p d=some r) :
  Cb Tryz.prog 224 [(agg [f,j,k,(str b.fReason),l,(str b.fBody),(int b.fRequested),(int b.fReceived)]),(Value.pointer (some aa)),(Value.pointer (some ab))] o c r:=by
 refine CM 9 Tryz.func224 hw fun S=>?_
 refine Ws<|Wg ?_;refine W.box [f,j,k,(str b.fReason),l,(str b.fBody),(int b.fRequested),(int b.fReceived)] S rfl rfl ?_;intro b1 w2 S;refine A<|We<|Ws<|Wg ?_;refine Lq S ah ?_;refine WL.wz (R.loadHN (vs:=[t,u,v,(str d.fReason),x,(str d.fBody),(int d.fRequested),(int d.fReceived)]) S rfl aj lay87 rfl rfl) ?_;refine WL.wz (R.loadBN (i:=0) (vs:=[f,j,k,(str b.fReason),l,(str b.fBody),(int b.fRequested),(int b.fReceived)]) S rfl rfl lay87 rfl rfl)<|B h fun r3 ao h=>W.call S rfl (zKw S.holds (hG.pstX S.post) p d b ai ak al am an ac ad ae af ao) ?_
 rintro v4 w5 H6 ay S rfl;refine A<|We ?_;exact WP.ret (Rb h S)
theorem zOk {w0:World} {H0:Hp} (hw:Holds w0 H0) (hG:GlX w0 H0) (bj:GTable) (b:GEntry) (a3:(List GAxis)) (bw:Int) {bn:Value} {bo:Value} {aw:Value} {ax:Value} {ay:Value} {az:Value} {a4:Value} (bt:Sl H0 bn bj.fAxes) (cw:Sl H0 bo bj.fEntries) (k:Sl H0 aw b.fKeys) (o:Sl H0 ax b.fVary) (p:Sl H0 ay b.fSnapshot) (t:Sl H0 az b.fFields) (ah:Sl H0 a4 a3) {r:GTable} (h:zJt bj b a3 bw=some r) :
  Con Tryz.prog 159 [(agg [bn,bo]),(agg [aw,ax,ay,(str b.fReason),az,(str b.fBody),(int b.fRequested),(int b.fReceived)]),a4,(int bw)] w0 H0 (fun H' v=>∃ u1 u2:Value,v=(agg [u1,u2])∧Sl H' u1 r.fAxes∧Sl H' u2 r.fEntries):=by
 refine CM 44 Tryz.func159 hw fun S=>?_
 refine Ws<|Wg ?_;refine W.box [bn,bo] S rfl rfl ?_;intro b1 w2 S;refine W.box [aw,ax,ay,(str b.fReason),az,(str b.fBody),(int b.fRequested),(int b.fReceived)] S rfl rfl ?_;intro b3 w4 S;refine W.box [a4] S rfl (congrArg Array.toList (Sl.cellsOne ah)) ?_;intro b5 w6 S;refine W.alloc [(.slice none 0 0),(.slice none 0 0)] S zer79 ?_;intro b7 w8 S;refine We<|Ws<|Wg ?_;refine WL.wz (R.loadBN (i:=3) (vs:=[bn,bo]) S rfl rfl lay79 rfl rfl)<|B h fun r9 cy h=>W.callS rfl (zGM hG bj S bt cw cy) ?_
 rintro dp dq cz dr c0 S ⟨bx,bz,cl,rfl,rfl,bc,bd⟩;replace S:St w0 H0 _ cz [cl,.box b7 79 [(.slice none 0 0),(.slice none 0 0)],.box b5 76 [a4],.box b3 87 [aw,ax,ay,(str b.fReason),az,(str b.fBody),(int b.fRequested),(int b.fReceived)],.box b1 79 [bn,bo]]:=S;have ⟨bt,k,o,p,t,ah⟩:=U6 c0 bt k o p t ah;refine W.alloc [(.slice none 0 0),(.slice none 0 0)] S zer79 ?_;intro a0 ds S;refine W.store (i:=0) [bx,bz] S rfl rfl rfl lay79 rfl (AllOne.all (l:=[bx,bz]) (.cons (Sl.oneC bc) (.cons (MR.oneC bd) .nil))) (nL kr) rfl ?_;intro dt S;refine We<|Ws<|Ws<|Wg<|Fb ?_;refine Lo 5 S ?_;refine Lo 3 S<|B h fun du c1 h=>W.call S rfl (zKv S.holds (hG.pstX S.post) bj.fAxes a3 bt ah c1) ?_
 rintro dv dw c2 cm S rfl;have ⟨k,o,p,t,ah,bc⟩:=U6 cm k o p t ah bc;have bd:=MR.mono bd cm;refine No<|We ?_;obtain ⟨⟨c3,cn⟩,a5,h⟩:=bindE h;refine WP.cut (fun f w=>∃ (a1:Hp) (c:Value) (a6:Value) (be:Ent),f 3=(int bw)∧f 5=(ptr b3 0)∧f 6=(ptr b5 0)∧f 8=(ptr b7 0)∧f 9=(ptr a0 0)∧Sl a1 c c3∧MR (α:=GEntry) a1 be 87 a6 cn∧Sl a1 a4 a3∧Sl a1 aw b.fKeys∧Sl a1 ax b.fVary∧Sl a1 ay b.fSnapshot∧Sl a1 az b.fFields∧St w0 H0 w a1 [.box a0 79 [c,a6],be,.box b7 79 [(.slice none 0 0),(.slice none 0 0)],.box b5 76 [a4],.box b3 87 [aw,ax,ay,(str b.fReason),az,(str b.fBody),(int b.fRequested),(int b.fReceived)]]) ?_ ?_
 ·rcases condE a5 with ⟨b0,a5⟩ | ⟨b0,a5⟩
  ·refine CT b0<|Wg ?_
   refine Lo 3 S<|B a5 fun dx c6 a5=>W.call S rfl (zKK S.holds (hG.pstX S.post) a3 ah c6) ?_
   rintro bq dy c7 co S b2;have ⟨k,o,p,t,ah,bc⟩:=U6 co k o p t ah bc;have bd:=MR.mono bd co;refine WL.wz (R.build [(0,bq)] [bq,(.slice none 0 0)] bp79 zer79 rfl (by obtain ⟨_,_,rfl,_⟩:=b2; rfl)) ?_;refine W.store (i:=0) [bq,(.slice none 0 0)] S rfl rfl rfl lay79 rfl (AllOne.all (l:=[bq,(.slice none 0 0)]) (.cons (Sl.oneC b2) (.cons rfl .nil))) (nL kr) rfl ?_;intro dz S;refine We ?_;cases oi a5;exact ⟨c7,bq,.slice none 0 0,(.row (.slice none 0 0) 87 8 0),rfl,rfl,rfl,rfl,rfl,b2,MR.nil,ah,k,o,p,t,((S.addNil 87 8).pk [1,0,3,4,5])⟩
  refine CF b0<|Wk ?_;cases oi a5;exact ⟨c2,bx,bz,(cl),rfl,rfl,rfl,rfl,rfl,bc,bd,ah,k,o,p,t,(S.pk [0,1,2,3,4])⟩
 rintro f w ⟨a1,c,a6,be,bu,b4,c8,a2,z,d,br,ah,k,o,p,t,S⟩;refine Ws<|Wg<|Fb' z ?_;refine Lo 0 S ?_;obtain ⟨cp,cq,c9,_,S⟩:=S.settle (i:=3) rfl;replace S:St w0 H0 _ cp [.box a0 79 [c,a6],be,.box b7 79 [(.slice none 0 0),(.slice none 0 0)],.box b3 87 [aw,ax,ay,(str b.fReason),az,(str b.fBody),(int b.fRequested),(int b.fReceived)]]:=S;have b6:At cp ⟨b5,0,none⟩ [a4]:=⟨_,_,rfl,c9,[],by simp⟩;have br:=MR.mono br cq;have ⟨d,ah,k,o,p,t⟩:=U6 cq d ah k o p t;obtain ⟨b8,bv,da,_,S⟩:=S.settle (i:=3) rfl;replace S:St w0 H0 _ b8 [.box a0 79 [c,a6],be,.box b7 79 [(.slice none 0 0),(.slice none 0 0)]]:=S;have ao:At b8 ⟨b3,0,none⟩ [aw,ax,ay,(str b.fReason),az,(str b.fBody),(int b.fRequested),(int b.fReceived)]:=⟨_,_,rfl,da,[],by simp⟩;have b6:=At.mono b6 bv (by simp);have ah:=ah.up bv;have br:=MR.mono br bv;have ⟨d,k,o,p,t⟩:=U5 bv d k o p t;refine WL.wz (R.mkFunc (vs:=[(Value.pointer (some ⟨b5,0,none⟩)),(Value.pointer (some ⟨b3,0,none⟩))]) (mapC c8 (mapC b4 mapN)))<|B h fun d0 db h=>?_
 have S:=S.front 1 rfl;replace S:St w0 H0 _ b8 (be :: [.box a0 79 [c,a6],.box b7 79 [(.slice none 0 0),(.slice none 0 0)]]):=S;refine W.callS rfl (zCx hG cn (fun x0=>zJp x0 a3 b) S br (fun hle hw hG x0=>fun dc dd de df r h=>zMp hw hG x0 a3 b dc dd de df (At.mono b6 hle (by simp)) (ah.up hle) (At.mono ao hle (by simp)) (k.up hle) (o.up hle) (p.up hle) (t.up hle) h) db) ?_;rintro dg d1 dh d2 cr S ⟨di,rfl,u⟩;replace S:St w0 H0 _ dh [di,.box a0 79 [c,a6],.box b7 79 [(.slice none 0 0),(.slice none 0 0)]]:=S;have ao:=At.mono ao cr (by simp);have ⟨k,o,p,t,d⟩:=U5 cr k o p t d;refine Fb' z ?_;refine W.storeMR (α:=GEntry) (i:=1) [c,dg] S u rfl rfl rfl lay77 (nL kr) rfl ?_;intro d3 S;refine We<|Ws<|WP.draw kr 8 rfl (bm 8 0) rfl ?_;have S:=S.drew;refine At_ 0 8 1 rfl (fun _=>(R.fieldB z zGY)) ?_;refine WA.two (i:=1) (j:=2) (bm 8 3) (bm 8 5) rfl rfl kr rfl rfl ?_ ?_
 ·refine Lo 1 S<|We<|WA.one (i:=2) (bm 8 7) rfl kr rfl ?_
  refine WL.wz (R.loadHN (vs:=[aw,ax,ay,(str b.fReason),az,(str b.fBody),(int b.fRequested),(int b.fReceived)]) S b4 ao lay87 rfl rfl)<|We<|WA.one (i:=3) (bm 8 15) rfl kr rfl<|B h fun x bs h=>W.call S rfl (zCv S.holds (hG.pstX S.post) b k o p t bs) ?_
  rintro ct cu cv ap S ⟨bf,bg,bh,bi,rfl,ac,ad,ae,af⟩;have ao:=At.mono ao ap (by simp);have ⟨k,o,p,t⟩:=U4 ap k o p t;have u:=MR.mono u ap;have d:=d.up ap;refine We<|WA.one (i:=4) (bm 8 31) rfl kr rfl<|W.bslice (α:=GEntry) [(agg [bf,bg,bh,(str x.fReason),bi,(str x.fBody),(int x.fRequested),(int x.fReceived)])] ([x]:List GEntry) S el77 rfl rfl rfl (by decide) (Go.Eng.encS ⟨rfl,_,_,_,_,rfl,ac,ad,ae,af⟩ enc0) ?_;intro a7 ca cb aj am S;have ao:=At.mono ao aj (by simp);have ⟨k,o,p,t⟩:=U4 aj k o p t;have u:=MR.mono u aj;have ⟨ac,ad,ae,af,d⟩:=U5 aj ac ad ae af d;refine We<|WA.one (i:=5) (bm 8 63) rfl kr rfl<|B h fun cc a8 h=>W.appM (α:=GEntry) (i:=1) S el77 rfl rfl rfl u am a8 ?_
  intro aq cd ce au S;refine We ?_;refine At_ 6 8 127 rfl (fun _=>(R.fieldB z zGY))<|WA.one (i:=7) (bm 8 255) rfl kr rfl ?_;refine W.storeMR (α:=GEntry) (i:=2) [c,aq] S au rfl rfl rfl lay77 (nL kr) rfl ?_;intro cf S;refine We<|WA.done kr<|Ws<|Wg<|Fb' z ?_;refine Lo 2 S<|Fb' z ?_;refine Lo 2 S ?_;obtain ⟨a9,ak,av,S⟩:=S.settleM (i:=1) rfl au;replace S:St w0 H0 _ a9 [.row a7 87 8 ([x]:List GEntry).length,.box a0 79 [c,aq],.box b7 79 [(.slice none 0 0),(.slice none 0 0)]]:=S;have ao:=At.mono ao ak (by simp);have ⟨k,o,p,t⟩:=U4 ak k o p t;have u:=MR.mono u ak;have ⟨ac,ad,ae,af,am,d⟩:=U6 ak ac ad ae af am d;refine Nq av<|M' bu<|Nj<|Lh<|Nj<|B h fun cg ba h=>W.subLo (α:=GEntry) av rfl rfl el77 ba ?_
  intro aa ai;refine Fb' z ?_;refine W.storeSl (α:=GEntry) (i:=1) [c,aa] S ai rfl rfl rfl lay77 (nL kr) rfl ?_;intro ch S;refine We<|Ws<|Wg ?_;refine WL.wz (R.loadBN (i:=1) (vs:=[c,aa]) S z rfl lay79 rfl rfl) ?_;refine W.store (i:=2) [c,aa] S a2 rfl rfl lay79 rfl (AllOne.all (l:=[c,aa]) (.cons (Sl.oneC d) (.cons (Sl.oneC ai) .nil))) (nL kr) rfl ?_;intro ci S;refine We ?_;obtain rfl:=oi h;refine WP.ret (Out.one rfl S (Res.cellB (i:=2) (cs:=[c,aa]) S a2 rfl lay79 rfl rfl) ?_);exact ⟨_,_,rfl,d,ai⟩
 refine WL.wz (R.loadHN (vs:=[aw,ax,ay,(str b.fReason),az,(str b.fBody),(int b.fRequested),(int b.fReceived)]) S b4 ao lay87 rfl rfl)<|We ?_;refine WA.two (i:=1) (j:=3) (bm 8 7) (bm 8 13) rfl rfl kr rfl rfl ?_ ?_
 ·refine Lo 1 S<|We<|WA.one (i:=3) (bm 8 15) rfl kr rfl<|B h fun x bs h=>W.call S rfl (zCv S.holds (hG.pstX S.post) b k o p t bs) ?_
  rintro ct cu cv ap S ⟨bf,bg,bh,bi,rfl,ac,ad,ae,af⟩;have ⟨k,o,p,t⟩:=U4 ap k o p t;have u:=MR.mono u ap;have d:=d.up ap;refine We<|WA.one (i:=4) (bm 8 31) rfl kr rfl<|W.bslice (α:=GEntry) [(agg [bf,bg,bh,(str x.fReason),bi,(str x.fBody),(int x.fRequested),(int x.fReceived)])] ([x]:List GEntry) S el77 rfl rfl rfl (by decide) (Go.Eng.encS ⟨rfl,_,_,_,_,rfl,ac,ad,ae,af⟩ enc0) ?_;intro a7 ca cb aj am S;have ⟨k,o,p,t⟩:=U4 aj k o p t;have u:=MR.mono u aj;have ⟨ac,ad,ae,af,d⟩:=U5 aj ac ad ae af d;refine We<|WA.one (i:=5) (bm 8 63) rfl kr rfl<|B h fun cc a8 h=>W.appM (α:=GEntry) (i:=1) S el77 rfl rfl rfl u am a8 ?_
  intro aq cd ce au S;refine We ?_;refine At_ 6 8 127 rfl (fun _=>(R.fieldB z zGY))<|WA.one (i:=7) (bm 8 255) rfl kr rfl ?_;refine W.storeMR (α:=GEntry) (i:=2) [c,aq] S au rfl rfl rfl lay77 (nL kr) rfl ?_;intro cf S;refine We<|WA.done kr<|Ws<|Wg<|Fb' z ?_;refine Lo 2 S<|Fb' z ?_;refine Lo 2 S ?_;obtain ⟨a9,ak,av,S⟩:=S.settleM (i:=1) rfl au;replace S:St w0 H0 _ a9 [.row a7 87 8 ([x]:List GEntry).length,.box a0 79 [c,aq],.box b7 79 [(.slice none 0 0),(.slice none 0 0)]]:=S;have ⟨k,o,p,t⟩:=U4 ak k o p t;have u:=MR.mono u ak;have ⟨ac,ad,ae,af,am,d⟩:=U6 ak ac ad ae af am d;refine Nq av<|M' bu<|Nj<|Lh<|Nj<|B h fun cg ba h=>W.subLo (α:=GEntry) av rfl rfl el77 ba ?_
  intro aa ai;refine Fb' z ?_;refine W.storeSl (α:=GEntry) (i:=1) [c,aa] S ai rfl rfl rfl lay77 (nL kr) rfl ?_;intro ch S;refine We<|Ws<|Wg ?_;refine WL.wz (R.loadBN (i:=1) (vs:=[c,aa]) S z rfl lay79 rfl rfl) ?_;refine W.store (i:=2) [c,aa] S a2 rfl rfl lay79 rfl (AllOne.all (l:=[c,aa]) (.cons (Sl.oneC d) (.cons (Sl.oneC ai) .nil))) (nL kr) rfl ?_;intro ci S;refine We ?_;obtain rfl:=oi h;refine WP.ret (Out.one rfl S (Res.cellB (i:=2) (cs:=[c,aa]) S a2 rfl lay79 rfl rfl) ?_);exact ⟨_,_,rfl,d,ai⟩
 refine B h fun x bs h=>W.call S rfl (zCv S.holds (hG.pstX S.post) b k o p t bs) ?_
 rintro ct cu cv ap S ⟨bf,bg,bh,bi,rfl,ac,ad,ae,af⟩;have u:=MR.mono u ap;have d:=d.up ap;refine We ?_;refine WA.two (i:=1) (j:=4) (bm 8 15) (bm 8 29) rfl rfl kr rfl rfl ?_ ?_
 ·refine Lo 1 S<|We<|WA.one (i:=4) (bm 8 31) rfl kr rfl<|W.bslice (α:=GEntry) [(agg [bf,bg,bh,(str x.fReason),bi,(str x.fBody),(int x.fRequested),(int x.fReceived)])] ([x]:List GEntry) S el77 rfl rfl rfl (by decide) (Go.Eng.encS ⟨rfl,_,_,_,_,rfl,ac,ad,ae,af⟩ enc0) ?_
  intro a7 ca cb aj am S;have u:=MR.mono u aj;have ⟨ac,ad,ae,af,d⟩:=U5 aj ac ad ae af d;refine We<|WA.one (i:=5) (bm 8 63) rfl kr rfl<|B h fun cc a8 h=>W.appM (α:=GEntry) (i:=1) S el77 rfl rfl rfl u am a8 ?_
  intro aq cd ce au S;refine We ?_;refine At_ 6 8 127 rfl (fun _=>(R.fieldB z zGY))<|WA.one (i:=7) (bm 8 255) rfl kr rfl ?_;refine W.storeMR (α:=GEntry) (i:=2) [c,aq] S au rfl rfl rfl lay77 (nL kr) rfl ?_;intro cf S;refine We<|WA.done kr<|Ws<|Wg<|Fb' z ?_;refine Lo 2 S<|Fb' z ?_;refine Lo 2 S ?_;obtain ⟨a9,ak,av,S⟩:=S.settleM (i:=1) rfl au;replace S:St w0 H0 _ a9 [.row a7 87 8 ([x]:List GEntry).length,.box a0 79 [c,aq],.box b7 79 [(.slice none 0 0),(.slice none 0 0)]]:=S;have u:=MR.mono u ak;have ⟨ac,ad,ae,af,am,d⟩:=U6 ak ac ad ae af am d;refine Nq av<|M' bu<|Nj<|Lh<|Nj<|B h fun cg ba h=>W.subLo (α:=GEntry) av rfl rfl el77 ba ?_
  intro aa ai;refine Fb' z ?_;refine W.storeSl (α:=GEntry) (i:=1) [c,aa] S ai rfl rfl rfl lay77 (nL kr) rfl ?_;intro ch S;refine We<|Ws<|Wg ?_;refine WL.wz (R.loadBN (i:=1) (vs:=[c,aa]) S z rfl lay79 rfl rfl) ?_;refine W.store (i:=2) [c,aa] S a2 rfl rfl lay79 rfl (AllOne.all (l:=[c,aa]) (.cons (Sl.oneC d) (.cons (Sl.oneC ai) .nil))) (nL kr) rfl ?_;intro ci S;refine We ?_;obtain rfl:=oi h;refine WP.ret (Out.one rfl S (Res.cellB (i:=2) (cs:=[c,aa]) S a2 rfl lay79 rfl rfl) ?_);exact ⟨_,_,rfl,d,ai⟩
 refine W.bslice (α:=GEntry) [(agg [bf,bg,bh,(str x.fReason),bi,(str x.fBody),(int x.fRequested),(int x.fReceived)])] ([x]:List GEntry) S el77 rfl rfl rfl (by decide) (Go.Eng.encS ⟨rfl,_,_,_,_,rfl,ac,ad,ae,af⟩ enc0) ?_;intro a7 ca cb aj am S;have u:=MR.mono u aj;have d:=d.up aj;refine We<|WA.one (i:=1) (bm 8 31) rfl kr rfl ?_;refine Lo 2 S<|We<|WA.one (i:=5) (bm 8 63) rfl kr rfl<|B h fun cc a8 h=>W.appM (α:=GEntry) (i:=1) S el77 rfl rfl rfl u am a8 ?_
 intro aq cd ce au S;refine We ?_;refine At_ 6 8 127 rfl (fun _=>(R.fieldB z zGY))<|WA.one (i:=7) (bm 8 255) rfl kr rfl ?_;refine W.storeMR (α:=GEntry) (i:=2) [c,aq] S au rfl rfl rfl lay77 (nL kr) rfl ?_;intro cf S;refine We<|WA.done kr<|Ws<|Wg<|Fb' z ?_;refine Lo 2 S<|Fb' z ?_;refine Lo 2 S ?_;obtain ⟨a9,ak,av,S⟩:=S.settleM (i:=1) rfl au;replace S:St w0 H0 _ a9 [.row a7 87 8 ([x]:List GEntry).length,.box a0 79 [c,aq],.box b7 79 [(.slice none 0 0),(.slice none 0 0)]]:=S;have u:=MR.mono u ak;have d:=d.up ak;refine Nq av<|M' bu<|Nj<|Lh<|Nj<|B h fun cg ba h=>W.subLo (α:=GEntry) av rfl rfl el77 ba ?_
 intro aa ai;refine Fb' z ?_;refine W.storeSl (α:=GEntry) (i:=1) [c,aa] S ai rfl rfl rfl lay77 (nL kr) rfl ?_;intro ch S;refine We<|Ws<|Wg ?_;refine WL.wz (R.loadBN (i:=1) (vs:=[c,aa]) S z rfl lay79 rfl rfl) ?_;refine W.store (i:=2) [c,aa] S a2 rfl rfl lay79 rfl (AllOne.all (l:=[c,aa]) (.cons (Sl.oneC d) (.cons (Sl.oneC ai) .nil))) (nL kr) rfl ?_;intro ci S;refine We ?_;obtain rfl:=oi h;refine WP.ret (Out.one rfl S (Res.cellB (i:=2) (cs:=[c,aa]) S a2 rfl lay79 rfl rfl) ?_);exact ⟨_,_,rfl,d,ai⟩
end Go.Proofs
namespace Go.Proofs
open Go Go.Eng Go.VI Go.Eng.Pure
theorem c159:FK ⟨159,[(.st 79),(.st 87),(.sl (.st 278)),.int],[(.st 79)],fun x=>zJt x.1 x.2.1 x.2.2.1 x.2.2.2⟩:=@fun w H az x y hw hg b hT h=>by
 obtain ⟨j,_,rfl,c,⟨k,_,rfl,d,⟨l,_,rfl,f,⟨i,rfl,e3⟩⟩⟩⟩:=hT;obtain ⟨_,rfl,⟨_,_,rfl,S0_0,S0_1⟩⟩:=c;obtain ⟨_,rfl,⟨_,_,_,_,rfl,S1_0,S1_1,S1_2,S1_4⟩⟩:=d;obtain rfl:i=_:=e3;exact (zOk hw ⟨b.gl,b,hg⟩ x.1 x.2.1 x.2.2.1 x.2.2.2 S0_0 S0_1 S1_0 S1_1 S1_2 S1_4 f h).mono (fun _ _ ⟨o,p,e,K0,K1⟩=>⟨[_],e,_,rfl,⟨_,rfl,⟨_,_,rfl,K0,K1⟩⟩⟩)
end Go.Proofs
namespace Go.Proofs
open Go.Eng Go.Eng.Pure
theorem zDc {c ws:World} {d Hs:Hp} {p:List Ent} (hG:GlX c d) (b:(List GEntry)) (t aa:Int) {v:Value} {en:Ent} (S:St c d ws Hs (en :: p)) (RM:MR (α:=GEntry) Hs en 87 v b)
  {r:List GEntry} (h:zAw b t aa=some r) :
  ConS Tryz.prog 212 [v,(int t),(int aa)] c d ws Hs p (fun H' v' L'=>∃ en',L'=[en']∧MR (α:=GEntry) H' en' 87 v' r):=by
 unfold zAw delI at h;split at h
 case isFalse=>cases h
 rename_i hb;obtain rfl:=oi h;obtain ⟨i,rfl⟩:=Int.eq_ofNat_of_zero_le hb.1;obtain ⟨j,rfl⟩:=Int.eq_ofNat_of_zero_le (Int.le_trans hb.1 hb.2.1);obtain ⟨a0,c0,hv,am⟩:=RM.shape;simp only [Int.toNat_natCast];refine ConS.mk (N:=33) Tryz.func212 rfl rfl kr rfl<|Ws<|Wg<|A<|We<|Ws<|Wg<|M<|M<|M<|M<|Nv' hv ?_;obtain ⟨v3,h3⟩:=R.slice3 (P:=Tryz.prog) (N:=⟨33,[]⟩) (w:=ws) (od:=some 13) (ty:=77) (pos:= "") (af:=#[]) (g:=none) (T:=77) (f:=upd (upd (upd (upd (upd (upd (init [v,int i,int j]) 6 (.slice none 0 0)) 8 v) 9 (int i)) 10 (int j)) 11 v) 12 (int b.length)) (x:=.tmp 8) (i:=.tmp 9) (j:=.tmp 10) (l:=.tmp 12) (k:=i) (m:=j) (q:=b.length) hv rfl rfl rfl el77 ⟨hb.1,hb.2.1,hb.2.2,by omega⟩;refine WL.wz h3<|We<|Ws<|Ws<|Wg<|M<|M<|Le<|We ?_;by_cases hij:i=j
 ·subst hij
  refine WP.condT rfl (by simp)<|Ws<|Wg<|M<|A<|We ?_;refine WP.ret (OutS.one (L':=[en]) rfl lr S rfl ?_);exact ⟨en,rfl,by rw [List.take_append_drop]; exact RM⟩
 refine WP.condF rfl (by simp only [beq_eq_false_iff_ne]; omega)<|Wk ?_;rcases RM with ⟨_,hnil,_⟩ | ⟨g,cap,cur0,cs0,rfl,rfl,hnc,hcm,hcs,htk,hC⟩
 ·subst hnil; simp only [List.length_nil] at hb; omega
 have ao:i<j:=by omega
 have hjl:j≤b.length:=by omega
 refine Ws<|Wg<|M<|Nv<|A<|We<|Ws<|WP.drawC (Cl c d Hs []) kr 8 rfl (bm 8 0) rfl ?_;have S:=S.drew;refine Ct 0 8 1 rfl (fun _ _=>(R.mv (v:=.slice (some ⟨g,0,none⟩) b.length cap) rfl)) ?_;refine Ct 1 8 3 rfl (fun _ _=>(R.mv (v:=int i) rfl)) ?_;refine Ct 2 8 7 rfl (fun _ _=>R.sliceHi rfl rfl el77 (by omega)) ?_;refine Ct 3 8 15 rfl (fun _ _=>(R.mv (v:=.slice (some ⟨g,0,none⟩) b.length cap) rfl)) ?_;refine Ct 4 8 31 rfl (fun _ _=>(R.mv (v:=int j) rfl)) ?_;obtain ⟨o,c',ho,hso⟩:=R.sliceLo0 (P:=Tryz.prog) (N:=⟨33,[]⟩) (od:=some 25) (ty:=77) (pos:= "") (af:=#[]) (g:=none) (T:=77) (f:=upd (upd (init [.slice (some ⟨g,0,none⟩) b.length cap]) 23 (.slice (some ⟨g,0,none⟩) b.length cap)) 24 (int j)) (x:=.tmp 23) (i:=.tmp 24) (k:=j) rfl rfl el77 hjl hnc;refine Ct 5 8 63 rfl (fun w _=>hso w) ?_;have hone:∀ u ∈ (cur0.toList.drop (j*8)).take ((b.length - j)*8),u.oneCell'=true:=fun u hu=>by
  have hc:=hC.one u;refine hc ?_;rw [← htk];rw [show b.length*Enc.sz GEntry=j*8+(b.length - j)*8 by rw [← Nat.add_mul]; show b.length*8=_; congr 1; omega,List.take_add];exact List.mem_append_right _ hu
 have hok:(cur0.toList.drop o).take ((b.length - j)*8)=(cur0.toList.drop (j*8)).take ((b.length - j)*8):=by
  rcases ho with rfl | ⟨h0,rfl⟩
  ·rfl
  rw [h0]; rfl
 have hsz:cur0.size=cap*8:=hcs;have hll:cur0.toList.length=cap*8:=hcs;refine Cx [6] ⟨Hs,lr,S.drop _ (List.nil_sublist _)⟩ (all1 ?_);refine Nx 8 127 rfl<|W.appO (i:=0) (sz:=8) (k:=b.length - j) S el77 rfl rfl rfl hsz (by omega) (by rcases ho with rfl | ⟨h0,rfl⟩ <;> omega) (by rw [hok]; exact hone) ?_;intro w1 cur1 hcur1 S;rw [hok] at hcur1;refine We ?_;refine Ct 7 8 255 rfl (fun _ _=>(R.as (v:=.slice (some ⟨g,0,none⟩) (i+(b.length - j)) cap) rfl))<|WC.done ⟨Hs,lr,S.drop _ (List.nil_sublist _)⟩ kr ?_;have ac:(cur0.toList.take (i*8)++(cur0.toList.drop (j*8)).take ((b.length - j)*8)).length=(i+(b.length - j))*8:=by
  rw [lA,List.length_take,List.length_take,List.length_drop,hll]; omega
 have ae:cur1.size=cap*8:=by
  rw [← Array.length_toList,hcur1,lA,ac,List.length_drop,hll]; omega
 have ah:Cells Hs (cur1.toList.take ((i+(b.length - j))*8)) (b.take i++b.drop j):=by
  rw [hcur1,← ac,List.take_left];exact Cells.cutOut htk hC (by omega) hjl
 refine Ws<|Wg<|M<|M<|Nv<|M ?_;refine WL.wz (R.sliceLH rfl rfl rfl el77 (by omega) (by omega))<|W.clearO (α:=GEntry) (i:=0) S el77 (fun z hz=>by rw [zer87] at hz; obtain rfl:=oi hz; rfl) rfl rfl (by show (i+(b.length - j))*8+(b.length - (i+(b.length - j)))*8≤cur1.size; omega) ?_;intro w2 cur2 ai aj S;refine We<|Ws<|Wg<|M<|A<|We ?_;refine WP.ret (OutS.one (L':=[.obj g (.cells cur2 87 (0,0))]) rfl lr S rfl ?_);have hlen:(b.take i++b.drop j).length=i+(b.length - j):=by rw [lA,List.length_take,List.length_drop]; omega
 refine ⟨_,rfl,.inr ⟨g,cap,cur2,cur1.toList.take ((i+(b.length - j))*8),by rw [hlen]; rfl,rfl,by rw [hlen]; omega,hcm,by rw [ai]; exact ae,?_,ah⟩⟩;rw [hlen]; exact aj
theorem zMJ {k:World} {j:Hp} (hw:Holds k j) (hG:GlX k j) (ad:GTable) (u:Int) {p:Value} {t:Value} (ay:Sl j p ad.fAxes) (az:Sl j t ad.fEntries) {r:GTable} (h:zDD ad u=some r) :
  Con Tryz.prog 147 [(agg [p,t]),(int u)] k j (fun H' v=>∃ u1 u2:Value,v=(agg [u1,u2])∧Sl H' u1 r.fAxes∧Sl H' u2 r.fEntries):=by
 refine CM 25 Tryz.func147 hw fun S=>?_
 refine Ws<|Wg ?_;refine W.box [p,t] S rfl rfl ?_;intro b1 w2 S;refine W.alloc [(.slice none 0 0),(.slice none 0 0)] S zer79 ?_;intro x w4 S;refine We<|Ws<|Wg ?_;refine WL.wz (R.loadBN (i:=1) (vs:=[p,t]) S rfl rfl lay79 rfl rfl)<|B h fun r5 a0 h=>W.callS rfl (zGM hG ad S ay az a0) ?_
 rintro v6 w7 H8 be bf S ⟨c,aa,aj,rfl,rfl,d,ab⟩;replace S:St k j _ H8 [aj,.box x 79 [(.slice none 0 0),(.slice none 0 0)],.box b1 79 [p,t]]:=S;refine W.alloc [(.slice none 0 0),(.slice none 0 0)] S zer79 ?_;intro ac bg S;refine W.store (i:=0) [c,aa] S rfl rfl rfl lay79 rfl (AllOne.all (l:=[c,aa]) (.cons (Sl.oneC d) (.cons (MR.oneC ab) .nil))) (nL kr) rfl ?_;intro bh S;refine We<|Ws<|Ws<|Wg<|M<|Ld<|M ?_;refine WL.grp 6 [11,12,13,14,15] 16 (boo ((decide (0≤u))&&(decide (u<(r5.fEntries.length:Int))))) ?_ ?_
 ·rcases boolE (decide (0≤u)) with b | b
  ·refine Gy b<|M<|Gy b<|Fb<|Gy b ?_
   refine Lo 0 S<|Gy b ?_;obtain ⟨a1,a2,a3,S⟩:=S.settleM (i:=1) rfl ab;replace S:St k j _ a1 [.box ac 79 [c,aa],.box x 79 [(.slice none 0 0),(.slice none 0 0)],.box b1 79 [p,t]]:=S;have d:=d.up a2;refine Nq a3<|Gy b<|La<|Pt b ?_;exact We ⟨(andT b),ag,rfl⟩
  refine Gn b<|Gn b<|Gn b<|Gn b<|Gn b<|Pf b ?_;exact We ⟨(andF b),ag,rfl⟩
 intro us;refine We<|B h fun a4 z h=>WP.cut (fun f w=>∃ (af:Hp) (o:Value) (ak:Ent),f 4=(ptr x 0)∧f 5=(ptr ac 0)∧Sl af c r5.fAxes∧MR (α:=GEntry) af ak 87 o a4∧St k j w af [.box ac 79 [c,o],ak,.box x 79 [(.slice none 0 0),(.slice none 0 0)]]) ?_ ?_
 ·rcases condE z with ⟨al,z⟩ | ⟨al,z⟩
  ·refine CT al<|Wg<|Fb ?_
   refine Lo 0 S<|M<|M<|Lg<|B z fun bi a5 z=>?_
   have S:=S.front 1 rfl;replace S:St k j _ H8 (aj :: [.box ac 79 [c,aa],.box x 79 [(.slice none 0 0),(.slice none 0 0)],.box b1 79 [p,t]]):=S;refine W.callS rfl (zDc hG r5.fEntries u (wr (u+1)) S ab a5) ?_;rintro ao bj ap bn aq S ⟨au,rfl,av⟩;replace S:St k j _ ap [au,.box ac 79 [c,aa],.box x 79 [(.slice none 0 0),(.slice none 0 0)],.box b1 79 [p,t]]:=S;have d:=d.up aq;have ab:=MR.mono ab aq;refine Fb ?_;refine W.storeMR (α:=GEntry) (i:=1) [c,ao] S av rfl rfl rfl lay77 (nL kr) rfl ?_;intro bo S;refine We ?_;obtain rfl:=oi z;exact ⟨ap,ao,(au),rfl,rfl,d,av,(S.pk [1,0,2])⟩
  refine CF al<|Wk ?_;obtain rfl:=oi z;exact ⟨H8,aa,(aj),rfl,rfl,d,ab,(S.pk [0,1,2])⟩
 rintro f w ⟨af,o,ak,aw,a6,d,ax,S⟩;refine Ws<|Wg ?_;refine WL.wz (R.loadBN (i:=0) (vs:=[c,o]) S a6 rfl lay79 rfl rfl) ?_;refine W.store (i:=2) [c,o] S aw rfl rfl lay79 rfl (AllOne.all (l:=[c,o]) (.cons (Sl.oneC d) (.cons (MR.oneC ax) .nil))) (nL kr) rfl ?_;intro bp S;refine We ?_;obtain ⟨a7,a8,a9,S⟩:=S.settleM (i:=1) rfl ax;replace S:St k j _ a7 [.box ac 79 [c,o],.box x 79 [c,o]]:=S;have d:=d.up a8;obtain rfl:=oi h;refine WP.ret (Out.one rfl S (Res.cellB (i:=1) (cs:=[c,o]) S aw rfl lay79 rfl rfl) ?_);exact ⟨_,_,rfl,d,a9⟩
end Go.Proofs
