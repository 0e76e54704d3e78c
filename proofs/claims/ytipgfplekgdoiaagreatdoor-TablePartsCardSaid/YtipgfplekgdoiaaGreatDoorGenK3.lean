/- A part. -/
import Derived.Test.YtipgfplekgdoiaaGreatDoorEng38
import Derived.Test.YtipgfplekgdoiaaGreatDoorEng36
import Derived.Test.YtipgfplekgdoiaaGreatDoorGenK2
namespace Go.Proofs
set_option maxHeartbeats 4000000
set_option maxRecDepth 10000
open Go.Eng Go.Eng.Pure
set_option linter.unusedVariables false
theorem zCw {c ws:World} {d Hs:Hp} {p:List Ent} (b:(List GEntry)) (t aa:Int) {v:Value} {en:Ent} (S:St c d ws Hs (en :: p)) (RM:MR (α:=GEntry) Hs en 36 v b)
  {r:List GEntry} (h:zAr b t aa=some r) :
  ConS Tryz.prog 57 [v,(int t),(int aa)] c d ws Hs p (fun H' v' L'=>∃ en',L'=[en']∧MR (α:=GEntry) H' en' 36 v' r):=by
 unfold zAr delI at h
 split at h
 case isFalse=>cases h
 rename_i hb
 obtain rfl:=oi h
 obtain ⟨i,rfl⟩:=Int.eq_ofNat_of_zero_le hb.1
 obtain ⟨j,rfl⟩:=Int.eq_ofNat_of_zero_le (Int.le_trans hb.1 hb.2.1)
 obtain ⟨a0,c0,hv,am⟩:=RM.shape
 simp only [Int.toNat_natCast]
 refine ConS.mk (N:=33) Tryz.func57 rfl rfl kr rfl<|Ws<|Wg<|A<|We<|Ws<|Wg<|M<|M<|M<|M<|Nv' hv ?_
 obtain ⟨v3,h3⟩:=R.slice3 (P:=Tryz.prog) (N:=⟨33,[]⟩) (w:=ws) (od:=some 13) (ty:=23) (pos:= "") (af:=#[]) (g:=none) (T:=23) (f:=upd (upd (upd (upd (upd (upd (init [v,int i,int j]) 6 (.slice none 0 0)) 8 v) 9 (int i)) 10 (int j)) 11 v) 12 (int b.length)) (x:=.tmp 8) (i:=.tmp 9) (j:=.tmp 10) (l:=.tmp 12) (k:=i) (m:=j) (q:=b.length) hv rfl rfl rfl el23 ⟨hb.1,hb.2.1,hb.2.2,by omega⟩
 refine WL.w h3<|We<|Ws<|Ws<|Wg<|M<|M<|Le<|We ?_
 by_cases hij:i=j
 ·subst hij
  refine WP.condT rfl (by simp)<|Ws<|Wg<|M<|A<|We ?_
  refine WP.ret (OutS.one (L':=[en]) rfl lr S rfl ?_)
  exact ⟨en,rfl,by rw [List.take_append_drop]; exact RM⟩
 refine WP.condF rfl (by simp only [beq_eq_false_iff_ne]; omega)<|Wk ?_
 rcases RM with ⟨_,hnil,_⟩ | ⟨g,cap,cur0,cs0,rfl,rfl,hnc,hcm,hcs,htk,hC⟩
 ·subst hnil; simp only [List.length_nil] at hb; omega
 have ao:i<j:=by omega
 have hjl:j≤b.length:=by omega
 refine Ws<|Wg<|M<|Nv<|A<|We<|Ws<|WP.drawC (Cl c d Hs []) kr 8 rfl (bm 8 0) rfl ?_
 have S:=S.drew
 refine Ct 0 8 1 rfl (fun _ _=>(R.mv (v:=.slice (some ⟨g,0,none⟩) b.length cap) rfl)) ?_
 refine Ct 1 8 3 rfl (fun _ _=>(R.mv (v:=int i) rfl)) ?_
 refine Ct 2 8 7 rfl (fun _ _=>R.sliceHi rfl rfl el23 (by omega)) ?_
 refine Ct 3 8 15 rfl (fun _ _=>(R.mv (v:=.slice (some ⟨g,0,none⟩) b.length cap) rfl)) ?_
 refine Ct 4 8 31 rfl (fun _ _=>(R.mv (v:=int j) rfl)) ?_
 obtain ⟨o,c',ho,hso⟩:=R.sliceLo0 (P:=Tryz.prog) (N:=⟨33,[]⟩) (od:=some 25) (ty:=23) (pos:= "") (af:=#[]) (g:=none) (T:=23) (f:=upd (upd (init [.slice (some ⟨g,0,none⟩) b.length cap]) 23 (.slice (some ⟨g,0,none⟩) b.length cap)) 24 (int j)) (x:=.tmp 23) (i:=.tmp 24) (k:=j) rfl rfl el23 hjl hnc
 refine Ct 5 8 63 rfl (fun w _=>hso w) ?_
 have hone:∀ u ∈ (cur0.toList.drop (j*8)).take ((b.length - j)*8),u.oneCell'=true:=fun u hu=>by
  have hc:=hC.one u
  refine hc ?_
  rw [← htk]
  rw [show b.length*Enc.sz GEntry=j*8+(b.length - j)*8 by rw [← Nat.add_mul]; show b.length*8=_; congr 1; omega,List.take_add]
  exact List.mem_append_right _ hu
 have hok:(cur0.toList.drop o).take ((b.length - j)*8)=(cur0.toList.drop (j*8)).take ((b.length - j)*8):=by
  rcases ho with rfl | ⟨h0,rfl⟩
  ·rfl
  rw [h0]; rfl
 have hsz:cur0.size=cap*8:=hcs
 have hll:cur0.toList.length=cap*8:=hcs
 refine Cx [6] ⟨Hs,lr,S.drop _ (List.nil_sublist _)⟩ (all1 ?_)
 refine Nx 8 127 rfl<|W.appO (i:=0) (sz:=8) (k:=b.length - j) S el23 rfl rfl rfl hsz (by omega) (by rcases ho with rfl | ⟨h0,rfl⟩ <;> omega) (by rw [hok]; exact hone) ?_
 intro w1 cur1 hcur1 S
 rw [hok] at hcur1
 refine We ?_
 refine Ct 7 8 255 rfl (fun _ _=>(R.as (v:=.slice (some ⟨g,0,none⟩) (i+(b.length - j)) cap) rfl))<|WC.done ⟨Hs,lr,S.drop _ (List.nil_sublist _)⟩ kr ?_
 have ac:(cur0.toList.take (i*8)++(cur0.toList.drop (j*8)).take ((b.length - j)*8)).length=(i+(b.length - j))*8:=by
  rw [List.length_append,List.length_take,List.length_take,List.length_drop,hll]; omega
 have ae:cur1.size=cap*8:=by
  rw [← Array.length_toList,hcur1,List.length_append,ac,List.length_drop,hll]; omega
 have ah:Cells Hs (cur1.toList.take ((i+(b.length - j))*8)) (b.take i++b.drop j):=by
  rw [hcur1,← ac,List.take_left]
  exact Cells.cutOut htk hC (by omega) hjl
 refine Ws<|Wg<|M<|M<|Nv<|M ?_
 refine WL.w (R.sliceLH rfl rfl rfl el23 (by omega) (by omega))<|W.clearO (α:=GEntry) (i:=0) S el23 (fun z hz=>by rw [zer36] at hz; obtain rfl:=oi hz; rfl) rfl rfl (by show (i+(b.length - j))*8+(b.length - (i+(b.length - j)))*8≤cur1.size; omega) ?_
 intro w2 cur2 ai aj S
 refine We<|Ws<|Wg<|M<|A<|We ?_
 refine WP.ret (OutS.one (L':=[.obj g (.cells cur2 36 (0,0))]) rfl lr S rfl ?_)
 have hlen:(b.take i++b.drop j).length=i+(b.length - j):=by rw [List.length_append,List.length_take,List.length_drop]; omega
 refine ⟨_,rfl,.inr ⟨g,cap,cur2,cur1.toList.take ((i+(b.length - j))*8),by rw [hlen]; rfl,rfl,by rw [hlen]; omega,hcm,by rw [ai]; exact ae,?_,ah⟩⟩
 rw [hlen]; exact aj
theorem zGd {w0 ws:World} {H0 Hs:Hp} {L2:List Ent} (ak:GTable) {a6:Value} {al:Value} (S:St w0 H0 ws Hs (L2)) (cg:Sl Hs a6 ak.fAxes) (b:Sl Hs al ak.fEntries) {r:GTable} (h:zE6 ak=some r) :
  ConS Tryz.prog 44 [(agg [a6,al])] w0 H0 ws Hs L2 (fun H' v L'=>∃ u1 u2:Value,∃ e1:Ent,L'=[e1]∧v=(agg [u1,u2])∧Sl H' u1 r.fAxes∧MR (α:=GEntry) H' e1 36 u2 r.fEntries):=by
 refine ConS.mk (N:=26) Tryz.func44 rfl rfl kr rfl<|Ws<|Wg ?_
 refine W.box [a6,al] S rfl rfl ?_
 intro b1 w2 S
 refine W.alloc [(.slice none 0 0),(.slice none 0 0)] S zer25 ?_
 intro b3 w4 S
 refine We<|Ws<|Wg<|Fb ?_
 refine Lo 1 S<|B h fun r5 ci h=>W.call S rfl (zH4 S.holds ak.fAxes cg ci) ?_
 rintro v6 w7 H8 b4 S bo
 have b:=b.up b4
 refine WL.w (R.build [(0,v6)] [v6,(.slice none 0 0)] bp25 zer25 rfl (by obtain ⟨_,_,rfl,_⟩:=bo; rfl)) ?_
 refine W.alloc [(.slice none 0 0),(.slice none 0 0)] S zer25 ?_
 intro a0 cu S
 refine W.store (i:=0) [v6,(.slice none 0 0)] S rfl rfl rfl lay25 rfl (AllOne.all (l:=[v6,(.slice none 0 0)]) (.cons (Sl.oneC bo) (.cons rfl .nil))) (Nat.le_of_ble_eq_true rfl) rfl ?_
 intro cv S
 refine We<|Ws<|Ws<|Wg<|Fb ?_
 refine Lo 2 S<|Nq b<|M<|We ?_
 obtain ⟨a7,bp⟩:∃ v:Value,v=.slice none 0 0:=⟨_,rfl⟩
 have cj:MR (α:=GEntry) H8 (.row a7 36 8 0) 36 a7 []:=by rw [bp]; exact MR.nil
 replace S:=(show ∀ {w:World},St w0 H0 w H8 (.box a0 25 [v6,(.slice none 0 0)] :: .box b3 25 [(.slice none 0 0),(.slice none 0 0)] :: .box b1 25 [a6,al] :: L2)→St w0 H0 w H8 (.box a0 25 [v6,a7] :: .box b3 25 [(.slice none 0 0),(.slice none 0 0)] :: .box b1 25 [a6,al] :: L2) from fun S=>by rw [bp]; exact S) S
 replace S:=St.addNilV bp S 36 8
 refine B h fun bq ck h=>WP.cut (fun f w=>match bq with | (b5,b6)=>∃ (a8:Hp) (an:Value) (ao:Value) (bj:Ent),f 2=(ptr b3 0)∧f 3=(ptr a0 0)∧Sl a8 an b5∧MR (α:=GEntry) a8 bj 36 ao b6∧Hp.le Hs a8∧St w0 H0 w a8 (bj :: .box a0 25 [an,ao] :: .box b3 25 [(.slice none 0 0),(.slice none 0 0)] :: L2)) ?_ ?_
 ·refine Wb ?_
  refine WP.loopM (zC4 ak) (fun s f w=>match s with | (b7,b8,b9)=>∃ (ap:Hp) (u:Value) (bk:Value) (bn:Ent),f 2=(ptr b3 0)∧f 3=(ptr a0 0)∧f 11=al∧f 12=(int (ak.fEntries.length:Int))∧f 13=(int b7)∧Sl ap al ak.fEntries∧Sl ap u b8∧MR (α:=GEntry) ap bn 36 bk b9∧Hp.le Hs ap∧St w0 H0 w ap (bn :: .box a0 25 [u,bk] :: .box b3 25 [(.slice none 0 0),(.slice none 0 0)] :: L2)) (0,r5,([]:List GEntry)) bq ck ?_ ?_
  ·exact ⟨H8,v6,a7,(.row a7 36 8 0),rfl,rfl,rfl,rfl,rfl,b,bo,cj,b4,(S.pt 4 [0,1,2])⟩
  intro s f w hI cw c cl
  obtain ⟨b7,b8,b9⟩:=s
  obtain ⟨ap,u,bk,bn,a9,aj,ba,bb,a1,b,o,p,bc,S⟩:=hI
  refine Ws<|Wg<|La' a1 bb<|We<|Ws ?_
  rcases condE c with ⟨br,c⟩ | ⟨br,c⟩
  ·refine CT br<|Wk<|Ws<|Wb<|Ws<|Wg<|B c fun d cm c=>W.idx (α:=GEntry) b ba a1 el23 cm ?_
   rintro cx _ cn ⟨bd,be,bf,bg,rfl,x,z,aa,ab⟩
   refine WL.w (R.loadHN (vs:=[bd,be,bf,(str d.fReason),bg,(str d.fBody),(int d.fRequested),(int d.fReceived)]) S rfl cn lay36 rfl rfl) ?_
   refine W.alloc [(.slice none 0 0),(.slice none 0 0),(.slice none 0 0),(str []),(.slice none 0 0),(str []),(int 0),(int 0)] S zer36 ?_
   intro cy cz S
   refine W.store (i:=0) [bd,be,bf,(str d.fReason),bg,(str d.fBody),(int d.fRequested),(int d.fReceived)] S rfl rfl rfl lay36 rfl (AllOne.all (l:=[bd,be,bf,(str d.fReason),bg,(str d.fBody),(int d.fRequested),(int d.fReceived)]) (.cons (Sl.oneC x) (.cons (Sl.oneC z) (.cons (Sl.oneC aa) (.cons rfl (.cons (Sl.oneC ab) (.cons rfl (.cons rfl (.cons rfl .nil))))))))) (Nat.le_of_ble_eq_true rfl) rfl ?_
   intro c0 S
   refine We<|WP.draw kr 8 rfl (bm 8 0) rfl ?_
   have S:=S.drew
   refine At_ 0 8 1 rfl (fun _=>(R.fieldB aj zBV)) ?_
   refine WA.two (i:=1) (j:=2) (bm 8 3) (bm 8 5) rfl rfl kr rfl rfl ?_ ?_
   ·refine Lo 2 S<|We<|WA.one (i:=2) (bm 8 7) rfl kr rfl ?_
    refine WL.w (R.loadBN (i:=0) (vs:=[bd,be,bf,(str d.fReason),bg,(str d.fBody),(int d.fRequested),(int d.fReceived)]) S rfl rfl lay36 rfl rfl)<|We<|WA.one (i:=3) (bm 8 15) rfl kr rfl<|B c fun k bh c=>W.call S rfl (zCL S.holds d x z aa ab bh) ?_
    rintro ca cb cc t S ⟨a2,a3,a4,a5,rfl,ac,ad,ae,af⟩
    have ⟨b,x,z,aa,ab⟩:=U5 t b x z aa ab
    have p:=MR.mono p t
    have o:=o.up t
    refine We<|WA.one (i:=4) (bm 8 31) rfl kr rfl<|W.bslice (α:=GEntry) [(agg [a2,a3,a4,(str k.fReason),a5,(str k.fBody),(int k.fRequested),(int k.fReceived)])] ([k]:List GEntry) S el23 rfl rfl rfl (by decide) (Go.Eng.encS ⟨rfl,_,_,_,_,rfl,ac,ad,ae,af⟩ enc0) ?_
    intro bs bt aq q ar S
    have ⟨b,x,z,aa,ab⟩:=U5 q b x z aa ab
    have p:=MR.mono p q
    have ⟨ac,ad,ae,af,o⟩:=U5 q ac ad ae af o
    refine We<|WA.one (i:=5) (bm 8 63) rfl kr rfl<|B c fun bu au c=>W.appM (α:=GEntry) (i:=2) S el23 rfl rfl rfl p ar au ?_
    intro ah av bv ai S
    refine We ?_
    refine At_ 6 8 127 rfl (fun _=>(R.fieldB aj zBV))<|WA.one (i:=7) (bm 8 255) rfl kr rfl ?_
    refine W.storeMR (α:=GEntry) (i:=3) [u,ah] S ai rfl rfl rfl lay23 (Nat.le_of_ble_eq_true rfl) rfl ?_
    intro bw S
    refine We<|WA.done kr<|Wg<|Lg' a1 rfl<|M<|We ?_
    obtain rfl:=oi c
    exact ⟨rfl,⟨aq,u,ah,(av),a9,aj,ba,bb,rfl,b,o,ai,((bc.trans t).trans q),(S.pt 5 [2,3,4])⟩⟩
   refine WL.w (R.loadBN (i:=0) (vs:=[bd,be,bf,(str d.fReason),bg,(str d.fBody),(int d.fRequested),(int d.fReceived)]) S rfl rfl lay36 rfl rfl)<|We ?_
   refine WA.two (i:=1) (j:=3) (bm 8 7) (bm 8 13) rfl rfl kr rfl rfl ?_ ?_
   ·refine Lo 2 S<|We<|WA.one (i:=3) (bm 8 15) rfl kr rfl<|B c fun k bh c=>W.call S rfl (zCL S.holds d x z aa ab bh) ?_
    rintro ca cb cc t S ⟨a2,a3,a4,a5,rfl,ac,ad,ae,af⟩
    have ⟨b,x,z,aa,ab⟩:=U5 t b x z aa ab
    have p:=MR.mono p t
    have o:=o.up t
    refine We<|WA.one (i:=4) (bm 8 31) rfl kr rfl<|W.bslice (α:=GEntry) [(agg [a2,a3,a4,(str k.fReason),a5,(str k.fBody),(int k.fRequested),(int k.fReceived)])] ([k]:List GEntry) S el23 rfl rfl rfl (by decide) (Go.Eng.encS ⟨rfl,_,_,_,_,rfl,ac,ad,ae,af⟩ enc0) ?_
    intro bs bt aq q ar S
    have ⟨b,x,z,aa,ab⟩:=U5 q b x z aa ab
    have p:=MR.mono p q
    have ⟨ac,ad,ae,af,o⟩:=U5 q ac ad ae af o
    refine We<|WA.one (i:=5) (bm 8 63) rfl kr rfl<|B c fun bu au c=>W.appM (α:=GEntry) (i:=2) S el23 rfl rfl rfl p ar au ?_
    intro ah av bv ai S
    refine We ?_
    refine At_ 6 8 127 rfl (fun _=>(R.fieldB aj zBV))<|WA.one (i:=7) (bm 8 255) rfl kr rfl ?_
    refine W.storeMR (α:=GEntry) (i:=3) [u,ah] S ai rfl rfl rfl lay23 (Nat.le_of_ble_eq_true rfl) rfl ?_
    intro bw S
    refine We<|WA.done kr<|Wg<|Lg' a1 rfl<|M<|We ?_
    obtain rfl:=oi c
    exact ⟨rfl,⟨aq,u,ah,(av),a9,aj,ba,bb,rfl,b,o,ai,((bc.trans t).trans q),(S.pt 5 [2,3,4])⟩⟩
   refine B c fun k bh c=>W.call S rfl (zCL S.holds d x z aa ab bh) ?_
   rintro ca cb cc t S ⟨a2,a3,a4,a5,rfl,ac,ad,ae,af⟩
   have ⟨b,o⟩:=U2 t b o
   have p:=MR.mono p t
   refine We ?_
   refine WA.two (i:=1) (j:=4) (bm 8 15) (bm 8 29) rfl rfl kr rfl rfl ?_ ?_
   ·refine Lo 2 S<|We<|WA.one (i:=4) (bm 8 31) rfl kr rfl<|W.bslice (α:=GEntry) [(agg [a2,a3,a4,(str k.fReason),a5,(str k.fBody),(int k.fRequested),(int k.fReceived)])] ([k]:List GEntry) S el23 rfl rfl rfl (by decide) (Go.Eng.encS ⟨rfl,_,_,_,_,rfl,ac,ad,ae,af⟩ enc0) ?_
    intro bs bt aq q ar S
    have ⟨b,ac,ad,ae,af⟩:=U5 q b ac ad ae af
    have p:=MR.mono p q
    have o:=o.up q
    refine We<|WA.one (i:=5) (bm 8 63) rfl kr rfl<|B c fun bu au c=>W.appM (α:=GEntry) (i:=2) S el23 rfl rfl rfl p ar au ?_
    intro ah av bv ai S
    refine We ?_
    refine At_ 6 8 127 rfl (fun _=>(R.fieldB aj zBV))<|WA.one (i:=7) (bm 8 255) rfl kr rfl ?_
    refine W.storeMR (α:=GEntry) (i:=3) [u,ah] S ai rfl rfl rfl lay23 (Nat.le_of_ble_eq_true rfl) rfl ?_
    intro bw S
    refine We<|WA.done kr<|Wg<|Lg' a1 rfl<|M<|We ?_
    obtain rfl:=oi c
    exact ⟨rfl,⟨aq,u,ah,(av),a9,aj,ba,bb,rfl,b,o,ai,((bc.trans t).trans q),(S.pt 5 [2,3,4])⟩⟩
   refine W.bslice (α:=GEntry) [(agg [a2,a3,a4,(str k.fReason),a5,(str k.fBody),(int k.fRequested),(int k.fReceived)])] ([k]:List GEntry) S el23 rfl rfl rfl (by decide) (Go.Eng.encS ⟨rfl,_,_,_,_,rfl,ac,ad,ae,af⟩ enc0) ?_
   intro bs bt aq q ar S
   have ⟨b,o⟩:=U2 q b o
   have p:=MR.mono p q
   refine We<|WA.one (i:=1) (bm 8 31) rfl kr rfl ?_
   refine Lo 3 S<|We<|WA.one (i:=5) (bm 8 63) rfl kr rfl<|B c fun bu au c=>W.appM (α:=GEntry) (i:=2) S el23 rfl rfl rfl p ar au ?_
   intro ah av bv ai S
   refine We ?_
   refine At_ 6 8 127 rfl (fun _=>(R.fieldB aj zBV))<|WA.one (i:=7) (bm 8 255) rfl kr rfl ?_
   refine W.storeMR (α:=GEntry) (i:=3) [u,ah] S ai rfl rfl rfl lay23 (Nat.le_of_ble_eq_true rfl) rfl ?_
   intro bw S
   refine We<|WA.done kr<|Wg<|Lg' a1 rfl<|M<|We ?_
   obtain rfl:=oi c
   exact ⟨rfl,⟨aq,u,ah,(av),a9,aj,ba,bb,rfl,b,o,ai,((bc.trans t).trans q),(S.pt 5 [2,3,4])⟩⟩
  refine CF br<|Wx ?_
  obtain rfl:=oi c
  obtain rfl:=cl
  exact ⟨ap,u,bk,(bn),a9,aj,o,p,bc,S⟩
 intro f w hM
 obtain ⟨b5,b6⟩:=bq
 obtain ⟨a8,an,ao,bj,cd,co,ce,cf,cp,S⟩:=hM
 refine Ws<|Wg ?_
 refine WL.w (R.loadBN (i:=1) (vs:=[an,ao]) S co rfl lay25 rfl rfl) ?_
 refine W.store (i:=2) [an,ao] S cd rfl rfl lay25 rfl (AllOne.all (l:=[an,ao]) (.cons (Sl.oneC ce) (.cons (MR.oneC cf) .nil))) (Nat.le_of_ble_eq_true rfl) rfl ?_
 intro c1 S
 refine We ?_
 obtain rfl:=oi h
 refine WP.ret (OutS.one (L':=[bj]) rfl cp (S.pt 3 [0]) (Res.cellB (i:=2) (cs:=[an,ao]) S cd rfl lay25 rfl rfl) ?_)
 exact ⟨_,_,_,rfl,rfl,ce,cf⟩
theorem zDV {o:World} {j:Hp} (hw:Holds o j) (ac:GTable) (t:Int) {p:Value} {q:Value} (aw:Sl j p ac.fAxes) (ax:Sl j q ac.fEntries) {r:GTable} (h:zFO ac t=some r) :
  Con Tryz.prog 23 [(agg [p,q]),(int t)] o j (fun H' v=>∃ u1 u2:Value,v=(agg [u1,u2])∧Sl H' u1 r.fAxes∧Sl H' u2 r.fEntries):=by
 refine CM 25 Tryz.func23 hw fun S=>?_
 refine Ws<|Wg ?_
 refine W.box [p,q] S rfl rfl ?_
 intro b1 w2 S
 refine W.alloc [(.slice none 0 0),(.slice none 0 0)] S zer25 ?_
 intro u w4 S
 refine We<|Ws<|Wg ?_
 refine WL.w (R.loadBN (i:=1) (vs:=[p,q]) S rfl rfl lay25 rfl rfl)<|B h fun r5 ay h=>W.callS rfl (zGd ac S aw ax ay) ?_
 rintro v6 w7 H8 bc bd S ⟨c,z,ai,rfl,rfl,d,aa⟩
 replace S:St o j _ H8 [ai,.box u 25 [(.slice none 0 0),(.slice none 0 0)],.box b1 25 [p,q]]:=S
 refine W.alloc [(.slice none 0 0),(.slice none 0 0)] S zer25 ?_
 intro ab be S
 refine W.store (i:=0) [c,z] S rfl rfl rfl lay25 rfl (AllOne.all (l:=[c,z]) (.cons (Sl.oneC d) (.cons (MR.oneC aa) .nil))) (Nat.le_of_ble_eq_true rfl) rfl ?_
 intro bf S
 refine We<|Ws<|Ws<|Wg<|M<|Ld<|M ?_
 refine WL.grp 6 [11,12,13,14,15] 16 (boo ((decide (0≤t))&&(decide (t<(r5.fEntries.length:Int))))) ?_ ?_
 ·rcases boolE (decide (0≤t)) with b | b
  ·refine Gy b<|M<|Gy b<|Fb<|Gy b ?_
   refine Lo 0 S<|Gy b ?_
   obtain ⟨az,a0,a1,S⟩:=S.settleM (i:=1) rfl aa
   replace S:St o j _ az [.box ab 25 [c,z],.box u 25 [(.slice none 0 0),(.slice none 0 0)],.box b1 25 [p,q]]:=S
   have d:=d.up a0
   refine Nq a1<|Gy b<|La<|Pt b ?_
   exact We ⟨(andT b),ag,rfl⟩
  refine Gn b<|Gn b<|Gn b<|Gn b<|Gn b<|Pf b ?_
  exact We ⟨(andF b),ag,rfl⟩
 intro us
 refine We<|B h fun a2 x h=>WP.cut (fun f w=>∃ (ae:Hp) (k:Value) (aj:Ent),f 4=(ptr u 0)∧f 5=(ptr ab 0)∧Sl ae c r5.fAxes∧MR (α:=GEntry) ae aj 36 k a2∧St o j w ae [.box ab 25 [c,k],aj,.box u 25 [(.slice none 0 0),(.slice none 0 0)]]) ?_ ?_
 ·rcases condE x with ⟨ak,x⟩ | ⟨ak,x⟩
  ·refine CT ak<|Wg<|Fb ?_
   refine Lo 0 S<|M<|M<|Lg<|B x fun bg a3 x=>?_
   have S:=S.front 1 rfl
   replace S:St o j _ H8 (ai :: [.box ab 25 [c,z],.box u 25 [(.slice none 0 0),(.slice none 0 0)],.box b1 25 [p,q]]):=S
   refine W.callS rfl (zCw r5.fEntries t (wr (t+1)) S aa a3) ?_
   rintro an bh ao bi ap S ⟨aq,rfl,ar⟩
   replace S:St o j _ ao [aq,.box ab 25 [c,z],.box u 25 [(.slice none 0 0),(.slice none 0 0)],.box b1 25 [p,q]]:=S
   have d:=d.up ap
   have aa:=MR.mono aa ap
   refine Fb ?_
   refine W.storeMR (α:=GEntry) (i:=1) [c,an] S ar rfl rfl rfl lay23 (Nat.le_of_ble_eq_true rfl) rfl ?_
   intro bj S
   refine We ?_
   obtain rfl:=oi x
   exact ⟨ao,an,(aq),rfl,rfl,d,ar,(S.pk [1,0,2])⟩
  refine CF ak<|Wk ?_
  obtain rfl:=oi x
  exact ⟨H8,z,(ai),rfl,rfl,d,aa,(S.pk [0,1,2])⟩
 rintro f w ⟨ae,k,aj,au,a4,d,av,S⟩
 refine Ws<|Wg ?_
 refine WL.w (R.loadBN (i:=0) (vs:=[c,k]) S a4 rfl lay25 rfl rfl) ?_
 refine W.store (i:=2) [c,k] S au rfl rfl lay25 rfl (AllOne.all (l:=[c,k]) (.cons (Sl.oneC d) (.cons (MR.oneC av) .nil))) (Nat.le_of_ble_eq_true rfl) rfl ?_
 intro bk S
 refine We ?_
 obtain ⟨a5,a6,a7,S⟩:=S.settleM (i:=1) rfl av
 replace S:St o j _ a5 [.box ab 25 [c,k],.box u 25 [c,k]]:=S
 have d:=d.up a6
 obtain rfl:=oi h
 refine WP.ret (Out.one rfl S (Res.cellB (i:=1) (cs:=[c,k]) S au rfl lay25 rfl rfl) ?_)
 exact ⟨_,_,rfl,d,a7⟩
end Go.Proofs
