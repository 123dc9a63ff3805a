/- Lemmas. -/
import Derived.Test.YtbinmcabjnoliaaGreatDoorMbg
import Derived.Test.YtbinmcabjnoliaaGreatDoorMar
namespace Go.Proofs.YtbinmcabjnoliaaGreatDoor
open Go.RowKit
set_option linter.unusedVariables false
set_option linter.unusedSimpArgs false
set_option maxHeartbeats 16000000
open _root_.Go.Proofs.Tryz
set_option maxRecDepth 20000
theorem QAk{p:Prop}(h:p:=by
 clear HND HT HGG;go_wp2;rw[<-HWW.o,<-HBB.o];go_region_held3 (fun w'=>w'.cell? ⟨bn,0,none⟩=some (.int .i64 n.op)/\w'.cell? ⟨bn,1,none⟩=some (.int .i64 n.val.1)/\w'.cell? ⟨bn,2,none⟩=some (.int .i64 n.val.2.1)/\w'.cell? ⟨bn,3,none⟩=some (.string n.val.2.2)/\w'.cell? ⟨bn,4,none⟩=some (.int .i64 n.aDg.cat)/\w'.cell? ⟨bn,5,none⟩=some (.string n.aDg.name)/\w'.cell? ⟨bn,6,none⟩=some (.bool n.aDg.aDq))
  (first|assumption |exact HBK.o _ (aE HN9.o (aB _ _)))
  ((first
    |(go_at_call 272;refine(HND2.o _ (Below.refl _ _).drew).mono ?_;rintro e w9 ⟨va9,vc9,rfl,hit,hb9⟩;have HN9:=aA (aE (show W.drew.heap[bn]? =_ from HBN.o) hb9);have hS9:=HBK.o _ HN9.o;have HB9:=aA (aC (Below.refl W.heap.size W).drew hb9);have HI9:=aA hit;clear hit hb9)
    |(refine iX (base:=w1.heap.size) Yn iI rfl (.tmp 33) (.tmp 40) rfl _ (st.take q) rfl (HCUT.o _ (aC HB9.o (aB _ _))) w9.heap.size 1 _ _ _ nv rfl (aK w9 _ _ rfl) ⟨_,rfl,HY.o _ _ _ HI9.o⟩ (by rw[HLQ.o];have:=HST.o;have:=HM.o;omega) qe (lT HSZ.o (lT HB9.o.size (by rw[World.size_alloc];exact Nat.le_succ _))) ?_;intro l' hl' A' c2 w10 hG hgr hat';have HG10:=aA hG;have HB10:=aA ((HCUT.o _ (aC HB9.o (aB w9 (.cells #[.slice va9 nv.bag.length vc9,.int .i64 nv.val.1,.int .i64 nv.val.2.1,.string nv.val.2.2,.int .i64 nv.err] 352)))).below (aC HBW.o (aC HB9.o (aB w9 _))) hgr (lR _) (lT HSZ.o (lT HB9.o.size (by rw[World.size_alloc];exact Nat.le_succ _))));have HL10:=aA hl'.o;have hS10:=HBK.o w10 ((hgr.block bn (lL (aD HN9.o) (by rw[World.size_alloc];exact Nat.le_succ _)) HNG.o).trans (aE HN9.o (aB _ _)));clear hG hgr hat' hl')))
 have e10:l'.length=q+1:=by rw[HL10.o,aL,HLQ.o];rfl
 rw[e10] at HG10 ⊢;go_wp2;go_roundw
 case rel=>exact⟨k+1,q+1,A',c2,l',qo,e10.symm,qo,by go_num,rfl,aA (by rw[HL10.o];exact HR3.o),aA (by rw[HL10.o];exact HS3.o nv),HG10,HB10⟩
 case measure=>simp[intOf];omega):p:=h
theorem aM.tail{α:Type}{R:Rep α}{s:Nat}{e:TypeId}{w:World}{base:Nat}{ok:nP}(F:Firm R s){g n c:Nat}{l:List α}(h:aM R s e w base ok (.slice (some ⟨g,0,none⟩) n c) l)(y:l.length<=1000000)(m:Nat)(hm:m<=l.length)(k:Nat):aH R w (fun _=>True) (.slice (some ⟨g,m * s,none⟩) (l.length - m) k) (l.drop m):=by
 obtain⟨cs,h1,h2⟩:=h;obtain⟨a,c2,d,_,h3,_⟩:=lM h1;injection d with d _ _;subst d;refine⟨_,k,cs.drop (m * s),by rw[List.length_drop],?_,((h2.split (fun _ _ j=>F.len j) m hm).2).mono (fun r x j=>F.more j fun _ _=>trivial),by rw[List.length_drop];omega⟩;intro v;obtain⟨b,off,f,z,t⟩:=h3 (by rintro rfl;simp at v);injection f with f;injection f with p q _;subst p q;refine⟨g,m * s,rfl,trivial,fun i x o=> ?_⟩;rw[List.getElem?_drop] at o;have:=t _ _ o;rwa [Nat.zero_add] at this
theorem Yn:dV prog 370 352 5 64:=fQ (z:= .agg #[.slice none 0 0,.int .i64 0,.int .i64 0,.string ByteArray.empty,.int .i64 0]) underlying370 (by kernel_rfl) rfl qe
def aAg:List It->V3×Int
 |x::_=>(x.val,x.err)
 | []=>(bD,1)
def Ai(r:V3×Int)(w:World)(e:Ending)(w':World):Prop:=e=.returned (.tuple #[dD r.1,.int .i64 r.2])/\cS r.1/\Below w.heap.size w w'
theorem Eh{ok ok':nP}(vl:Value)(l:List No)(vg:Value)(g:List Gv)(w:World)(N:aH JN w ok' vl l)(h:aH jM w ok vg g):Calls prog 251 #[vl,vg] w (Ai (nT g l) w):=by
 obtain⟨E,gc,rfl,_⟩:=h.slice;obtain⟨la,lc,rfl,be⟩:=N.slice;obtain⟨HG,HL,P,s⟩:=dG h N (aB w (.cells fV 55)) (aK w (.cells fV 55) _ rfl);have y:=aA (GM _ l _ (N.on dP P.o));unfold aO at y;clear h N;by_cases t:l=[]
 .subst t;have C:Hid (nT g []=(bD,1)):=aA (iP (.inl rfl));clear y;go_enter func251,ntmps251;go_wp2;refine bR (.tuple #[.agg #[.int .i64 0,.int .i64 0,.string ⟨#[]⟩],.int .i64 1]) ?_;rw[C.o];exact⟨rfl,jZ,aB _ _⟩
 have hz:((l.length:Int)==0)=false:=bN.2 (fun h=>t (List.eq_nil_of_length_eq_zero qo));by_cases he:lB l=0
 case neg=>
  have C:Hid (nT g l=(bD,1)):=aA (iP (.inr he));have d:(lB l != 0)=true:=bne_iff_ne.2 he;generalize lB l=e0 at *;clear t he;go_enter func251,ntmps251;go_wp2_with fail;refine y.o.mono ?_;rintro e w1 ⟨rfl,z⟩;have B:=qB P z;replace s:=qK s z;obtain⟨⟨ab,ad,ae⟩,_⟩:=cE s.o;have aq:=aD s.o;clear z y;go_wp2;refine bR (.tuple #[.agg #[.int .i64 0,.int .i64 0,.string ⟨#[]⟩],.int .i64 1]) ?_;rw[C.o];exact⟨rfl,jZ,((B.o.setCell (lR _) _).setCell (lR _) _).setCell (lR _) _⟩
 obtain⟨R,M⟩:=xE (zG g l []);have C:Hid (nT g l=aAg R):=aA (by unfold nT;rw[iN (fun h=>h.elim t (fun h=>h he)),M];rfl);have ah:Hid (zG g (l.drop 0) []=R):=aA (by rw[List.drop_zero];exact M.symm);obtain⟨H,an⟩:=Pr he t;have HST:Hid (tD (l.drop 0) []):=aA (by rw[List.drop_zero];exact H);have ag:Hid (R.length=1):=aA (by
  obtain⟨aa,made,h1,h2⟩:=H;have ht:aa=[]:=List.eq_nil_of_length_eq_zero h1;have:=an aa made h2 ht;rw[M,LB l aa made h2 g [] h1.symm,this];rfl)
 rw[he] at y;clear he t M H an;go_enter func251,ntmps251;go_wp2_with fail;refine y.o.mono ?_;rintro e w1 ⟨rfl,z⟩;have B:=qB P z;replace s:=qK s z;obtain⟨⟨ab,ad,ae⟩,_⟩:=cE s.o;have aq:=aD s.o;clear z y ab ad ae aq;go_wp2;go_loopw [6,21] (fun v i wr=>∃(k m:Nat) (L:oD) (j:Nat) (st:List It),k<=l.length/\m=st.length/\m<=k/\i=.int .i64 k/\v=.slice L m j/\Hid (zG g (l.drop k) st=R)/\Hid (tD (l.drop k) st)/\Hid (aM sK 5 352 wr w1.heap.size (fun _=>True) (.slice L m j) st)/\Hid (Below w1.heap.size w1 wr)) (fun _ i _=>l.length - (intOf i).toNat)
 case atStart=>exact⟨0,0,none,0,[],qo,rfl,qo,rfl,rfl,ah,HST,aA aM.nil,aA (Below.refl _ _)⟩
 case round=>
  clear ah HST;obtain⟨k,m,L,j,st,hk,hm,bf,rfl,rfl,K,T,A,I⟩:=hrel;by_cases V:k<l.length
  .have ay:(k:Int)<(l.length:Int):=qo;obtain⟨b,off,r,rfl,_,av,⟨rfl,ak⟩,hc⟩:=aH.at dP (HL.o.on dP (aC B.o I.o)) V qe;obtain⟨O,x1,x2,x3,x4,x5,x6⟩:=CH hc;rw[Nat.add_zero] at O;obtain⟨h1,h2,h3⟩:=LA (Ps V T.o);have Z:=RH V K.o;have au:=aA ak;clear hc K T ak;rw[<-hm] at h1 h2 h3 Z;have S:=aA (fun w=>Js l[k].op w);have HND:=aA (fun (a7:nP) v9 (w9:World) (a6:aH sK w9 a7 v9 (st.drop (m - jI l[k].op))) (ax:aH jM w9 ok (.slice E g.length gc) g)=>Pq l[k] au.o v9 _ _ g w9 a6 ax h2);have HS3:=aA h3;have HR3:=aA Z;clear h2 h3 Z;generalize t:l[k]=n at *;clear t;obtain⟨q,X⟩:=xE (m - jI n.op);rw[<-X] at HND HS3 HR3;have bg:q<=m:=qo;obtain⟨D,aj⟩:∃D,jI n.op=D:=⟨_,rfl⟩;rw[aj] at S X h1;have ew:IntKind.i64.wrap ((m:Int) - (D:Int))=(q:Int):=by rw[IntWalk.i64_in _ qo];omega
   have ai:wrap64 ((m:Int) - (D:Int))=(q:Int):=by rw[IntWalk.wrap64_in _ qo];omega
   have HM:=aA hm;clear aj hm X;obtain⟨nv,ao⟩:∃nv,iO g n (st.drop q)=nv:=⟨_,rfl⟩;rw[ao] at HND HR3;unfold pD jJ at HND;clear ao;go_wp2_with fail;refine(S.o _).mono ?_;rintro e w2 ⟨rfl,rfl⟩;obtain⟨a1,bd,bb⟩:=A.o.place;have q0:(0:Int)<=(q:Int):=qo;have q1:(q:Int)<=(m:Int):=qo;have q2:(q:Int)<=(j:Int):=qA HM.o;obtain⟨W,F⟩:=xE (wr.alloc (.cells (iR n) 294));obtain⟨bn,U⟩:=xE wr.heap.size;have HBW:=aA (F▸aC I.o (aB wr _):Below w1.heap.size w1 W);have HBN:=aA (F▸U▸aK wr (.cells (iR n) 294) _ rfl:W.heap[bn]? =some (.cells (iR n) 294 (0,0)));have J:=aA (F▸A.o.on iI (aB wr _):aM sK 5 352 W w1.heap.size (fun _=>True) (.slice L m j) st);have HWW:=aA F;have HBB:=aA U;have HGG:Hid (∀w',Below W.heap.size W w'->aH jM w' ok (.slice E g.length gc) g):=aA (fun w' a=>(HG.o.on bZ (aC B.o (aC HBW.o a))));have HSZ:=aA HBW.o.size;have HBK:Hid (∀w':World,w'.heap[bn]? =some (.cells (iR n) 294 (0,0))->(w'.cell? ⟨bn,0,none⟩=some (.int .i64 n.op)/\w'.cell? ⟨bn,1,none⟩=some (.int .i64 n.val.1)/\w'.cell? ⟨bn,2,none⟩=some (.int .i64 n.val.2.1)/\w'.cell? ⟨bn,3,none⟩=some (.string n.val.2.2)/\w'.cell? ⟨bn,4,none⟩=some (.int .i64 n.aDg.cat)/\w'.cell? ⟨bn,5,none⟩=some (.string n.aDg.name)/\w'.cell? ⟨bn,6,none⟩=some (.bool n.aDg.aDq))):=aA (fun w' h=>by
    obtain⟨⟨h0,h1,h2,h3,h4,h5,h6⟩,_⟩:=bJ h;exact⟨h0,h1,h2,h3,h4,h5,h6⟩)
   have a8:=HBK.o W.drew HBN.o;have HST:=aA (show st.length<=1000000 by have:=HM.o;omega);have HLQ:Hid ((st.take q).length=q):=aA (by rw[List.length_take];have:=HM.o;omega);clear F U S O x1 x2 x3 x4 x5 x6
   rcases a1 with ⟨rfl,rfl⟩|⟨gs,rfl⟩
   .obtain rfl:st=[]:=List.eq_nil_of_length_eq_zero qo;have az:m=0:=HM.o;subst az;obtain rfl:q=0:=qo;obtain rfl:D=0:=qo;replace ew:IntKind.i64.wrap ((0:Int) - 0)=0:=ew;replace ai:wrap64 ((0:Int) - 0)=0:=ai;have HCUT:Hid (∀w',Below W.heap.size W w'->aM sK 5 352 w' w1.heap.size (fun _=>True) (.slice none 0 0) (([]:List It).take 0)):=aA (fun w' a=>aM.nil);have HT:Hid (∀w',Below W.heap.size W w'->aH sK w' (fun _=>True) (.slice none 0 0) (([]:List It).drop 0)):=aA (fun w' a=>aH.nil);have HND2:Hid (∀w',Below W.heap.size W w'->Calls prog 272 #[.agg #[.int .i64 n.op,.int .i64 n.val.1,.int .i64 n.val.2.1,.string n.val.2.2,.int .i64 n.aDg.cat,.string n.aDg.name,.bool n.aDg.aDq],.slice none 0 0,.slice E g.length gc] w' (fun e p=>∃f vc,e=.returned (.agg #[.slice f nv.bag.length vc,.int .i64 nv.val.1,.int .i64 nv.val.2.1,.string nv.val.2.2,.int .i64 nv.err])/\BQ p (fun b=>W.heap.size<=b) nv (.slice f nv.bag.length vc)/\Below w'.heap.size w' p)):=aA (fun w' a=>(HND.o _ _ w' (HT.o w' a) (HGG.o w' a)).mono (fun e p ⟨vb,he,h1,h2⟩=>by
     obtain⟨f,vc,rfl,_⟩:=h1.1.slice;exact⟨f,vc,he,⟨h1.1.more bH (fun b G=>lT a.size G),h1.2⟩,h2⟩))
    have HNG:Hid (some bn≠(Value.slice none 0 0).ownBlock):=aA (fun e=>by
     have c:some bn=none:=e
     cases c)
    have HY:Hid (∀w9 vb o,BQ w9 (fun b=>W.heap.size<=b) nv vb->BQ (w9.alloc o) (fun b=>True/\b<(w9.alloc o).heap.size/\some b≠(Value.slice none 0 0).ownBlock) nv vb):=aA (fun w9 vb o h=>⟨((h.1.inb bH).on bH (aB w9 o)).more bH (fun b a=>⟨trivial,by rw[World.size_alloc];have:=a.2;omega,fun e=>by
     have c:some b=none:=e
     cases c⟩),h.2⟩)
    clear HND HT HGG;go_wp2;rw[<-HWW.o,<-HBB.o];go_region_held3 (fun w'=>w'.cell? ⟨bn,0,none⟩=some (.int .i64 n.op)/\w'.cell? ⟨bn,1,none⟩=some (.int .i64 n.val.1)/\w'.cell? ⟨bn,2,none⟩=some (.int .i64 n.val.2.1)/\w'.cell? ⟨bn,3,none⟩=some (.string n.val.2.2)/\w'.cell? ⟨bn,4,none⟩=some (.int .i64 n.aDg.cat)/\w'.cell? ⟨bn,5,none⟩=some (.string n.aDg.name)/\w'.cell? ⟨bn,6,none⟩=some (.bool n.aDg.aDq))
     (first|assumption |exact HBK.o _ (aE HN9.o (aB _ _)))
     ((first
       |(go_at_call 272;refine(HND2.o _ (Below.refl _ _).drew).mono ?_;rintro e w9 ⟨va9,vc9,rfl,hit,hb9⟩;have HN9:=aA (aE (show W.drew.heap[bn]? =_ from HBN.o) hb9);have hS9:=HBK.o _ HN9.o;have HB9:=aA (aC (Below.refl W.heap.size W).drew hb9);have HI9:=aA hit;clear hit hb9)
       |(refine iX (base:=w1.heap.size) Yn iI rfl (.tmp 33) (.tmp 40) rfl _ (([]:List It).take 0) rfl (HCUT.o _ (aC HB9.o (aB _ _))) w9.heap.size 1 _ _ _ nv rfl (aK w9 _ _ rfl) ⟨_,rfl,HY.o _ _ _ HI9.o⟩ (by rw[HLQ.o];have:=HST.o;have:=HM.o;omega) qe (lT HSZ.o (lT HB9.o.size (by rw[World.size_alloc];exact Nat.le_succ _))) ?_;intro l' hl' A' c2 w10 hG hgr hat';have HG10:=aA hG;have HB10:=aA ((HCUT.o _ (aC HB9.o (aB w9 (.cells #[.slice va9 nv.bag.length vc9,.int .i64 nv.val.1,.int .i64 nv.val.2.1,.string nv.val.2.2,.int .i64 nv.err] 352)))).below (aC HBW.o (aC HB9.o (aB w9 _))) hgr (lR _) (lT HSZ.o (lT HB9.o.size (by rw[World.size_alloc];exact Nat.le_succ _))));have HL10:=aA hl'.o;have hS10:=HBK.o w10 ((hgr.block bn (lL (aD HN9.o) (by rw[World.size_alloc];exact Nat.le_succ _)) HNG.o).trans (aE HN9.o (aB _ _)));clear hG hgr hat' hl')))
    have e10:l'.length=0+1:=by rw[HL10.o,aL,HLQ.o];rfl
    rw[e10] at HG10 ⊢;go_wp2;go_roundw
    case rel=>exact⟨k+1,0+1,A',c2,l',qo,e10.symm,qo,by go_num,rfl,aA (by rw[HL10.o];exact HR3.o),aA (by rw[HL10.o];exact HS3.o nv),HG10,HB10⟩
    case measure=>simp[intOf];omega
   .have HCUT:Hid (∀w',Below W.heap.size W w'->aM sK 5 352 w' w1.heap.size (fun _=>True) (.slice (some ⟨gs,0,none⟩) q j) (st.take q)):=aA (fun w' a=>(J.o.cut iI q (qA HM.o)).on iI a);by_cases aw:j=q
    .obtain rfl:q=j:=aw.symm;obtain rfl:q=m:=qA HM.o;have HT:Hid (∀w',Below W.heap.size W w'->aH sK w' (fun _=>True) (.slice (some ⟨gs,0,none⟩) 0 0) (st.drop q)):=aA (fun w' a=>by rw[List.drop_of_length_le (qA HM.o)];exact aH.nil);have HND2:Hid (∀w',Below W.heap.size W w'->Calls prog 272 #[.agg #[.int .i64 n.op,.int .i64 n.val.1,.int .i64 n.val.2.1,.string n.val.2.2,.int .i64 n.aDg.cat,.string n.aDg.name,.bool n.aDg.aDq],.slice (some ⟨gs,0,none⟩) 0 0,.slice E g.length gc] w' (fun e p=>∃f vc,e=.returned (.agg #[.slice f nv.bag.length vc,.int .i64 nv.val.1,.int .i64 nv.val.2.1,.string nv.val.2.2,.int .i64 nv.err])/\BQ p (fun b=>W.heap.size<=b) nv (.slice f nv.bag.length vc)/\Below w'.heap.size w' p)):=aA (fun w' a=>(HND.o _ _ w' (HT.o w' a) (HGG.o w' a)).mono (fun e p ⟨vb,he,h1,h2⟩=>by
      obtain⟨f,vc,rfl,_⟩:=h1.1.slice;exact⟨f,vc,he,⟨h1.1.more bH (fun b G=>lT a.size G),h1.2⟩,h2⟩))
     have Q:=aA (J.o.lt gs rfl);have HNG:Hid (some bn≠(Value.slice (some ⟨gs,0,none⟩) q q).ownBlock):=aA (fun e=>by
      have c:some bn=some gs:=e;injection c with c;have h1:=(A.o.lt gs rfl).2;have h2:=HBB.o;omega)
     have HY:Hid (∀w9 vb o,BQ w9 (fun b=>W.heap.size<=b) nv vb->BQ (w9.alloc o) (fun b=>True/\b<(w9.alloc o).heap.size/\some b≠(Value.slice (some ⟨gs,0,none⟩) q q).ownBlock) nv vb):=aA (fun w9 vb o h=>⟨((h.1.inb bH).on bH (aB w9 o)).more bH (fun b a=>⟨trivial,by rw[World.size_alloc];have:=a.2;omega,fun e=>by
      have c:some b=some gs:=e;injection c with c;have:=a.1;have:=Q.o.2;omega⟩),h.2⟩)
     exact QAk
    .have HT:Hid (∀w',Below W.heap.size W w'->aH sK w' (fun _=>True) (.slice (some ⟨gs,q * 5,none⟩) (m - q) (j - q)) (st.drop q)):=aA (fun w' a=>by have:=(J.o.on iI a).tail iI HST.o q (qA HM.o) (j - q);rwa [<-HM.o] at this);have HND2:Hid (∀w',Below W.heap.size W w'->Calls prog 272 #[.agg #[.int .i64 n.op,.int .i64 n.val.1,.int .i64 n.val.2.1,.string n.val.2.2,.int .i64 n.aDg.cat,.string n.aDg.name,.bool n.aDg.aDq],.slice (some ⟨gs,q * 5,none⟩) (m - q) (j - q),.slice E g.length gc] w' (fun e p=>∃f vc,e=.returned (.agg #[.slice f nv.bag.length vc,.int .i64 nv.val.1,.int .i64 nv.val.2.1,.string nv.val.2.2,.int .i64 nv.err])/\BQ p (fun b=>W.heap.size<=b) nv (.slice f nv.bag.length vc)/\Below w'.heap.size w' p)):=aA (fun w' a=>(HND.o _ _ w' (HT.o w' a) (HGG.o w' a)).mono (fun e p ⟨vb,he,h1,h2⟩=>by
      obtain⟨f,vc,rfl,_⟩:=h1.1.slice;exact⟨f,vc,he,⟨h1.1.more bH (fun b G=>lT a.size G),h1.2⟩,h2⟩))
     have Q:=aA (J.o.lt gs rfl);have HNG:Hid (some bn≠(Value.slice (some ⟨gs,0,none⟩) q j).ownBlock):=aA (fun e=>by
      have c:some bn=some gs:=e;injection c with c;have h1:=(A.o.lt gs rfl).2;have h2:=HBB.o;omega)
     have HY:Hid (∀w9 vb o,BQ w9 (fun b=>W.heap.size<=b) nv vb->BQ (w9.alloc o) (fun b=>True/\b<(w9.alloc o).heap.size/\some b≠(Value.slice (some ⟨gs,0,none⟩) q j).ownBlock) nv vb):=aA (fun w9 vb o h=>⟨((h.1.inb bH).on bH (aB w9 o)).more bH (fun b a=>⟨trivial,by rw[World.size_alloc];have:=a.2;omega,fun e=>by
      have c:some b=some gs:=e;injection c with c;have:=a.1;have:=Q.o.2;omega⟩),h.2⟩)
     exact QAk
  .have ay:¬(k:Int)<(l.length:Int):=qo;obtain rfl:k=l.length:=qo;have H:st=R:=by have:=K.o;rwa [List.drop_length] at this
   subst H;have al:=ag.o;obtain⟨x,rfl⟩:=List.length_eq_one_iff.1 al;obtain rfl:m=1:=hm;have Y:=A.o.sl qs (fun _=>True) (fun _ _ _=>trivial) (fun _ _ _=>trivial) iI;obtain⟨gs,go,rfl⟩:=AQ Y qs;obtain⟨ba,bc,O,x1,x2,x3,x4,hp,av⟩:=tN (k:=0) Y qs;simp only[Nat.zero_mul,Nat.add_zero,List.getElem_cons_zero] at O x1 x2 x3 x4 hp;obtain⟨HP,af,B1⟩:=aY hp (aC B.o I.o) (aE s.o I.o);obtain⟨⟨u0,u1,u2⟩,_⟩:=cE B1.o;have zu:=aD B1.o;clear Y hp al K T A ag;go_wp2;go_region
   all_goals
    go_wp2;refine bR (.tuple #[.agg #[.int .i64 x.val.1,.int .i64 x.val.2.1,.string x.val.2.2],.int .i64 x.err]) ?_;rw[C.o];refine⟨rfl,HP.o.2.1,?_⟩
    first
     |exact(((af.o.setCell (lR _) _).setCell (lR _) _).setCell (lR _) _).drew
     |exact((af.o.drew.setCell (lR _) _).setCell (lR _) _).setCell (lR _) _
theorem Kb{ok ok':nP}(o:Value)(l:List No)(n:Value)(g:List Gv)(w:World)(m:aH JN w ok' o l)(h:aH jM w ok n g):Calls prog 230 #[o,n] w (aO (.int .i64 (tK g l:Nat)) w):=by
 have d:=aA (Eh o l n g w m h);obtain⟨J,gc,rfl,_⟩:=h.slice;obtain⟨la,lc,rfl,K⟩:=m.slice;unfold aO;unfold Ai at d;clear h m;by_cases i:l=[]
 .subst i;have b:Hid (tK g []=2):=aA (iP rfl);rw[b.o];clear d;go_enter func230,ntmps230;exact FX
 have L:((l.length:Int)==0)=false:=bN.2 (fun h=>i (List.eq_nil_of_length_eq_zero qo));have b:=aA (show tK g l=if (jG (nT g l).1 (nT g l).2).is 1=true then 2 else if (jG (nT g l).1 (nT g l).2).is 0=true then 0 else 1 from iN i);obtain⟨R,E⟩:∃R,tK g l=R:=⟨_,rfl⟩;rw[E] at b ⊢;clear i E;generalize nT g l=r at *;obtain⟨v,e⟩:=r;simp only at d b;have k:=aA (fun w'=>tC none 0 0 [] v e 1 w');have j:=aA (fun w'=>tC none 0 0 [] v e 0 w');unfold aO at k j;have D:(jG v e).is 1=It.is ⟨[],v,e⟩ 1:=rfl;have C:(jG v e).is 0=It.is ⟨[],v,e⟩ 0:=rfl;rw[D,C] at b;generalize It.is ⟨[],v,e⟩ 1=p at *;generalize It.is ⟨[],v,e⟩ 0=q at *;clear D C;unfold dD at d;go_enter func230,ntmps230;go_wp2_with fail;refine d.o.mono ?_;rintro e w1 ⟨rfl,_,a⟩;obtain⟨I,G,c⟩:=aY a (aC (aC a (aB w1 (.cells #[.int .i64 v.1,.int .i64 v.2.1,.string v.2.2] 55))) (aB _ (.cells #[.slice none 0 0,.int .i64 v.1,.int .i64 v.2.1,.string v.2.2,.int .i64 e] 352))) (aK (w1.alloc (.cells #[.int .i64 v.1,.int .i64 v.2.1,.string v.2.2] 55)) (.cells #[.slice none 0 0,.int .i64 v.1,.int .i64 v.2.1,.string v.2.2,.int .i64 e] 352) (w1.heap.size+1) qs);clear a d;go_wp2_with fail;refine(k.o _).mono ?_;rintro H w2 ⟨rfl,a⟩;have s:=qB G a;replace c:=qK c a;obtain⟨⟨x,y,z,A,B⟩,_⟩:=cP c.o;have F:=aD c.o;clear a k
 cases p
 .go_wp2_with fail;refine(j.o _).mono ?_;rintro H M ⟨rfl,a⟩;have t:=qB s a
  try clear x y z A B F
  replace c:=qK c a;obtain⟨⟨x,y,z,A,B⟩,_⟩:=cP c.o;have F:=aD c.o;clear a j
  cases q
  .have f:Hid (R=1):=b.o;go_wp2;go_returns;exact⟨by rw[f.o];rfl,t.o⟩
  .have f:Hid (R=0):=b.o;go_wp2;go_returns;exact⟨by rw[f.o];rfl,t.o⟩
 .have f:Hid (R=2):=b.o;go_wp2;go_returns;exact⟨by rw[f.o];rfl,s.o⟩
namespace Cm
section
variable {α:Type}
def qE(p:α->Bool)(l:List α)(k:Nat):Prop:=∀(i:Nat) (h:i<l.length),i<k->p l[i]=false
theorem GU(p:α->Bool)(l:List α):qE p l 0:=fun i h a=>by omega
theorem GV{p:α->Bool}{l:List α}{k:Nat}(h:qE p l k)(e:k<l.length)(hp:p l[k]=false):qE p l (k+1):=fun i a d=>by
 rcases Nat.lt_or_ge i k with b|c
 .exact h i a b
 .obtain rfl:i=k:=qo;exact hp
def sC(p:α->Bool)(l:List α):Int:=if l.findIdx p<l.length then (l.findIdx p:Int) else -1
theorem Aj{p:α->Bool}{l:List α}{k:Nat}(h:qE p l k)(a:k<l.length)(hp:p l[k]=true):sC p l=k:=by
 have:l.findIdx p=k:=(List.findIdx_eq a).2 ⟨hp,fun j hj=>h j qo hj⟩;unfold sC;rw[this,iP a]
theorem Pt{p:α->Bool}{l:List α}{k:Nat}(h:qE p l k)(a:k<l.length)(hp:p l[k]=true):l.find? p=some l[k]:=by
 rw[List.find?_eq_some_iff_getElem];exact⟨hp,k,a,rfl,fun j hj=>by rw[h j qo hj];rfl⟩
theorem Ei{p:α->Bool}{l:List α}(h:qE p l l.length):∀x∈l,p x=false:=fun x b=>by
 obtain⟨i,a,rfl⟩:=List.getElem_of_mem b;exact h i a a
theorem Pu{p:α->Bool}{l:List α}(h:qE p l l.length):sC p l= -1:=by
 have:l.findIdx p=l.length:=List.findIdx_eq_length_of_false (Ei h);unfold sC;rw[this,iN qo]
theorem PN(p:α->Bool)(l:List α):(∃k,∃h:k<l.length,sC p l=k/\p l[k]=true/\qE p l k)\/(sC p l= -1/\∀x∈l,p x=false):=by
 by_cases h:l.findIdx p<l.length
 .refine .inl ⟨l.findIdx p,h,by unfold sC;rw[iP h],List.findIdx_getElem,fun i c a=> ?_⟩;have:=(List.findIdx_eq (i:=l.findIdx p) (p:=p) h).1 rfl;exact this.2 i a
 .refine .inr ⟨by unfold sC;rw[iN h],fun x b=> ?_⟩;have:=List.findIdx_eq_length.1 (Nat.le_antisymm (List.findIdx_le_length) (Nat.not_lt.1 h));exact this x b
end
def pE(m:Nat×Nat):Bool:= !(m==(0,0))
def LC(m:Nat×Nat):Bool:=(m==(0,0))||(m==(4,0))||(m==(0,4))
def mH(k:Nat)(j m:Nat×Nat):Nat×Nat:=
 match k with
 |3=>bif j==(0,0) then m else j
 |4=>bif j==(0,0) then m else bif m==(0,0) then j else (2,2)
 |_=>xD j m
def yV(l:List (Nat×Nat)):Nat×Nat:=(l.find? pE).getD (0,0)
def AR(l:List (Nat×Nat)):Nat×Nat:=bif l.all LC then l.foldl (mH 4) (0,0) else (2,2)
def VH(m:Nat×Nat)(l:List (Nat×Nat)):Bool:=l.any (m== ·)
def pN(l:List (Nat×Nat))(m other:Nat×Nat):Nat×Nat:=bif VH other l then other else m
def fX(l:List (Nat×Nat)):Nat×Nat:=l.foldl xD (0,0)
def Yo(k:Nat)(l:List (Nat×Nat)):Nat×Nat:=
 match k with
 |1=>rW (fX l)
 |2=>qN (rW (qN (fX l)))
 |3=>yV l
 |4=>AR l
 |5=>pN l (0,4) (4,0)
 |_=>pN l (4,0) (0,4)
def DW(l:List (Nat×Nat)):Prop:=∀m∈l,QP m
theorem DW.at{l:List (Nat×Nat)}(h:DW l){i:Nat}(a:i<l.length):QP l[i]:=h _ (List.getElem_mem a)
theorem NG{f:Nat×Nat->Nat×Nat->Nat×Nat}(c:∀a b,QP a->QP b->QP (f a b)):∀(l:List (Nat×Nat)) (a:Nat×Nat),QP a->DW l->QP (l.foldl f a)
 | [],_,ha,_=>ha
 |m::l,a,ha,h=>NG c l _ (c _ _ ha (h _ (List.mem_cons_self ..))) fun x d=>h x (List.mem_cons_of_mem _ d)
theorem QP.zero:QP (0,0):=⟨qe,qe⟩
theorem QP.half:QP (2,2):=⟨qe,qe⟩
theorem Vo(k:Nat){j m:Nat×Nat}(hj:QP j)(hm:QP m):QP (mH k j m):=by
 unfold mH;split
 .cases (j==(0,0))<;>assumption
 .cases (j==(0,0))
  .cases (m==(0,0))
   .exact QP.half
   .exact hj
  .exact hm
 .exact hj.join hm
theorem VI{l:List (Nat×Nat)}(h:DW l):QP (fX l):=NG (fun _ _=>QP.join) l _ QP.zero h
theorem PO{β:Type}(f:β->Nat×Nat->β)(a:β)(l:List (Nat×Nat))(k:Nat)(b:k<l.length):(l.take (k+1)).foldl f a=f ((l.take k).foldl f a) l[k]:=by
 rw[List.take_succ_eq_append_getElem b,List.foldl_append];rfl
theorem YI(m:Nat×Nat)(hm:QP m)(w:World):Calls prog 276 #[.complex .f64 (qb m.1) (qb m.2)] w fun e w'=>e=.returned (.bool (pE m))/\w=w':=
 UB _ _ (m==(0,0)) w (iU m.1 m.2 0 0 hm qe qe)
theorem Pw(m:Nat×Nat)(hm:QP m)(w:World):Calls prog 277 #[.complex .f64 (qb m.1) (qb m.2)] w fun e w'=>e=.returned (.bool (LC m))/\w=w':=
 Ia _ _ _ _ _ w (iU m.1 m.2 0 0 hm qe qe) (iU m.1 m.2 4 0 hm qe qe) (iU m.1 m.2 0 4 hm qe qe)
theorem JC(k:Nat)(h1:1<=k)(h6:k<=6)(j m:Nat×Nat)(hj:QP j)(hm:QP m)(w:World):
 Calls prog 278 #[.int .i64 k,.complex .f64 (qb j.1) (qb j.2),.complex .f64 (qb m.1) (qb m.2)] w fun e w'=>e=.returned (.complex .f64 (qb (mH k j m).1) (qb (mH k j m).2))/\w=w':=by
 obtain rfl|rfl|rfl|rfl|rfl|rfl:k=1\/k=2\/k=3\/k=4\/k=5\/k=6:=qo
 .exact xG 1 qo _ _ _ _ _ _ w (wH j m hj hm)
 .exact xG 2 qo _ _ _ _ _ _ w (wH j m hj hm)
 .have h:=Ct _ _ (qb m.1) (qb m.2) _ w (iU j.1 j.2 0 0 hj qe qe);refine h.mono fun e w' a=>⟨a.1.trans ?_,a.2⟩
  unfold mH;show Ending.returned (bif (j==(0,0)) then _ else _)=_
  cases (j==(0,0))<;>rfl
 .have h:=Ib _ _ (qb m.1) (qb m.2) _ _ w (iU j.1 j.2 0 0 hj qe qe) (iU m.1 m.2 0 0 hm qe qe);refine h.mono fun e w' a=>⟨a.1.trans ?_,a.2⟩
  unfold mH;show Ending.returned (bif (j==(0,0)) then _ else bif (m==(0,0)) then _ else _)=_
  cases (j==(0,0))<;>cases (m==(0,0))<;>rfl
 .exact xG 5 qo _ _ _ _ _ _ w (wH j m hj hm)
 .exact xG 6 qo _ _ _ _ _ _ w (wH j m hj hm)
end Cm
namespace Cm
theorem QCW{p:Prop}(h:p:=by
 go_wp2;go_round
 case rel=>exact⟨k+1,qo,by go_num,H1.o⟩
 case measure=>simp[intOf];omega):p:=h
theorem QCJ{p:Prop}(h:p:=by
 obtain rfl:k=l.length:=qo;have H0:=aA (Pu hno);clear hno;go_wp2;go_ret;exact⟨by rw[H0.o];rfl,rfl⟩):p:=h
theorem Ej(a:oD)(c n:Nat)(l:List (Nat×Nat))(q:l.length=n)(w:World)(B:Nat)(p:n<=maxLen)(j:DW l)(m:Sl w B a (vm l)):
 Calls prog 275 #[.slice a n c,.func (.func 276) #[] #[]] w fun e w'=>e=.returned (.int .i64 (sC pE l))/\w=w':=by
 subst q;unfold maxLen at p;have o:=aA j;clear j;go_enter func275,ntmps275;go_wp2;go_loop [8] (fun i=>∃k:Nat,k<=l.length/\i=.int .i64 k/\qE pE l k) (fun i=>l.length - (intOf i).toNat)
 case atStart=>exact⟨0,Nat.zero_le _,rfl,GU _ _⟩
 case round=>
  obtain⟨k,r,rfl,hno⟩:=hrel;by_cases f:k<l.length
  .obtain⟨b,off,rfl,_,g⟩:=m.mark f;have hA:=aA (YI l[k] (o.o.at f) w);have h0:=aA (fun h=>Aj hno f h);have h1:=aA (fun h=>GV hno f h);clear m hno;generalize qb l[k].1=x at g hA;generalize qb l[k].2=y at g hA
   rcases d:pE l[k] with _|_
   .rw[d] at hA h0 h1;have H1:=aA (h1.o rfl);clear h0 h1 d;go_wp2_with fail;refine hA.o.mono ?_;rintro e w' ⟨rfl,rfl⟩;exact QCW
   .rw[d] at hA h0 h1;have H0:=aA (h0.o rfl);clear h0 h1 d;go_wp2_with fail;refine hA.o.mono ?_;rintro e w' ⟨rfl,rfl⟩;go_wp2;go_ret;exact⟨by rw[H0.o];rfl,rfl⟩
  .exact QCJ
theorem Vp(a b:Nat×Nat):(((a.1,a.2):Nat×Nat)==(b.1,b.2))=(a==b):=rfl
theorem OE(a:oD)(c n:Nat)(l:List (Nat×Nat))(r:l.length=n)(m:Nat×Nat)(w:World)(B:Nat)(q:n<=maxLen)(hm:QP m)(j:DW l)(p:Sl w B a (vm l)):
 Calls prog 288 #[.slice a n c,.complex .f64 (qb m.1) (qb m.2)] w fun e w'=>e=.returned (.int .i64 (sC (m== ·) l))/\w=w':=by
 subst r;unfold maxLen at q;have g:=aA (fun (k:Nat) (h:k<l.length)=>(iU m.1 m.2 l[k].1 l[k].2 hm (j.at h).1 (j.at h).2).trans (Vp m l[k]));clear j;generalize hu:qb m.1=u at g ⊢;generalize s:qb m.2=v at g ⊢;clear hu s hm;go_enter func288,ntmps288;go_wp2;go_loop [8] (fun i=>∃k:Nat,k<=l.length/\i=.int .i64 k/\qE (m== ·) l k) (fun i=>l.length - (intOf i).toNat)
 case atStart=>exact⟨0,Nat.zero_le _,rfl,GU _ _⟩
 case round=>
  obtain⟨k,t,rfl,hno⟩:=hrel;by_cases f:k<l.length
  .obtain⟨b,off,rfl,_,o⟩:=p.mark f;have he:=g.o k f;have h0:=aA (fun h=>Aj hno f h);have h1:=aA (fun h=>GV hno f h);clear p hno;generalize qb l[k].1=x at o he;generalize qb l[k].2=y at o he
   rcases d:(m==l[k]) with _|_
   .rw[d] at he h0 h1;have H1:=aA (h1.o rfl);clear h0 h1 d;exact QCW
   .rw[d] at he h0 h1;have H0:=aA (h0.o rfl);clear h0 h1 d;go_wp2;go_ret;exact⟨by rw[H0.o];rfl,rfl⟩
  .exact QCJ
theorem Ek(m:Nat×Nat)(l:List (Nat×Nat)):(∃k:Nat,sC (m== ·) l=k/\VH m l=true)\/(sC (m== ·) l= -1/\VH m l=false):=by
 rcases PN (m== ·) l with ⟨k,a,h1,h2,_⟩|⟨h1,h2⟩
 .exact .inl ⟨k,h1,List.any_eq_true.2 ⟨l[k],List.getElem_mem a,h2⟩⟩
 .exact .inr ⟨h1,List.any_eq_false.2 fun x b=>by rw[h2 x b];decide⟩
theorem VJ(a:oD)(c n:Nat)(l:List (Nat×Nat))(d:l.length=n)(m:Nat×Nat)(w:World)(B:Nat)(b:n<=maxLen)(hm:QP m)(f:DW l)(g:Sl w B a (vm l)):
 Calls prog 279 #[.slice a n c,.complex .f64 (qb m.1) (qb m.2)] w fun e w'=>e=.returned (.bool (VH m l))/\w=w':=by
 have h:=OE a c n l d m w B b hm f g;clear hm
 rcases Ek m l with ⟨k,h1,h2⟩|⟨h1,h2⟩
 all_goals
  rw[h1] at h;rw[h2];have H:=aA h;clear h h1 h2 g f d b;generalize qb m.1=u at H ⊢;generalize qb m.2=v at H ⊢;go_enter func279,ntmps279;go_wp2_with fail;refine H.o.mono ?_;exact OW
theorem LD(a:oD)(c n:Nat)(l:List (Nat×Nat))(f:l.length=n)(m o:Nat×Nat)(w:World)(B:Nat)(b:n<=maxLen)(hm:QP m)(g:QP o)(i:DW l)(j:Sl w B a (vm l)):
 Calls prog 259 #[.slice a n c,.complex .f64 (qb m.1) (qb m.2),.complex .f64 (qb o.1) (qb o.2)] w fun e w'=>e=.returned (.complex .f64 (qb (pN l m o).1) (qb (pN l m o).2))/\w=w':=by
 have H:=aA (VJ a c n l f o w B b g i j);unfold pN;clear j i b hm g
 rcases d:VH o l with _|_
 all_goals
  rw[d] at H;simp only[cond_true,cond_false];clear d f;generalize qb m.1=u at H ⊢;generalize qb m.2=v at H ⊢;generalize qb o.1=x at H ⊢;generalize qb o.2=y at H ⊢;go_enter func259,ntmps259;go_wp2_with fail;refine H.o.mono ?_;exact OW
theorem VK(l:List (Nat×Nat)):(∃k,∃h:k<l.length,sC pE l=k/\yV l=l[k])\/(sC pE l= -1/\yV l=(0,0)):=by
 unfold yV
 rcases PN pE l with ⟨k,a,h1,h2,h3⟩|⟨h1,h2⟩
 .exact .inl ⟨k,a,h1,by rw[Pt h3 a h2];rfl⟩
 .refine .inr ⟨h1,?_⟩;rw[List.find?_eq_none.2 fun x b=>by rw[h2 x b];decide];rfl
theorem Kc(a:oD)(c n:Nat)(l:List (Nat×Nat))(i:l.length=n)(w:World)(B:Nat)(f:n<=maxLen)(j:DW l)(d:Sl w B a (vm l)):
 Calls prog 257 #[.slice a n c] w fun e w'=>e=.returned (.complex .f64 (qb (yV l).1) (qb (yV l).2))/\w=w':=by
 have h:=Ej a c n l i w B f j d;subst i;clear j;unfold maxLen at f
 rcases VK l with ⟨k,m,h1,h2⟩|⟨h1,h2⟩
 .rw[h1] at h;rw[h2];obtain⟨b,off,rfl,_,g⟩:=d.mark m;have H:=aA h;have o:(0:Int)<=(k:Int):=qo;clear h h1 h2 d;generalize qb l[k].1=x at g ⊢;generalize qb l[k].2=y at g ⊢;go_enter func257,ntmps257;go_wp2_with fail;refine H.o.mono ?_;exact OW
 .rw[h1] at h;rw[h2];have H:=aA h;clear h h1 h2 d;go_enter func257,ntmps257;go_wp2_with fail;refine H.o.mono ?_;exact OW
end Cm
namespace Cm
theorem QBx{p:Prop}(h:p:=by
 rw[hb] at hA h1 h2;have H1:=aA (h1.o rfl);clear h1 h2 hb;go_wp2_with fail;refine hA.o.mono ?_;rintro e w' ⟨rfl,rfl⟩;go_wp2_with fail;refine hB.o.mono ?_;rintro e w' ⟨rfl,rfl⟩;go_wp2;go_round
 case rel=>exact⟨k+1,qo,by go_num,H1.o,by rw[HJ.o]⟩
 case measure=>simp[intOf];omega):p:=h
theorem Kd{p:Prop}(h:p:=by
 go_wp2_with fail;refine h1.o.mono ?_;rintro e w' ⟨rfl,rfl⟩;go_wp2;go_ret2
 exact⟨by rw[HR.o];rfl,rfl⟩):p:=h
theorem VL{p:Nat×Nat->Bool}{l:List (Nat×Nat)}{k:Nat}(h:(l.take k).all p=true)(a:k<l.length)(hp:p l[k]=true):(l.take (k+1)).all p=true:=by
 rw[List.take_succ_eq_append_getElem a,List.all_append,h];simp[hp]
theorem Ak{p:Nat×Nat->Bool}{l:List (Nat×Nat)}{k:Nat}(a:k<l.length)(hp:p l[k]=false):l.all p=false:=by
 rw[List.all_eq_false];exact⟨l[k],List.getElem_mem a,by rw[hp];decide⟩
theorem Px(a:oD)(c n:Nat)(l:List (Nat×Nat))(z:l.length=n)(w:World)(B:Nat)(t:n<=maxLen)(r:DW l)(s:Sl w B a (vm l)):
 Calls prog 258 #[.slice a n c] w fun e w'=>e=.returned (.complex .f64 (qb (AR l).1) (qb (AR l).2))/\w=w':=by
 subst z;unfold maxLen at t;have j:=aA r;clear r;go_enter func258,ntmps258;go_wp2;go_loop [3,8] (fun v i=>∃k:Nat,k<=l.length/\i=.int .i64 k/\(l.take k).all LC=true/\v=.complex .f64 (qb ((l.take k).foldl (mH 4) (0,0)).1) (qb ((l.take k).foldl (mH 4) (0,0)).2)) (fun _ i=>l.length - (intOf i).toNat)
 case atStart=>exact⟨0,Nat.zero_le _,rfl,qs,rfl⟩
 case round=>
  obtain⟨k,D,rfl,f,rfl⟩:=hrel;by_cases d:k<l.length
  .obtain⟨b,off,rfl,_,q⟩:=s.mark d;have hA:=aA (Pw l[k] (j.o.at d) w);have p:=NG (fun _ _=>Vo 4) (l.take k) (0,0) QP.zero (fun x A=>j.o x (List.mem_of_mem_take A));have hB:=aA (JC 4 qe qe _ l[k] p (j.o.at d) w);have m:=aA (PO (mH 4) (0,0) l k d);have h1:=aA (fun h=>VL f d h);have h2:Hid (LC l[k]=false->AR l=(2,2)):=fun h=>by unfold AR;rw[Ak d h];rfl
   clear s f p;generalize (l.take k).foldl (mH 4) (0,0)=J at hB m ⊢;rw[show (mH 4 J l[k])=((l.take (k+1)).foldl (mH 4) (0,0)) from m.o.symm] at hB;clear m;generalize o:(l.take (k+1)).foldl (mH 4) (0,0)=C at hB ⊢;have HJ:=aA o;clear o;generalize qb l[k].1=x at q hA hB;generalize qb l[k].2=y at q hA hB
   rcases hb:LC l[k] with _|_
   .rw[hb] at hA h1 h2;have g:=aA (h2.o rfl);clear h1 h2 hb;go_wp2_with fail;refine hA.o.mono ?_;rintro e w' ⟨rfl,rfl⟩;go_wp2;go_ret;exact⟨by rw[g.o];rfl,rfl⟩
   .exact QBx
  .obtain rfl:k=l.length:=qo;rw[List.take_length] at f ⊢;have g:Hid (AR l=l.foldl (mH 4) (0,0)):=by unfold AR;rw[f];rfl
   clear f;generalize l.foldl (mH 4) (0,0)=J at g ⊢;go_wp2;go_ret;exact⟨by rw[g.o];rfl,rfl⟩
def iZ(alg:Int)(l:List (Nat×Nat)):(Nat×Nat)×Int:=
 if l.all fM=true/\1<=alg/\alg<=6 then (Yo alg.toNat l,0) else ((0,0),1)
def mkE(r:(Nat×Nat)×Int):Value:= .tuple #[.complex .f64 (qb r.1.1) (qb r.1.2),.int .i64 r.2]
theorem Py{alg:Int}{l:List (Nat×Nat)}(h:l.all fM=false):iZ alg l=((0,0),1):=by
 unfold iZ;rw[iN (by rw[h];simp)]
theorem Vq{alg:Int}{l:List (Nat×Nat)}(h:alg<1\/6<alg):iZ alg l=((0,0),1):=by
 unfold iZ;rw[iN qo]
theorem Pz{l:List (Nat×Nat)}(k:Nat)(h1:1<=k)(h6:k<=6)(h:l.all fM=true):iZ (k:Int) l=(Yo k l,0):=by
 unfold iZ;rw[iP ⟨h,qo,qo⟩];rfl
theorem ZV(alg:Int)(a:oD)(c n:Nat)(l:List (Nat×Nat))(E:l.length=n)(w:World)(B:Nat)(r:n<=maxLen)(z:DW l)(f:Sl w B a (vm l)):
 Calls prog 231 #[.int .i64 alg,.slice a n c] w fun e w'=>e=.returned (mkE (iZ alg l))/\w=w':=by
 subst E;have d:=aA z;have p:=aA r;unfold maxLen at r;clear z;go_enter func231,ntmps231;go_wp2;go_loop [6,11] (fun v i=>∃k:Nat,k<=l.length/\i=.int .i64 k/\(l.take k).all fM=true/\v=.complex .f64 (qb (fX (l.take k)).1) (qb (fX (l.take k)).2)) (fun _ i=>l.length - (intOf i).toNat)
 case atStart=>exact⟨0,Nat.zero_le _,rfl,qs,rfl⟩
 case round=>
  obtain⟨k,D,rfl,o,rfl⟩:=hrel;by_cases m:k<l.length
  .obtain⟨b,off,rfl,_,s⟩:=f.mark m;have hA:Hid (Calls prog 253 #[.complex .f64 (qb l[k].1) (qb l[k].2)] w fun e w'=>e=.returned (.bool (fM l[k]))/\w=w'):=aA (Cs l[k] (d.o.at m) w);have g:=VI (l:=l.take k) (fun x F=>d.o x (List.mem_of_mem_take F));have A:Hid (fX (l.take (k+1))=xD (fX (l.take k)) l[k]):=aA (PO xD (0,0) l k m);have hB:Hid (Calls prog 254 #[.complex .f64 (qb (fX (l.take k)).1) (qb (fX (l.take k)).2),.complex .f64 (qb l[k].1) (qb l[k].2)] w fun e w'=>e=.returned (.complex .f64 (qb (fX (l.take (k+1))).1) (qb (fX (l.take (k+1))).2))/\w=w'):=by
    rw[A.o];exact wH _ _ g (d.o.at m) w
   have h1:=aA (fun h=>VL o m h);have h2:Hid (fM l[k]=false->iZ alg l=((0,0),1)):=fun h=>Py (Ak m h)
   clear f o g A;generalize fX (l.take k)=J at hB ⊢;generalize q:fX (l.take (k+1))=I at hB ⊢;have HJ:=aA q;clear q;generalize qb l[k].1=x at s hA hB;generalize qb l[k].2=y at s hA hB
   rcases hb:fM l[k] with _|_
   .rw[hb] at hA h1 h2;have C:=aA (h2.o rfl);clear h1 h2 hb hB;go_wp2_with fail;refine hA.o.mono ?_;rintro e w' ⟨rfl,rfl⟩;go_wp2;go_ret2
    exact⟨by rw[C.o];rfl,rfl⟩
   .exact QBx
  .obtain rfl:k=l.length:=qo;rw[List.take_length] at o ⊢;have j:=aA o;have g:=aA (VI d.o);clear o D m;by_cases t:1<=alg/\alg<=6
   .obtain⟨K,rfl⟩:∃K:Nat,alg=(K:Int):=⟨alg.toNat,qo⟩;obtain⟨S,R⟩:=t;have HR:=aA (Pz (l:=l) K qo qo j.o);obtain rfl|rfl|rfl|rfl|rfl|rfl:K=1\/K=2\/K=3\/K=4\/K=5\/K=6:=qo
    .have h1:=aA (TZ (fX l) g.o w);unfold mk at h1;clear f d j g;generalize qb (fX l).1=G at h1 ⊢;generalize qb (fX l).2=H at h1 ⊢;exact Kd
    .have h1:=aA (TY (fX l) w);have h2:=aA (TZ (qN (fX l)) g.o.swap w);have h3:=aA (TY (rW (qN (fX l))) w);unfold mk at h1 h2 h3;clear f d j g;generalize qb (fX l).1=G at h1 ⊢;generalize qb (fX l).2=H at h1 ⊢;generalize qb (qN (fX l)).1=t1 at h1 h2;generalize qb (qN (fX l)).2=t2 at h1 h2;generalize qb (rW (qN (fX l))).1=T at h2 h3;generalize qb (rW (qN (fX l))).2=U at h2 h3;go_wp2_with fail;refine h1.o.mono ?_;rintro e w' ⟨rfl,rfl⟩;go_wp2_with fail;refine h2.o.mono ?_;rintro e w' ⟨rfl,rfl⟩;go_wp2_with fail;refine h3.o.mono ?_;rintro e w' ⟨rfl,rfl⟩;go_wp2;go_ret2
     exact⟨by rw[HR.o];rfl,rfl⟩
    .have h1:=aA (Kc a c _ l rfl w B p.o d.o f);clear f d j g;exact Kd
    .have h1:=aA (Px a c _ l rfl w B p.o d.o f);clear f d j g;exact Kd
    .have h1:Hid (Calls prog 259 #[.slice a l.length c,.complex .f64 0 4607182418800017408,.complex .f64 4607182418800017408 0] w fun e w'=>e=.returned (.complex .f64 (qb (pN l (0,4) (4,0)).1) (qb (pN l (0,4) (4,0)).2))/\w=w'):=LD a c _ l rfl (0,4) (4,0) w B p.o ⟨qe,qe⟩ ⟨qe,qe⟩ d.o f;clear f d j g;exact Kd
    .have h1:Hid (Calls prog 259 #[.slice a l.length c,.complex .f64 4607182418800017408 0,.complex .f64 0 4607182418800017408] w fun e w'=>e=.returned (.complex .f64 (qb (pN l (4,0) (0,4)).1) (qb (pN l (4,0) (0,4)).2))/\w=w'):=LD a c _ l rfl (4,0) (0,4) w B p.o ⟨qe,qe⟩ ⟨qe,qe⟩ d.o f;clear f d j g;exact Kd
   .have HR:=aA (Vq (l:=l) (alg:=alg) qo);have L:(alg==1)=false:=by simp;omega
    have M:(alg==2)=false:=by simp;omega
    have N:(alg==3)=false:=by simp;omega
    have O:(alg==4)=false:=by simp;omega
    have P:(alg==5)=false:=by simp;omega
    have Q:(alg==6)=false:=by simp;omega
    clear t f d j g;go_wp2;go_ret2
    exact⟨by rw[HR.o];rfl,rfl⟩
end Cm
end Go.Proofs.YtbinmcabjnoliaaGreatDoor
