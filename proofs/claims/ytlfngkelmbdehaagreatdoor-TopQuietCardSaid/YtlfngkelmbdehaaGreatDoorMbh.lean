/- Lemmas. -/
import Derived.Test.YtlfngkelmbdehaaGreatDoorMbg
import Derived.Test.YtlfngkelmbdehaaGreatDoorMbc
import Derived.Test.YtlfngkelmbdehaaGreatDoorMar
namespace Go.Proofs.YtlfngkelmbdehaaGreatDoor
open Go.RowKit
set_option linter.unusedVariables false
set_option linter.unusedSimpArgs false
set_option maxHeartbeats 16000000
open _root_.Go.Proofs.Tryz
set_option maxRecDepth 20000
def Sn(n:No)(l:List It):Prop:=((n.op=1\/n.op=2)/\l=[])\/xH n l
theorem Pf{ok ok':nP}(n:No)(c:oM n)(b:Value)(l:List It)(a:Value)(g:List Gv)(w:World)(d:aH sG w ok' b l)(h:aH jM w ok a g)(hw:Sn n l):Calls prog 270 #[jJ n,b,a] w (pB (iL g n l) w):=by
 rcases hw with ⟨h1|h1,e⟩|hw
 .exact Jn n c b l a g w d h h1 e
 .exact Jo n c b l a g w d h h1 e
 by_cases he:xI n l
 .exact Jq n c b l a g w d h he
 by_cases f:n.op=12\/n.op=13
 .exact Jr n c b l a g w d h f he (by unfold xH at hw;omega)
 .exact Js n c b l a g w d h qo he hw
theorem GJ{op:Int}{m:List Bool}(h:mL op=some m):m.length=jI op/\((op=1\/op=2)\/op=3\/op=4\/op=5\/op=11\/(6<=op/\op<=13/\op≠11)):=by
 unfold mL at h;unfold jI;split at h
 .rename_i h1;injection h with h;subst h;rw[iP h1];exact⟨rfl,.inl h1⟩
 rename_i h1;split at h
 .rename_i h2;injection h with h;subst h;rw[iN h1,iP qo];exact⟨rfl,qo⟩
 rename_i h2;split at h
 .rename_i h3;injection h with h;subst h;rw[iN h1,iN qo];exact⟨rfl,qo⟩
 rename_i h3;split at h
 .rename_i h4;injection h with h;subst h;rw[iN h1,iP qo];exact⟨rfl,qo⟩
 rename_i h4;split at h
 .rename_i h5;injection h with h;subst h;rw[iN h1,iN qo];exact⟨rfl,qo⟩
 .cases h
def tA(r:List No)(st:List It):Prop:=∃a made:List Bool,a.length=st.length/\iK r a=some made
theorem KS{n:No}{r:List No}{st:List It}(h:tA (n::r) st):jI n.op<=st.length/\Sn n (st.drop (st.length - jI n.op))/\∀x,tA r (st.take (st.length - jI n.op)++[x]):=by
 obtain⟨d,made,f,b⟩:=h;unfold iK at b
 cases he:kY d n with
 |none=>rw[he] at b;cases b
 |some t2=>
  rw[he] at b;dsimp only at b;unfold kY at he
  cases hw:mL n.op with
  |none=>rw[hw] at he;cases he
  |some m=>
   rw[hw] at he;dsimp only at he;obtain⟨ha,a⟩:=GJ hw;split at he
   .rename_i e;injection he with he;have h1:jI n.op<=st.length:=qo;have c:(st.drop (st.length - jI n.op)).length=jI n.op:=by rw[List.length_drop];omega
    refine⟨h1,?_,fun x=>⟨t2,made,?_,b⟩⟩
    .rcases a with a|a
     .have h0:jI n.op=0:=by unfold jI;rw[iP a]
      exact .inl ⟨a,List.eq_nil_of_length_eq_zero qo⟩
     .refine .inr ?_;unfold xH;rw[c];unfold jI
      rcases a with h|h|h|h|h
      .exact .inl ⟨h,by rw[iN qo,iP qo]⟩
      .exact .inr (.inl ⟨h,by rw[iN qo,iP qo]⟩)
      .exact .inr (.inr (.inl ⟨h,by rw[iN qo,iN qo]⟩))
      .exact .inr (.inr (.inr (.inl ⟨h,by rw[iN qo,iP qo]⟩)))
      .exact .inr (.inr (.inr (.inr ⟨h.1,h.2.1,h.2.2,by rw[iN qo,iN qo]⟩)))
    .rw[<-he,aL,aL,List.length_take,List.length_take];simp only[List.length_singleton];omega
   .cases he
theorem Pg{l:List No}(h:kZ l=0)(d:l≠[]):tA l []/\∀b made,iK l b=some made->b=[]->made=[false]:=by
 unfold kZ at h;split at h
 .cases h
 cases a:iK l [] with
 |none=>rw[a] at h;cases h
 |some made=>
  rw[a] at h;dsimp only at h;split at h
  .cases h
  rename_i c;refine⟨⟨[],made,rfl,a⟩,fun b m2 hm f=> ?_⟩;subst f;rw[a] at hm;injection hm with hm;subst hm;have hp:0<l.length:=List.length_pos_iff.2 d;by_cases e:made=[false]
  .exact e
  .exact absurd ⟨hp,e⟩ c
theorem KT:∀(l:List No) (a made:List Bool),iK l a=some made->∀(g:List Gv) (st:List It),st.length=a.length->(yW g l st).length=made.length
 | [],a,made,h,g,st,hl=>by
   injection h with h;subst h;exact hl
 |n::r,a,made,h,g,st,hl=>by
  have c:=KS (n:=n) (r:=r) (st:=st) ⟨a,made,hl.symm,h⟩;unfold iK at h
  cases he:kY a n with
  |none=>rw[he] at h;cases h
  |some t2=>
   rw[he] at h;dsimp only at h;unfold yW;refine KT r t2 made h g _ ?_;unfold kY at he
   cases hw:mL n.op with
   |none=>rw[hw] at he;cases he
   |some m=>
    rw[hw] at he;dsimp only at he;obtain⟨ha,_⟩:=GJ hw;split at he
    .rename_i b;injection he with he;rw[<-he,aL,aL,List.length_take,List.length_take];simp only[List.length_singleton];omega
    .cases he
theorem QT{g:List Gv}{l:List No}{st R:List It}{k:Nat}(a:k<l.length)(h:yW g (l.drop k) st=R):yW g (l.drop (k+1)) (st.take (st.length - jI l[k].op)++[iL g l[k] (st.drop (st.length - jI l[k].op))])=R:=by
 rw[List.drop_eq_getElem_cons a] at h;exact h
theorem Ph{l:List No}{st:List It}{k:Nat}(a:k<l.length)(h:tA (l.drop k) st):tA (l[k] ::l.drop (k+1)) st:=by
 rw[List.drop_eq_getElem_cons a] at h;exact h
theorem QAk{p:Prop}(h:p:=by
 clear HND HT HGG;go_wp2;rw[<-HWW.o,<-HBB.o];go_region_held3 (fun w'=>w'.cell? ⟨bn,0,none⟩=some (.int .i64 n.op)/\w'.cell? ⟨bn,1,none⟩=some (.int .i64 n.val.1)/\w'.cell? ⟨bn,2,none⟩=some (.int .i64 n.val.2.1)/\w'.cell? ⟨bn,3,none⟩=some (.string n.val.2.2)/\w'.cell? ⟨bn,4,none⟩=some (.int .i64 n.aC3.cat)/\w'.cell? ⟨bn,5,none⟩=some (.string n.aC3.name)/\w'.cell? ⟨bn,6,none⟩=some (.bool n.aC3.aDc))
  (first|assumption |exact HBK.o _ (aE HN9.o (aB _ _)))
  ((first
    |(go_at_call 270;refine(HND2.o _ (Below.refl _ _).drew).mono ?_;rintro e w9 ⟨va9,vc9,rfl,hit,hb9⟩;have HN9:=aA (aE (show W.drew.heap[bn]? =_ from HBN.o) hb9);have hS9:=HBK.o _ HN9.o;have HB9:=aA (aC (Below.refl W.heap.size W).drew hb9);have HI9:=aA hit;clear hit hb9)
    |(refine iV (base:=w1.heap.size) Yb iG rfl (.tmp 33) (.tmp 40) rfl _ (st.take q) rfl (HCUT.o _ (aC HB9.o (aB _ _))) w9.heap.size 1 _ _ _ nv rfl (aK w9 _ _ rfl) ⟨_,rfl,HY.o _ _ _ HI9.o⟩ (by rw[HLQ.o];have:=HST.o;have:=HM.o;omega) qe (lT HSZ.o (lT HB9.o.size (by rw[World.size_alloc];exact Nat.le_succ _))) ?_;intro l' hl' A' c2 w10 hG hgr hat';have HG10:=aA hG;have HB10:=aA ((HCUT.o _ (aC HB9.o (aB w9 (.cells #[.slice va9 nv.bag.length vc9,.int .i64 nv.val.1,.int .i64 nv.val.2.1,.string nv.val.2.2,.int .i64 nv.err] 351)))).below (aC HBW.o (aC HB9.o (aB w9 _))) hgr (lR _) (lT HSZ.o (lT HB9.o.size (by rw[World.size_alloc];exact Nat.le_succ _))));have HL10:=aA hl'.o;have hS10:=HBK.o w10 ((hgr.block bn (lL (aD HN9.o) (by rw[World.size_alloc];exact Nat.le_succ _)) HNG.o).trans (aE HN9.o (aB _ _)));clear hG hgr hat' hl')))
 have e10:l'.length=q+1:=by rw[HL10.o,aL,HLQ.o];rfl
 rw[e10] at HG10 ⊢;go_wp2;go_roundw
 case rel=>exact⟨k+1,q+1,A',c2,l',qo,e10.symm,qo,by go_num,rfl,aA (by rw[HL10.o];exact HR3.o),aA (by rw[HL10.o];exact HS3.o nv),HG10,HB10⟩
 case measure=>simp[intOf];omega):p:=h
theorem aM.tail{α:Type}{R:Rep α}{s:Nat}{e:TypeId}{w:World}{base:Nat}{ok:nP}(F:Firm R s){g n c:Nat}{l:List α}(h:aM R s e w base ok (.slice (some ⟨g,0,none⟩) n c) l)(y:l.length<=1000000)(m:Nat)(hm:m<=l.length)(k:Nat):aH R w (fun _=>True) (.slice (some ⟨g,m * s,none⟩) (l.length - m) k) (l.drop m):=by
 obtain⟨cs,h1,h2⟩:=h;obtain⟨a,c2,d,_,h3,_⟩:=lH h1;injection d with d _ _;subst d;refine⟨_,k,cs.drop (m * s),by rw[List.length_drop],?_,((h2.split (fun _ _ j=>F.len j) m hm).2).mono (fun r x j=>F.more j fun _ _=>trivial),by rw[List.length_drop];omega⟩;intro v;obtain⟨b,off,f,z,t⟩:=h3 (by rintro rfl;simp at v);injection f with f;injection f with p q _;subst p q;refine⟨g,m * s,rfl,trivial,fun i x o=> ?_⟩;rw[List.getElem?_drop] at o;have:=t _ _ o;rwa [Nat.zero_add] at this
theorem Yb:dV prog 369 351 5 64:=fO (z:= .agg #[.slice none 0 0,.int .i64 0,.int .i64 0,.string ByteArray.empty,.int .i64 0]) underlying369 (by kernel_rfl) rfl qe
def Zu:List It->V3×Int
 |x::_=>(x.val,x.err)
 | []=>(bD,1)
def Ab(r:V3×Int)(w:World)(e:Ending)(w':World):Prop:=e=.returned (.tuple #[dA r.1,.int .i64 r.2])/\cR r.1/\Below w.heap.size w w'
theorem Dz{ok ok':nP}(vl:Value)(l:List No)(vg:Value)(g:List Gv)(w:World)(N:aH JF w ok' vl l)(h:aH jM w ok vg g):Calls prog 249 #[vl,vg] w (Ab (nR g l) w):=by
 obtain⟨E,gc,rfl,_⟩:=h.slice;obtain⟨la,lc,rfl,be⟩:=N.slice;obtain⟨HG,HL,P,s⟩:=dC h N (aB w (.cells fT 44)) (aK w (.cells fT 44) _ rfl);have y:=aA (GG _ l _ (N.on dO P.o));unfold aP at y;clear h N;by_cases t:l=[]
 .subst t;have C:Hid (nR g []=(bD,1)):=aA (iP (.inl rfl));clear y;go_enter func249,ntmps249;go_wp2;refine bR (.tuple #[.agg #[.int .i64 0,.int .i64 0,.string ⟨#[]⟩],.int .i64 1]) ?_;rw[C.o];exact⟨rfl,jY,aB _ _⟩
 have hz:((l.length:Int)==0)=false:=bN.2 (fun h=>t (List.eq_nil_of_length_eq_zero qo));by_cases he:kZ l=0
 case neg=>
  have C:Hid (nR g l=(bD,1)):=aA (iP (.inr he));have d:(kZ l != 0)=true:=bne_iff_ne.2 he;generalize kZ l=e0 at *;clear t he;go_enter func249,ntmps249;go_wp2_with fail;refine y.o.mono ?_;rintro e w1 ⟨rfl,z⟩;have B:=qB P z;replace s:=qK s z;obtain⟨⟨ab,ad,ae⟩,_⟩:=cE s.o;have aq:=aD s.o;clear z y;go_wp2;refine bR (.tuple #[.agg #[.int .i64 0,.int .i64 0,.string ⟨#[]⟩],.int .i64 1]) ?_;rw[C.o];exact⟨rfl,jY,((B.o.setCell (lR _) _).setCell (lR _) _).setCell (lR _) _⟩
 obtain⟨R,M⟩:=xE (yW g l []);have C:Hid (nR g l=Zu R):=aA (by unfold nR;rw[iN (fun h=>h.elim t (fun h=>h he)),M];rfl);have ah:Hid (yW g (l.drop 0) []=R):=aA (by rw[List.drop_zero];exact M.symm);obtain⟨H,an⟩:=Pg he t;have HST:Hid (tA (l.drop 0) []):=aA (by rw[List.drop_zero];exact H);have ag:Hid (R.length=1):=aA (by
  obtain⟨aa,made,h1,h2⟩:=H;have ht:aa=[]:=List.eq_nil_of_length_eq_zero h1;have:=an aa made h2 ht;rw[M,KT l aa made h2 g [] h1.symm,this];rfl)
 rw[he] at y;clear he t M H an;go_enter func249,ntmps249;go_wp2_with fail;refine y.o.mono ?_;rintro e w1 ⟨rfl,z⟩;have B:=qB P z;replace s:=qK s z;obtain⟨⟨ab,ad,ae⟩,_⟩:=cE s.o;have aq:=aD s.o;clear z y ab ad ae aq;go_wp2;go_loopw [6,21] (fun v i wr=>∃(k m:Nat) (L:oD) (j:Nat) (st:List It),k<=l.length/\m=st.length/\m<=k/\i=.int .i64 k/\v=.slice L m j/\Hid (yW g (l.drop k) st=R)/\Hid (tA (l.drop k) st)/\Hid (aM sG 5 351 wr w1.heap.size (fun _=>True) (.slice L m j) st)/\Hid (Below w1.heap.size w1 wr)) (fun _ i _=>l.length - (intOf i).toNat)
 case atStart=>exact⟨0,0,none,0,[],qo,rfl,qo,rfl,rfl,ah,HST,aA aM.nil,aA (Below.refl _ _)⟩
 case round=>
  clear ah HST;obtain⟨k,m,L,j,st,hk,hm,bf,rfl,rfl,K,T,A,I⟩:=hrel;by_cases V:k<l.length
  .have ay:(k:Int)<(l.length:Int):=qo;obtain⟨b,off,r,rfl,_,av,⟨rfl,ak⟩,hc⟩:=aH.at dO (HL.o.on dO (aC B.o I.o)) V qe;obtain⟨O,x1,x2,x3,x4,x5,x6⟩:=CA hc;rw[Nat.add_zero] at O;obtain⟨h1,h2,h3⟩:=KS (Ph V T.o);have Z:=QT V K.o;have au:=aA ak;clear hc K T ak;rw[<-hm] at h1 h2 h3 Z;have S:=aA (fun w=>Jk l[k].op w);have HND:=aA (fun (a7:nP) v9 (w9:World) (a6:aH sG w9 a7 v9 (st.drop (m - jI l[k].op))) (ax:aH jM w9 ok (.slice E g.length gc) g)=>Pf l[k] au.o v9 _ _ g w9 a6 ax h2);have HS3:=aA h3;have HR3:=aA Z;clear h2 h3 Z;generalize t:l[k]=n at *;clear t;obtain⟨q,X⟩:=xE (m - jI n.op);rw[<-X] at HND HS3 HR3;have bg:q<=m:=qo;obtain⟨D,aj⟩:∃D,jI n.op=D:=⟨_,rfl⟩;rw[aj] at S X h1;have ew:IntKind.i64.wrap ((m:Int) - (D:Int))=(q:Int):=by rw[IntWalk.i64_in _ qo];omega
   have ai:wrap64 ((m:Int) - (D:Int))=(q:Int):=by rw[IntWalk.wrap64_in _ qo];omega
   have HM:=aA hm;clear aj hm X;obtain⟨nv,ao⟩:∃nv,iL g n (st.drop q)=nv:=⟨_,rfl⟩;rw[ao] at HND HR3;unfold pB jJ at HND;clear ao;go_wp2_with fail;refine(S.o _).mono ?_;rintro e w2 ⟨rfl,rfl⟩;obtain⟨a1,bd,bb⟩:=A.o.place;have q0:(0:Int)<=(q:Int):=qo;have q1:(q:Int)<=(m:Int):=qo;have q2:(q:Int)<=(j:Int):=qA HM.o;obtain⟨W,F⟩:=xE (wr.alloc (.cells (iO n) 301));obtain⟨bn,U⟩:=xE wr.heap.size;have HBW:=aA (F▸aC I.o (aB wr _):Below w1.heap.size w1 W);have HBN:=aA (F▸U▸aK wr (.cells (iO n) 301) _ rfl:W.heap[bn]? =some (.cells (iO n) 301 (0,0)));have J:=aA (F▸A.o.on iG (aB wr _):aM sG 5 351 W w1.heap.size (fun _=>True) (.slice L m j) st);have HWW:=aA F;have HBB:=aA U;have HGG:Hid (∀w',Below W.heap.size W w'->aH jM w' ok (.slice E g.length gc) g):=aA (fun w' a=>(HG.o.on bZ (aC B.o (aC HBW.o a))));have HSZ:=aA HBW.o.size;have HBK:Hid (∀w':World,w'.heap[bn]? =some (.cells (iO n) 301 (0,0))->(w'.cell? ⟨bn,0,none⟩=some (.int .i64 n.op)/\w'.cell? ⟨bn,1,none⟩=some (.int .i64 n.val.1)/\w'.cell? ⟨bn,2,none⟩=some (.int .i64 n.val.2.1)/\w'.cell? ⟨bn,3,none⟩=some (.string n.val.2.2)/\w'.cell? ⟨bn,4,none⟩=some (.int .i64 n.aC3.cat)/\w'.cell? ⟨bn,5,none⟩=some (.string n.aC3.name)/\w'.cell? ⟨bn,6,none⟩=some (.bool n.aC3.aDc))):=aA (fun w' h=>by
    obtain⟨⟨h0,h1,h2,h3,h4,h5,h6⟩,_⟩:=bI h;exact⟨h0,h1,h2,h3,h4,h5,h6⟩)
   have a8:=HBK.o W.drew HBN.o;have HST:=aA (show st.length<=1000000 by have:=HM.o;omega);have HLQ:Hid ((st.take q).length=q):=aA (by rw[List.length_take];have:=HM.o;omega);clear F U S O x1 x2 x3 x4 x5 x6
   rcases a1 with ⟨rfl,rfl⟩|⟨gs,rfl⟩
   .obtain rfl:st=[]:=List.eq_nil_of_length_eq_zero qo;have az:m=0:=HM.o;subst az;obtain rfl:q=0:=qo;obtain rfl:D=0:=qo;replace ew:IntKind.i64.wrap ((0:Int) - 0)=0:=ew;replace ai:wrap64 ((0:Int) - 0)=0:=ai;have HCUT:Hid (∀w',Below W.heap.size W w'->aM sG 5 351 w' w1.heap.size (fun _=>True) (.slice none 0 0) (([]:List It).take 0)):=aA (fun w' a=>aM.nil);have HT:Hid (∀w',Below W.heap.size W w'->aH sG w' (fun _=>True) (.slice none 0 0) (([]:List It).drop 0)):=aA (fun w' a=>aH.nil);have HND2:Hid (∀w',Below W.heap.size W w'->Calls prog 270 #[.agg #[.int .i64 n.op,.int .i64 n.val.1,.int .i64 n.val.2.1,.string n.val.2.2,.int .i64 n.aC3.cat,.string n.aC3.name,.bool n.aC3.aDc],.slice none 0 0,.slice E g.length gc] w' (fun e p=>∃f vc,e=.returned (.agg #[.slice f nv.bag.length vc,.int .i64 nv.val.1,.int .i64 nv.val.2.1,.string nv.val.2.2,.int .i64 nv.err])/\BJ p (fun b=>W.heap.size<=b) nv (.slice f nv.bag.length vc)/\Below w'.heap.size w' p)):=aA (fun w' a=>(HND.o _ _ w' (HT.o w' a) (HGG.o w' a)).mono (fun e p ⟨vb,he,h1,h2⟩=>by
     obtain⟨f,vc,rfl,_⟩:=h1.1.slice;exact⟨f,vc,he,⟨h1.1.more bG (fun b G=>lT a.size G),h1.2⟩,h2⟩))
    have HNG:Hid (some bn≠(Value.slice none 0 0).ownBlock):=aA (fun e=>by
     have c:some bn=none:=e
     cases c)
    have HY:Hid (∀w9 vb o,BJ w9 (fun b=>W.heap.size<=b) nv vb->BJ (w9.alloc o) (fun b=>True/\b<(w9.alloc o).heap.size/\some b≠(Value.slice none 0 0).ownBlock) nv vb):=aA (fun w9 vb o h=>⟨((h.1.inb bG).on bG (aB w9 o)).more bG (fun b a=>⟨trivial,by rw[World.size_alloc];have:=a.2;omega,fun e=>by
     have c:some b=none:=e
     cases c⟩),h.2⟩)
    clear HND HT HGG;go_wp2;rw[<-HWW.o,<-HBB.o];go_region_held3 (fun w'=>w'.cell? ⟨bn,0,none⟩=some (.int .i64 n.op)/\w'.cell? ⟨bn,1,none⟩=some (.int .i64 n.val.1)/\w'.cell? ⟨bn,2,none⟩=some (.int .i64 n.val.2.1)/\w'.cell? ⟨bn,3,none⟩=some (.string n.val.2.2)/\w'.cell? ⟨bn,4,none⟩=some (.int .i64 n.aC3.cat)/\w'.cell? ⟨bn,5,none⟩=some (.string n.aC3.name)/\w'.cell? ⟨bn,6,none⟩=some (.bool n.aC3.aDc))
     (first|assumption |exact HBK.o _ (aE HN9.o (aB _ _)))
     ((first
       |(go_at_call 270;refine(HND2.o _ (Below.refl _ _).drew).mono ?_;rintro e w9 ⟨va9,vc9,rfl,hit,hb9⟩;have HN9:=aA (aE (show W.drew.heap[bn]? =_ from HBN.o) hb9);have hS9:=HBK.o _ HN9.o;have HB9:=aA (aC (Below.refl W.heap.size W).drew hb9);have HI9:=aA hit;clear hit hb9)
       |(refine iV (base:=w1.heap.size) Yb iG rfl (.tmp 33) (.tmp 40) rfl _ (([]:List It).take 0) rfl (HCUT.o _ (aC HB9.o (aB _ _))) w9.heap.size 1 _ _ _ nv rfl (aK w9 _ _ rfl) ⟨_,rfl,HY.o _ _ _ HI9.o⟩ (by rw[HLQ.o];have:=HST.o;have:=HM.o;omega) qe (lT HSZ.o (lT HB9.o.size (by rw[World.size_alloc];exact Nat.le_succ _))) ?_;intro l' hl' A' c2 w10 hG hgr hat';have HG10:=aA hG;have HB10:=aA ((HCUT.o _ (aC HB9.o (aB w9 (.cells #[.slice va9 nv.bag.length vc9,.int .i64 nv.val.1,.int .i64 nv.val.2.1,.string nv.val.2.2,.int .i64 nv.err] 351)))).below (aC HBW.o (aC HB9.o (aB w9 _))) hgr (lR _) (lT HSZ.o (lT HB9.o.size (by rw[World.size_alloc];exact Nat.le_succ _))));have HL10:=aA hl'.o;have hS10:=HBK.o w10 ((hgr.block bn (lL (aD HN9.o) (by rw[World.size_alloc];exact Nat.le_succ _)) HNG.o).trans (aE HN9.o (aB _ _)));clear hG hgr hat' hl')))
    have e10:l'.length=0+1:=by rw[HL10.o,aL,HLQ.o];rfl
    rw[e10] at HG10 ⊢;go_wp2;go_roundw
    case rel=>exact⟨k+1,0+1,A',c2,l',qo,e10.symm,qo,by go_num,rfl,aA (by rw[HL10.o];exact HR3.o),aA (by rw[HL10.o];exact HS3.o nv),HG10,HB10⟩
    case measure=>simp[intOf];omega
   .have HCUT:Hid (∀w',Below W.heap.size W w'->aM sG 5 351 w' w1.heap.size (fun _=>True) (.slice (some ⟨gs,0,none⟩) q j) (st.take q)):=aA (fun w' a=>(J.o.cut iG q (qA HM.o)).on iG a);by_cases aw:j=q
    .obtain rfl:q=j:=aw.symm;obtain rfl:q=m:=qA HM.o;have HT:Hid (∀w',Below W.heap.size W w'->aH sG w' (fun _=>True) (.slice (some ⟨gs,0,none⟩) 0 0) (st.drop q)):=aA (fun w' a=>by rw[List.drop_of_length_le (qA HM.o)];exact aH.nil);have HND2:Hid (∀w',Below W.heap.size W w'->Calls prog 270 #[.agg #[.int .i64 n.op,.int .i64 n.val.1,.int .i64 n.val.2.1,.string n.val.2.2,.int .i64 n.aC3.cat,.string n.aC3.name,.bool n.aC3.aDc],.slice (some ⟨gs,0,none⟩) 0 0,.slice E g.length gc] w' (fun e p=>∃f vc,e=.returned (.agg #[.slice f nv.bag.length vc,.int .i64 nv.val.1,.int .i64 nv.val.2.1,.string nv.val.2.2,.int .i64 nv.err])/\BJ p (fun b=>W.heap.size<=b) nv (.slice f nv.bag.length vc)/\Below w'.heap.size w' p)):=aA (fun w' a=>(HND.o _ _ w' (HT.o w' a) (HGG.o w' a)).mono (fun e p ⟨vb,he,h1,h2⟩=>by
      obtain⟨f,vc,rfl,_⟩:=h1.1.slice;exact⟨f,vc,he,⟨h1.1.more bG (fun b G=>lT a.size G),h1.2⟩,h2⟩))
     have Q:=aA (J.o.lt gs rfl);have HNG:Hid (some bn≠(Value.slice (some ⟨gs,0,none⟩) q q).ownBlock):=aA (fun e=>by
      have c:some bn=some gs:=e;injection c with c;have h1:=(A.o.lt gs rfl).2;have h2:=HBB.o;omega)
     have HY:Hid (∀w9 vb o,BJ w9 (fun b=>W.heap.size<=b) nv vb->BJ (w9.alloc o) (fun b=>True/\b<(w9.alloc o).heap.size/\some b≠(Value.slice (some ⟨gs,0,none⟩) q q).ownBlock) nv vb):=aA (fun w9 vb o h=>⟨((h.1.inb bG).on bG (aB w9 o)).more bG (fun b a=>⟨trivial,by rw[World.size_alloc];have:=a.2;omega,fun e=>by
      have c:some b=some gs:=e;injection c with c;have:=a.1;have:=Q.o.2;omega⟩),h.2⟩)
     exact QAk
    .have HT:Hid (∀w',Below W.heap.size W w'->aH sG w' (fun _=>True) (.slice (some ⟨gs,q * 5,none⟩) (m - q) (j - q)) (st.drop q)):=aA (fun w' a=>by have:=(J.o.on iG a).tail iG HST.o q (qA HM.o) (j - q);rwa [<-HM.o] at this);have HND2:Hid (∀w',Below W.heap.size W w'->Calls prog 270 #[.agg #[.int .i64 n.op,.int .i64 n.val.1,.int .i64 n.val.2.1,.string n.val.2.2,.int .i64 n.aC3.cat,.string n.aC3.name,.bool n.aC3.aDc],.slice (some ⟨gs,q * 5,none⟩) (m - q) (j - q),.slice E g.length gc] w' (fun e p=>∃f vc,e=.returned (.agg #[.slice f nv.bag.length vc,.int .i64 nv.val.1,.int .i64 nv.val.2.1,.string nv.val.2.2,.int .i64 nv.err])/\BJ p (fun b=>W.heap.size<=b) nv (.slice f nv.bag.length vc)/\Below w'.heap.size w' p)):=aA (fun w' a=>(HND.o _ _ w' (HT.o w' a) (HGG.o w' a)).mono (fun e p ⟨vb,he,h1,h2⟩=>by
      obtain⟨f,vc,rfl,_⟩:=h1.1.slice;exact⟨f,vc,he,⟨h1.1.more bG (fun b G=>lT a.size G),h1.2⟩,h2⟩))
     have Q:=aA (J.o.lt gs rfl);have HNG:Hid (some bn≠(Value.slice (some ⟨gs,0,none⟩) q j).ownBlock):=aA (fun e=>by
      have c:some bn=some gs:=e;injection c with c;have h1:=(A.o.lt gs rfl).2;have h2:=HBB.o;omega)
     have HY:Hid (∀w9 vb o,BJ w9 (fun b=>W.heap.size<=b) nv vb->BJ (w9.alloc o) (fun b=>True/\b<(w9.alloc o).heap.size/\some b≠(Value.slice (some ⟨gs,0,none⟩) q j).ownBlock) nv vb):=aA (fun w9 vb o h=>⟨((h.1.inb bG).on bG (aB w9 o)).more bG (fun b a=>⟨trivial,by rw[World.size_alloc];have:=a.2;omega,fun e=>by
      have c:some b=some gs:=e;injection c with c;have:=a.1;have:=Q.o.2;omega⟩),h.2⟩)
     exact QAk
  .have ay:¬(k:Int)<(l.length:Int):=qo;obtain rfl:k=l.length:=qo;have H:st=R:=by have:=K.o;rwa [List.drop_length] at this
   subst H;have al:=ag.o;obtain⟨x,rfl⟩:=List.length_eq_one_iff.1 al;obtain rfl:m=1:=hm;have Y:=A.o.sl qs (fun _=>True) (fun _ _ _=>trivial) (fun _ _ _=>trivial) iG;obtain⟨gs,go,rfl⟩:=AM Y qs;obtain⟨ba,bc,O,x1,x2,x3,x4,hp,av⟩:=tK (k:=0) Y qs;simp only[Nat.zero_mul,Nat.add_zero,List.getElem_cons_zero] at O x1 x2 x3 x4 hp;obtain⟨HP,af,B1⟩:=aY hp (aC B.o I.o) (aE s.o I.o);obtain⟨⟨u0,u1,u2⟩,_⟩:=cE B1.o;have zu:=aD B1.o;clear Y hp al K T A ag;go_wp2;go_region
   all_goals
    go_wp2;refine bR (.tuple #[.agg #[.int .i64 x.val.1,.int .i64 x.val.2.1,.string x.val.2.2],.int .i64 x.err]) ?_;rw[C.o];refine⟨rfl,HP.o.2.1,?_⟩
    first
     |exact(((af.o.setCell (lR _) _).setCell (lR _) _).setCell (lR _) _).drew
     |exact((af.o.drew.setCell (lR _) _).setCell (lR _) _).setCell (lR _) _
theorem Jt{ok ok':nP}(o:Value)(l:List No)(n:Value)(g:List Gv)(w:World)(m:aH JF w ok' o l)(h:aH jM w ok n g):Calls prog 233 #[o,n] w (aP (.int .i64 (tH g l:Nat)) w):=by
 have d:=aA (Dz o l n g w m h);obtain⟨J,gc,rfl,_⟩:=h.slice;obtain⟨la,lc,rfl,K⟩:=m.slice;unfold aP;unfold Ab at d;clear h m;by_cases i:l=[]
 .subst i;have b:Hid (tH g []=2):=aA (iP rfl);rw[b.o];clear d;go_enter func233,ntmps233;exact FR
 have L:((l.length:Int)==0)=false:=bN.2 (fun h=>i (List.eq_nil_of_length_eq_zero qo));have b:=aA (show tH g l=if (jG (nR g l).1 (nR g l).2).is 1=true then 2 else if (jG (nR g l).1 (nR g l).2).is 0=true then 0 else 1 from iN i);obtain⟨R,E⟩:∃R,tH g l=R:=⟨_,rfl⟩;rw[E] at b ⊢;clear i E;generalize nR g l=r at *;obtain⟨v,e⟩:=r;simp only at d b;have k:=aA (fun w'=>sZ none 0 0 [] v e 1 w');have j:=aA (fun w'=>sZ none 0 0 [] v e 0 w');unfold aP at k j;have D:(jG v e).is 1=It.is ⟨[],v,e⟩ 1:=rfl;have C:(jG v e).is 0=It.is ⟨[],v,e⟩ 0:=rfl;rw[D,C] at b;generalize It.is ⟨[],v,e⟩ 1=p at *;generalize It.is ⟨[],v,e⟩ 0=q at *;clear D C;unfold dA at d;go_enter func233,ntmps233;go_wp2_with fail;refine d.o.mono ?_;rintro e w1 ⟨rfl,_,a⟩;obtain⟨I,G,c⟩:=aY a (aC (aC a (aB w1 (.cells #[.int .i64 v.1,.int .i64 v.2.1,.string v.2.2] 44))) (aB _ (.cells #[.slice none 0 0,.int .i64 v.1,.int .i64 v.2.1,.string v.2.2,.int .i64 e] 351))) (aK (w1.alloc (.cells #[.int .i64 v.1,.int .i64 v.2.1,.string v.2.2] 44)) (.cells #[.slice none 0 0,.int .i64 v.1,.int .i64 v.2.1,.string v.2.2,.int .i64 e] 351) (w1.heap.size+1) qs);clear a d;go_wp2_with fail;refine(k.o _).mono ?_;rintro H w2 ⟨rfl,a⟩;have s:=qB G a;replace c:=qK c a;obtain⟨⟨x,y,z,A,B⟩,_⟩:=dL c.o;have F:=aD c.o;clear a k
 cases p
 .go_wp2_with fail;refine(j.o _).mono ?_;rintro H M ⟨rfl,a⟩;have t:=qB s a
  try clear x y z A B F
  replace c:=qK c a;obtain⟨⟨x,y,z,A,B⟩,_⟩:=dL c.o;have F:=aD c.o;clear a j
  cases q
  .have f:Hid (R=1):=b.o;go_wp2;go_returns;exact⟨by rw[f.o];rfl,t.o⟩
  .have f:Hid (R=0):=b.o;go_wp2;go_returns;exact⟨by rw[f.o];rfl,t.o⟩
 .have f:Hid (R=2):=b.o;go_wp2;go_returns;exact⟨by rw[f.o];rfl,s.o⟩
namespace Cm
section
variable {α:Type}
def qC(p:α->Bool)(l:List α)(k:Nat):Prop:=∀(i:Nat) (h:i<l.length),i<k->p l[i]=false
theorem GK(p:α->Bool)(l:List α):qC p l 0:=fun i h a=>by omega
theorem GL{p:α->Bool}{l:List α}{k:Nat}(h:qC p l k)(e:k<l.length)(hp:p l[k]=false):qC p l (k+1):=fun i a d=>by
 rcases Nat.lt_or_ge i k with b|c
 .exact h i a b
 .obtain rfl:i=k:=qo;exact hp
def rY(p:α->Bool)(l:List α):Int:=if l.findIdx p<l.length then (l.findIdx p:Int) else -1
theorem Ac{p:α->Bool}{l:List α}{k:Nat}(h:qC p l k)(a:k<l.length)(hp:p l[k]=true):rY p l=k:=by
 have:l.findIdx p=k:=(List.findIdx_eq a).2 ⟨hp,fun j hj=>h j qo hj⟩;unfold rY;rw[this,iP a]
theorem Pj{p:α->Bool}{l:List α}{k:Nat}(h:qC p l k)(a:k<l.length)(hp:p l[k]=true):l.find? p=some l[k]:=by
 rw[List.find?_eq_some_iff_getElem];exact⟨hp,k,a,rfl,fun j hj=>by rw[h j qo hj];rfl⟩
theorem Ea{p:α->Bool}{l:List α}(h:qC p l l.length):∀x∈l,p x=false:=fun x b=>by
 obtain⟨i,a,rfl⟩:=List.getElem_of_mem b;exact h i a a
theorem Pk{p:α->Bool}{l:List α}(h:qC p l l.length):rY p l= -1:=by
 have:l.findIdx p=l.length:=List.findIdx_eq_length_of_false (Ea h);unfold rY;rw[this,iN qo]
theorem PD(p:α->Bool)(l:List α):(∃k,∃h:k<l.length,rY p l=k/\p l[k]=true/\qC p l k)\/(rY p l= -1/\∀x∈l,p x=false):=by
 by_cases h:l.findIdx p<l.length
 .refine .inl ⟨l.findIdx p,h,by unfold rY;rw[iP h],List.findIdx_getElem,fun i c a=> ?_⟩;have:=(List.findIdx_eq (i:=l.findIdx p) (p:=p) h).1 rfl;exact this.2 i a
 .refine .inr ⟨by unfold rY;rw[iN h],fun x b=> ?_⟩;have:=List.findIdx_eq_length.1 (Nat.le_antisymm (List.findIdx_le_length) (Nat.not_lt.1 h));exact this x b
end
def pC(m:Nat×Nat):Bool:= !(m==(0,0))
def KU(m:Nat×Nat):Bool:=(m==(0,0))||(m==(4,0))||(m==(0,4))
def mE(k:Nat)(j m:Nat×Nat):Nat×Nat:=
 match k with
 |3=>bif j==(0,0) then m else j
 |4=>bif j==(0,0) then m else bif m==(0,0) then j else (2,2)
 |_=>wY j m
def yO(l:List (Nat×Nat)):Nat×Nat:=(l.find? pC).getD (0,0)
def AN(l:List (Nat×Nat)):Nat×Nat:=bif l.all KU then l.foldl (mE 4) (0,0) else (2,2)
def VA(m:Nat×Nat)(l:List (Nat×Nat)):Bool:=l.any (m== ·)
def pL(l:List (Nat×Nat))(m other:Nat×Nat):Nat×Nat:=bif VA other l then other else m
def fV(l:List (Nat×Nat)):Nat×Nat:=l.foldl wY (0,0)
def Yc(k:Nat)(l:List (Nat×Nat)):Nat×Nat:=
 match k with
 |1=>rT (fV l)
 |2=>qM (rT (qM (fV l)))
 |3=>yO l
 |4=>AN l
 |5=>pL l (0,4) (4,0)
 |_=>pL l (4,0) (0,4)
def DQ(l:List (Nat×Nat)):Prop:=∀m∈l,QP m
theorem DQ.at{l:List (Nat×Nat)}(h:DQ l){i:Nat}(a:i<l.length):QP l[i]:=h _ (List.getElem_mem a)
theorem MV{f:Nat×Nat->Nat×Nat->Nat×Nat}(c:∀a b,QP a->QP b->QP (f a b)):∀(l:List (Nat×Nat)) (a:Nat×Nat),QP a->DQ l->QP (l.foldl f a)
 | [],_,ha,_=>ha
 |m::l,a,ha,h=>MV c l _ (c _ _ ha (h _ (List.mem_cons_self ..))) fun x d=>h x (List.mem_cons_of_mem _ d)
theorem QP.zero:QP (0,0):=⟨qe,qe⟩
theorem QP.half:QP (2,2):=⟨qe,qe⟩
theorem Ve(k:Nat){j m:Nat×Nat}(hj:QP j)(hm:QP m):QP (mE k j m):=by
 unfold mE;split
 .cases (j==(0,0))<;>assumption
 .cases (j==(0,0))
  .cases (m==(0,0))
   .exact QP.half
   .exact hj
  .exact hm
 .exact hj.join hm
theorem VB{l:List (Nat×Nat)}(h:DQ l):QP (fV l):=MV (fun _ _=>QP.join) l _ QP.zero h
theorem PE{β:Type}(f:β->Nat×Nat->β)(a:β)(l:List (Nat×Nat))(k:Nat)(b:k<l.length):(l.take (k+1)).foldl f a=f ((l.take k).foldl f a) l[k]:=by
 rw[List.take_succ_eq_append_getElem b,List.foldl_append];rfl
theorem YD(m:Nat×Nat)(hm:QP m)(w:World):Calls prog 274 #[.complex .f64 (qb m.1) (qb m.2)] w fun e w'=>e=.returned (.bool (pC m))/\w=w':=
 TU _ _ (m==(0,0)) w (iS m.1 m.2 0 0 hm qe qe)
theorem Pl(m:Nat×Nat)(hm:QP m)(w:World):Calls prog 275 #[.complex .f64 (qb m.1) (qb m.2)] w fun e w'=>e=.returned (.bool (KU m))/\w=w':=
 Hq _ _ _ _ _ w (iS m.1 m.2 0 0 hm qe qe) (iS m.1 m.2 4 0 hm qe qe) (iS m.1 m.2 0 4 hm qe qe)
theorem IV(k:Nat)(h1:1<=k)(h6:k<=6)(j m:Nat×Nat)(hj:QP j)(hm:QP m)(w:World):
 Calls prog 276 #[.int .i64 k,.complex .f64 (qb j.1) (qb j.2),.complex .f64 (qb m.1) (qb m.2)] w fun e w'=>e=.returned (.complex .f64 (qb (mE k j m).1) (qb (mE k j m).2))/\w=w':=by
 obtain rfl|rfl|rfl|rfl|rfl|rfl:k=1\/k=2\/k=3\/k=4\/k=5\/k=6:=qo
 .exact xA 1 qo _ _ _ _ _ _ w (vZ j m hj hm)
 .exact xA 2 qo _ _ _ _ _ _ w (vZ j m hj hm)
 .have h:=Ck _ _ (qb m.1) (qb m.2) _ w (iS j.1 j.2 0 0 hj qe qe);refine h.mono fun e w' a=>⟨a.1.trans ?_,a.2⟩
  unfold mE;show Ending.returned (bif (j==(0,0)) then _ else _)=_
  cases (j==(0,0))<;>rfl
 .have h:=Hr _ _ (qb m.1) (qb m.2) _ _ w (iS j.1 j.2 0 0 hj qe qe) (iS m.1 m.2 0 0 hm qe qe);refine h.mono fun e w' a=>⟨a.1.trans ?_,a.2⟩
  unfold mE;show Ending.returned (bif (j==(0,0)) then _ else bif (m==(0,0)) then _ else _)=_
  cases (j==(0,0))<;>cases (m==(0,0))<;>rfl
 .exact xA 5 qo _ _ _ _ _ _ w (vZ j m hj hm)
 .exact xA 6 qo _ _ _ _ _ _ w (vZ j m hj hm)
end Cm
end Go.Proofs.YtlfngkelmbdehaaGreatDoor
