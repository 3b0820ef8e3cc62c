/- Part 38. -/
import Derived.Test.YtejafaaihodehaaGreatDoorZ17
import Derived.Test.YtejafaaihodehaaGreatDoorZ37
import Derived.Lib.SplitLaws
set_option linter.all false
set_option maxRecDepth 100000
set_option maxHeartbeats 8000000
namespace Go.Proofs.YtejafaaihodehaaGreatDoor
open Go Go.RowKit Tryz
def jk(s:Bt)(b:UInt8):List ByteArray:=Lib.splitB ⟨#[b]⟩ 0 (Lib.countB (bs s) ⟨#[b]⟩) (bs s)
def fT(s:Bt)(b:UInt8):List Bt:=((jk s b).map L).filter (fun p=>!p.isEmpty)
theorem Hc(B5:ByteArray):∀(k:Nat) (s x:ByteArray),x∈Lib.splitB B5 0 k s->x.size<=s.size
 |0,s,x,h=>by
  rw[Lib.splitB_zero,aV]at h;rw[h];exact dv _
 |k+1,s,x,h=>by
  unfold Lib.splitB at h;split at h
  ·rw[aV]at h;rw[h];exact dv _
  ·rcases List.mem_cons.1 h with h|h
   ·rw[h,aA];omega
   ·have:=Hc B5 k _ x h;rw[aA]at this;omega
theorem Hd{s:Bt}{b:UInt8}{x:ByteArray}(h:x∈jk s b):x.size<=s.length:=by
 have:=Hc _ _ _ _ h
 rwa [bJ]at this
theorem sW(s:Bt)(b:UInt8):(jk s b).length=Lib.countB (bs s) ⟨#[b]⟩+1/\(jk s b).length<=s.length+1:=by
 have h1:=Lib.splitB_all ⟨#[b]⟩ (show 1<=1 from dv 1) 0 _ (bs s) rfl;have h2:=Lib.countB_le ⟨#[b]⟩ (show 1<=1 from dv 1) _ (bs s) (dv _);rw[bJ]at h2;refine⟨h1,?_⟩;unfold jk;omega
structure uU(w0 w1 W:World)(g:Nat)(t e:TypeId)(sz:Nat)(l:List GV):Prop where
 cap:∃v,bL W g t #[v]/\b8 W w1.heap.size e sz (fun _=>False) v l/\v.ownBlock≠some g
 below:Below w0.heap.size w0 W
 grown:w1.grownBy W (some g)
 hg:w0.heap.size<=g/\g<w1.heap.size
section
variable {w0 w1 W W':World} {g:Nat} {t e:TypeId} {sz:Nat} {l:List GV}
theorem uU.later(h:uU w0 w1 W g t e sz l)(hb:Below W.heap.size W W'):uU w0 w1 W' g t e sz l:=by
 obtain⟨v,h1,h2,h3⟩:=h.cap;exact⟨⟨v,h1.below hb h1.lt,b8.below h2 hb,h3⟩,h.below.trans (hb.mono h.below.size),kI h.grown hb,h.hg⟩
theorem uU.store{v v':Value}{X:World}{l':List GV}(h:uU w0 w1 W g t e sz l)(hv:bL W g t #[v])(ho:b8 W w1.heap.size e sz (fun _=>False) v l)(db:v.ownBlock≠some g)
 (h1:b8 X w1.heap.size e sz (fun _=>False) v' l') (h2:W.grownBy X v.ownBlock) (h3:v'.ownBlock=v.ownBlock\/v'.ownBlock=some W.heap.size):bL X g t #[v]/\uU w0 w1 (X.setCell ⟨g,0,none⟩ v') g t e sz l':=by
 have hX:=hv.grown h2 (fun e=>db e.symm);have lQ:=h.grown.size;have CY:v'.ownBlock≠some g:=by
  rcases h3 with h3|h3
  ·rw[h3];exact db
  ·rw[h3];intro e;have e:=ar e;have:=h.hg.2;omega
 have cO:X.grownBy (X.setCell ⟨g,0,none⟩ v') (some g):=bF (bR _ _) (.inl rfl) _;refine⟨hX,⟨v',hX.cL 0 _,b8.kept h1 cO (.inr CY) (fun _ e=>e.elim),CY⟩,?_,?_,h.hg⟩
 ·have SL:=h.below.size;have hh:=h.hg.1;have hx:=h2.size;refine(h.below.trans (bN h2 SL (fun k hk=>?_))).trans (bN cO (by omega) (fun k hk=>?_))
  ·have:=(b8.lt ho k hk).1;have:=h.hg;omega
  ·have hk:g=k:=ar hk;omega
 ·refine dR (dR h.grown h2 (fun k hk=>.inr (b8.lt ho k hk).1)) cO (fun k hk=>.inl hk)
end
def Jp(w0 w1:World)(g:Nat)(t e:TypeId)(sz:Nat)(l:List GV)(x:Ending)(W:World):Prop:=x=.returned (.tuple #[])/\uU w0 w1 W g t e sz l
def Jq{α:Type}(step:List α->Bt->List α)(gv:α->GV)(F:Nat)(t e:TypeId)(sz:Nat)(n:Nat)(w0 w1:World)(g:Nat):Prop:=
 ∀(l:List α) (p:Bt) (W:World),l.length<=n->p.length<=n->p≠[]->uU w0 w1 W g t e sz (l.map gv)->
  Calls prog F #[.string (bs p),.pointer (some ⟨g,0,none⟩)] W (Jp w0 w1 g t e sz ((step l p).map gv))
theorem rR{α:Type}{step:List α->Bt->List α}(h:∀l p,(step l p).length<=l.length+1):∀(m:List Bt) (l:List α),(m.foldl step l).length<=l.length+m.length
 |[],l=>by simp
 |p::m,l=>by
  have h1:=rR h m (step l p);have h2:=h l p;rw[List.foldl_cons,ak];omega
def RQ(w0:World)(g:Nat)(t e:TypeId)(sz:Nat)(l:List GV)(x:Ending)(w':World):Prop:=x=.returned (.tuple #[])/\∃w1,uU w0 w1 w' g t e sz l
def nh(P:List ByteArray):List Bt:=(P.map L).filter (fun p=>!p.isEmpty)
theorem RS(P:List ByteArray)(x:ByteArray):nh (P++[x])=nh P++(if L x=[]then[]else[L x]):=by
 unfold nh;rw[aK,List.filter_append,List.map_cons,List.map_nil];congr 1;by_cases h:L x=[]
 ·rw[ae h,h];rfl
 ·rw[aa h];cases hx:L x with
  |nil=>exact aX hx h
  |cons a l=>rfl
theorem za(P:List ByteArray):(nh P).length<=P.length:=by
 unfold nh;refine au (List.length_filter_le _ _) ?_;rw[ah];exact dv _
theorem uV{α:Type}(step:List α->Bt->List α)(gv:α->GV)(F:Nat)(t e:TypeId)(sz:Nat)(s:Bt)(b:UInt8)(w0 w:World)(g n:Nat)(hs:s.length<n)(hn:n<=10000)(hg:eK w)
 (ni:∀(args:Array Value) (W:World),(callFunc F args).run prog W=.ok (.enter F args) W) (fH:∀l p,(step l p).length<=l.length+1)
 (sJ:bL w g t #[.slice none 0 0]) (QS:Below w0.heap.size w0 w) (PA:w0.heap.size<=g) (mJ:∀w1,Below w.heap.size w w1->Jq step gv F t e sz n w0 w1 g):
 Calls prog 218 #[.string (bs s),.string ⟨#[b]⟩,.func (.func F) #[] #[.pointer (some ⟨g,0,none⟩)]] w (RQ w0 g t e sz (((fT s b).foldl step []).map gv)):=by
 obtain⟨m,hm⟩:=hg.1;have HSP:=bD (strings_Split (bs s) ⟨#[b]⟩ m w (by rw[bJ];omega) hm (show 1<=1 from dv 1));obtain⟨VO,Io⟩:=sW s b;have al9:∀x∈jk s b,x.size<=s.length:=fun x hx=>Hd hx;have HPF:Hy (fT s b=nh (jk s b)):=rfl;have HSP:Hy (Calls prog 241 #[.string (bs s),.string ⟨#[b]⟩] w fun e w'=>
  e=.returned (.slice (some ⟨w.heap.size,0,none⟩) (jk s b).length (jk s b).length)/\w'=w.alloc (.cells ((jk s b).map Value.string).toArray 9)):=by
  rw[Hy,VO];exact HSP.o
 generalize fT s b=PF at*;generalize jk s b=P at*;have hP1:P.length<=n:=by omega
 have aw0:=bD al9;have Fa:=bD ni;have VT:=bD (fun m=>rR fH m []);have hB:=bL.new w 9 (P.map Value.string).toArray;have cg:Below w.heap.size w (w.alloc (.cells (P.map Value.string).toArray 9)):=cU _ _;have HB:=bD hB;have ZR:Hy (uU w0 (w.alloc (.cells (P.map Value.string).toArray 9)) (w.alloc (.cells (P.map Value.string).toArray 9)) g t e sz []):=
  ⟨⟨_,sJ.alloc _,b8.nil _ _ _ _ _,fun e=>by cases e⟩,QS.trans (cg.mono QS.size),bR _ _,PA,by rw[size_alloc];have:=sJ.lt;omega⟩
 have CH:Hy (g<w.heap.size):=sJ.lt;have sk:=bD (mJ _ cg);clear VO Io al9 ni fH hB cg sJ QS PA mJ hm hg;go_enter func218,ntmps218;go_wp2_with fail;refine HSP.o.mono ?_;rintro e1 w1 ⟨rfl,rfl⟩;generalize jz:w.alloc (.cells (P.map Value.string).toArray 9)=w1 at*;have J6:=bD jz;clear jz HSP;go_wp2_with fail;go_loopw [7,12] (fun _ i wr=>∃k:Nat,k<=P.length/\i=.int .i64 k/\Hy (uU w0 w1 wr g t e sz (((nh (P.take k)).foldl step []).map gv)))
  (fun _ i wr=>P.length-(intOf i).toNat)
 case atStart=>exact⟨0,ax _,rfl,by rw[List.take_zero];exact ZR.o⟩
 case round=>
  clear ZR;obtain⟨k,hk,rfl,HC⟩:=hrel;by_cases bW:k<P.length
  ·have i0:(0:Int)<=(k:Int):=by omega
   have i1:(k:Int)<(P.length:Int):=by omega
   obtain⟨q,hq⟩:∃q,q=L P[k]:=⟨_,rfl⟩;have xo:P[k]=bs q:=by rw[hq,qo]
   have hc:=(HB.o.grown HC.o.grown (by have:=CH.o;simp;omega)).cell k;rw[show((P.map Value.string).toArray)[k]?=some (.string (bs q))from by simp[bW,xo]]at hc;have hql:q.length<=s.length:=by rw[hq,<-cm];exact aw0.o _ (List.getElem_mem bW)
   have HT:Hy (nh (P.take (k+1))=nh (P.take k)++(if q=[]then[]else[q])):=by
    rw[Hy,aC bW,RS,<-hq]
   have hll:((nh (P.take k)).foldl step []).length<=n:=by
    have h1:=VT.o (nh (P.take k));have h2:=za (P.take k);rw[ay]at h2;simp only[aD]at h1;omega
   have M8:Hy (((nh (P.take (k+1))).foldl step [])=(if q=[]then((nh (P.take k)).foldl step [])else step ((nh (P.take k)).foldl step []) q)):=by
    rw[Hy,HT.o,List.foldl_append];split
    ·rfl
    ·rfl
   obtain⟨l',hl'⟩:∃l',l'=(nh (P.take (k+1))).foldl step []:=⟨_,rfl⟩;rw[<-hl']at M8;have YD:=bD hl';clear hl';generalize(nh (P.take k)).foldl step []=l at*;have QF:=bD hll;have HQL:=bD hql;clear hll hql hq xo HT;by_cases hq0:q=[]
   ·obtain⟨e1,e2⟩:=fE hq0;have qq:Hy (l'=l):=by rw[Hy,M8.o,ae hq0]
    clear hq0 M8;go_wp2_with fail;go_roundw
    case rel=>exact⟨k+1,bW,by go_num,by rw[<-YD.o,qq.o];exact HC.o⟩
    case measure=>simp[intOf];omega
   ·obtain⟨e1,e2⟩:=gT hq0;have qq:Hy (l'=step l q):=by rw[Hy,M8.o,aa hq0]
    have HK:=bD (sk.o l q wr QF.o (by have:=HQL.o;omega) hq0 HC.o);have am0:=Fa.o;clear hq0 M8 HC;go_wp2_with fail;refine HK.o.mono ?_;rintro e1 w2 ⟨rfl,nC⟩;have J1:=bD nC;clear nC;go_wp2_with fail;go_roundw
    case rel=>exact⟨k+1,bW,by go_num,by rw[<-YD.o,qq.o];exact J1.o⟩
    case measure=>simp[intOf];omega
  ·have ln:k=P.length:=by omega
   subst ln;rw[aM]at HC;go_wp2_with fail;refine ag (results_none rfl _ _ _) rfl ?_;exact⟨rfl,w1,by rw[HPF.o];exact HC.o⟩
def iK(l:List bY)(p:Bt):List bY:=l++[⟨mv (Lib.cut p [61]).1,mv (Lib.cut p [61]).2.1⟩]
def aw1(W:World)(base:Nat)(v:Value)(o:List bY):Prop:=b8 W base 156 2 (fun _=>False) v (o.map bY.gv)
theorem uW{W:World}{base N:Nat}{v:Value}{o:List bY}(ho:aw1 W base v o)(hb:base<=W.heap.size)(hN:N=o.length)(fH:o.length<=99999)(p:bY):
 tm (W.alloc (.cells #[.string (bs p.name),.string (bs p.value)] 156)) base 156 2 32 (fun _=>False) v (o.map bY.gv) (some ⟨W.heap.size,0,none⟩) 1 [p.gv] [.string (bs p.name),.string (bs p.value)] (N+1):=by
 subst hN;have key:=tm.sE (bytes:=32) (size:=2) (x:=p.gv) (b8.below ho (cU _ (.cells #[.string (bs p.name),.string (bs p.value)] 156))) (bL.new W 156 [.string (bs p.name),.string (bs p.value)].toArray) (xf p) rfl (by rw[ah];omega) (by omega) (by rw[size_alloc];omega);rw[ah]at key;exact key
theorem uU.pP{w0 w1 W:World}{g:Nat}{t e:TypeId}{sz:Nat}{l:List GV}(h:uU w0 w1 W g t e sz l)(hg:eK w0):eK W:=hg.below h.below
theorem Jr(n:Nat)(hn:n<=10000)(w0 w1:World)(g:Nat)(PA:eK w0):Jq iK bY.gv 222 73 156 2 n w0 w1 g:=by
 intro l p W hl hp db hC;obtain⟨v,hB,hO,Qf⟩:=hC.cap;obtain⟨Ao,co,rfl⟩:=b8.form hO;rw[ah]at hB hO Qf;have kz:Hy (Jp w0 w1 g 73 156 2 ((iK l p).map bY.gv)=Jp w0 w1 g 73 156 2 (l.map bY.gv++[bY.gv ⟨mv (Lib.cut p [61]).1,mv (Lib.cut p [61]).2.1⟩])):=by
  rw[Hy,iK,aK];rfl
 obtain⟨N,hN⟩:∃N,N=l.length:=⟨_,rfl⟩;rw[<-hN]at hB hO Qf;have HN:=bD hN;have PH:=bD (jT (bs p) [61] (by rw[bJ];omega) W (hC.pP PA));have Xl:=bD (je p [61]);rw[eB]at PH;have HB:=bD hB;have HO:=bD hO;have HVG:=bD Qf;have HC:=bD hC;have Fi:=bD (show p.length<=10000 by omega);have SI:=bD (show l.length<=10000 by omega);clear hN hB hO Qf hC hl hp db;rw[kz.o];clear kz;go_enter func222,ntmps222;go_wp2_with fail;refine PH.o.mono ?_;rintro e w2 ⟨a,b,f,d,rfl,zK,oM⟩;have cu:Below W.heap.size W w2:=by rw[oM];exact⟨rfl,rfl,rfl,dv _,fun _ _=>rfl⟩
 have HA1:Hy ((Lib.cut p [61]).1=a/\(Lib.cut p [61]).2.1=b):=by rw[Hy,zK.o];exact⟨rfl,rfl⟩
 have OE:Hy (mv (Lib.cut p [61]).1=mv a):=by rw[Hy,HA1.o.1]
 have S4:Hy (mv (Lib.cut p [61]).2.1=mv b):=by rw[Hy,HA1.o.2]
 have cg:a.length<=10000:=by have:=Xl.o.1;have h2:=Fi.o;rw[HA1.o.1]at this;omega
 have mP:b.length<=10000:=by have:=Xl.o.2;have h2:=Fi.o;rw[HA1.o.2]at this;omega
 have GL:=bD (fun w=>yX (bs a) w (by rw[bJ];omega));have Y0:=bD (fun w=>yX (bs b) w (by rw[bJ];omega));rw[eB]at GL Y0;generalize mv a=X at*;generalize mv b=Y at*;have wB:=bD cu;clear oM cu cg mP zK HA1 PH Xl;go_upto_region 1 with(fail)
 have dh:w2.drew.cell? ⟨g,0,none⟩=some (.slice Ao N co):=(HB.o.below wB.o HB.o.lt).cell 0;refine aL (S:=(fun _=>True)) (by kernel_rfl) ?_;change wpAnyH _ _ _ _ _ _ _ _ (World.drew _);refine dB 1 trivial ?_;refine dB 3 trivial ?_;refine bC (rs:=[0,2]) (by kernel_rfl) (by simp) ?_;refine AllReadyH.cons rfl (fun K_ bP=>?_) (AllReadyH.cons rfl (fun K_ bP=>?_) AllReadyH.nil)
 ·go_simp;refine bP.out _ _ trivial fun _=>?_;clear bP K_;refine fr 2 (fun K_ bP=>?_);go_simp;refine(GL.o _).mono ?_;rintro e w3 ⟨rfl,fm⟩;have fm:Below W.heap.size W w3:=wB.o.drew.trans (fm.mono wB.o.size);have gI:=bD fm;have wz:w3.cell? ⟨g,0,none⟩=some (.slice Ao N co):=(HB.o.below fm HB.o.lt).cell 0;clear fm dh;refine bP.out _ _ trivial fun _=>?_;clear bP K_;refine fr 4 (fun K_ bP=>?_);go_simp;refine(Y0.o _).mono ?_;rintro e w4 ⟨rfl,eY⟩;have eY:Below W.heap.size W w4:=gI.o.trans (eY.mono gI.o.size);have iW:=bD eY;have ki:w4.cell? ⟨g,0,none⟩=some (.slice Ao N co):=(HB.o.below eY HB.o.lt).cell 0;clear eY wz;refine bP.out _ _ trivial fun _=>?_;clear bP K_;refine dB 5 trivial ?_;refine fr 6 (fun K_ bP=>?_);go_simp;have pe:(w4.alloc (.cells #[.string (bs X),.string (bs Y)] 156)).cell? ⟨g,0,none⟩=some (.slice Ao N co):=((HB.o.below iW.o HB.o.lt).alloc _).cell 0;refine bP.out _ _ trivial fun _=>?_;clear bP K_;refine fr 7 (fun K_ bP=>?_);have HA:=bD (uW (b8.below HO.o iW.o) (au HC.o.grown.size iW.o.size) HN.o (by have:=SI.o;omega) ⟨X,Y⟩);refine HA.o.step (by rfl) _ _ _ (by rfl) sw (by rfl) (by rfl) ?_;intro A6 c6 w6 bZ cO fG;have UM:=(HC.o.later iW.o).later (cU w4 (.cells #[.string (bs X),.string (bs Y)] 156));obtain⟨Fb,UN⟩:=UM.store ((HB.o.below iW.o HB.o.lt).alloc _) (b8.below (b8.below HO.o iW.o) (cU _ _)) HVG.o bZ cO fG;have UO:=bD UN;have x6:=Fb.cell 0;have z6:=Fb.frozen 0;clear bZ cO fG UM UN;refine bP.out _ _ trivial fun _=>?_;clear bP K_;refine fr 8 (fun K_ bP=>?_);go_simp;refine bP.out _ _ trivial fun _=>?_;clear bP K_;refine aJ (by kernel_rfl) ?_ _;go_wp2_with fail;refine ag (results_none rfl _ _ _) rfl ?_;exact⟨rfl,by rw[OE.o,S4.o];exact UO.o⟩
 ·go_simp;refine(GL.o _).mono ?_;rintro e w3 ⟨rfl,fm⟩;have fm:Below W.heap.size W w3:=wB.o.drew.trans (fm.mono wB.o.size);have gI:=bD fm;have wz:w3.cell? ⟨g,0,none⟩=some (.slice Ao N co):=(HB.o.below fm HB.o.lt).cell 0;clear fm dh;refine bP.out _ _ trivial fun _=>?_;clear bP K_;refine bC (rs:=[0,4]) (by kernel_rfl) (by simp) ?_;refine AllReadyH.cons rfl (fun K_ bP=>?_) (AllReadyH.cons rfl (fun K_ bP=>?_) AllReadyH.nil)
  ·go_simp;refine bP.out _ _ trivial fun _=>?_;clear bP K_;refine fr 4 (fun K_ bP=>?_);go_simp;refine(Y0.o _).mono ?_;rintro e w4 ⟨rfl,eY⟩;have eY:Below W.heap.size W w4:=gI.o.trans (eY.mono gI.o.size);have iW:=bD eY;have ki:w4.cell? ⟨g,0,none⟩=some (.slice Ao N co):=(HB.o.below eY HB.o.lt).cell 0;clear eY wz;refine bP.out _ _ trivial fun _=>?_;clear bP K_;refine dB 5 trivial ?_;refine fr 6 (fun K_ bP=>?_);go_simp;have pe:(w4.alloc (.cells #[.string (bs X),.string (bs Y)] 156)).cell? ⟨g,0,none⟩=some (.slice Ao N co):=((HB.o.below iW.o HB.o.lt).alloc _).cell 0;refine bP.out _ _ trivial fun _=>?_;clear bP K_;refine fr 7 (fun K_ bP=>?_);have HA:=bD (uW (b8.below HO.o iW.o) (au HC.o.grown.size iW.o.size) HN.o (by have:=SI.o;omega) ⟨X,Y⟩);refine HA.o.step (by rfl) _ _ _ (by rfl) sw (by rfl) (by rfl) ?_;intro A6 c6 w6 bZ cO fG;have UM:=(HC.o.later iW.o).later (cU w4 (.cells #[.string (bs X),.string (bs Y)] 156));obtain⟨Fb,UN⟩:=UM.store ((HB.o.below iW.o HB.o.lt).alloc _) (b8.below (b8.below HO.o iW.o) (cU _ _)) HVG.o bZ cO fG;have UO:=bD UN;have x6:=Fb.cell 0;have z6:=Fb.frozen 0;clear bZ cO fG UM UN;refine bP.out _ _ trivial fun _=>?_;clear bP K_;refine fr 8 (fun K_ bP=>?_);go_simp;refine bP.out _ _ trivial fun _=>?_;clear bP K_;refine aJ (by kernel_rfl) ?_ _;go_wp2_with fail;refine ag (results_none rfl _ _ _) rfl ?_;exact⟨rfl,by rw[OE.o,S4.o];exact UO.o⟩
  ·go_simp;refine(Y0.o _).mono ?_;rintro e w4 ⟨rfl,eY⟩;have eY:Below W.heap.size W w4:=gI.o.trans (eY.mono gI.o.size);have iW:=bD eY;have ki:w4.cell? ⟨g,0,none⟩=some (.slice Ao N co):=(HB.o.below eY HB.o.lt).cell 0;clear eY wz;refine bP.out _ _ trivial fun _=>?_;clear bP K_;refine dB 5 trivial ?_;refine bC (rs:=[0,6]) (by kernel_rfl) (by simp) ?_;refine AllReadyH.cons rfl (fun K_ bP=>?_) (AllReadyH.cons rfl (fun K_ bP=>?_) AllReadyH.nil)
   ·go_simp;refine bP.out _ _ trivial fun _=>?_;clear bP K_;refine fr 6 (fun K_ bP=>?_);go_simp;have pe:(w4.alloc (.cells #[.string (bs X),.string (bs Y)] 156)).cell? ⟨g,0,none⟩=some (.slice Ao N co):=((HB.o.below iW.o HB.o.lt).alloc _).cell 0;refine bP.out _ _ trivial fun _=>?_;clear bP K_;refine fr 7 (fun K_ bP=>?_);have HA:=bD (uW (b8.below HO.o iW.o) (au HC.o.grown.size iW.o.size) HN.o (by have:=SI.o;omega) ⟨X,Y⟩);refine HA.o.step (by rfl) _ _ _ (by rfl) sw (by rfl) (by rfl) ?_;intro A6 c6 w6 bZ cO fG;have UM:=(HC.o.later iW.o).later (cU w4 (.cells #[.string (bs X),.string (bs Y)] 156));obtain⟨Fb,UN⟩:=UM.store ((HB.o.below iW.o HB.o.lt).alloc _) (b8.below (b8.below HO.o iW.o) (cU _ _)) HVG.o bZ cO fG;have UO:=bD UN;have x6:=Fb.cell 0;have z6:=Fb.frozen 0;clear bZ cO fG UM UN;refine bP.out _ _ trivial fun _=>?_;clear bP K_;refine fr 8 (fun K_ bP=>?_);go_simp;refine bP.out _ _ trivial fun _=>?_;clear bP K_;refine aJ (by kernel_rfl) ?_ _;go_wp2_with fail;refine ag (results_none rfl _ _ _) rfl ?_;exact⟨rfl,by rw[OE.o,S4.o];exact UO.o⟩
   ·go_simp;have pe:(w4.alloc (.cells #[.string (bs X),.string (bs Y)] 156)).cell? ⟨g,0,none⟩=some (.slice Ao N co):=((HB.o.below iW.o HB.o.lt).alloc _).cell 0;refine bP.out _ _ trivial fun _=>?_;clear bP K_;refine fr 0 (fun K_ bP=>?_);go_simp;refine bP.out _ _ trivial fun _=>?_;clear bP K_;refine fr 7 (fun K_ bP=>?_);have HA:=bD (uW (b8.below HO.o iW.o) (au HC.o.grown.size iW.o.size) HN.o (by have:=SI.o;omega) ⟨X,Y⟩);refine HA.o.step (by rfl) _ _ _ (by rfl) sw (by rfl) (by rfl) ?_;intro A6 c6 w6 bZ cO fG;have UM:=(HC.o.later iW.o).later (cU w4 (.cells #[.string (bs X),.string (bs Y)] 156));obtain⟨Fb,UN⟩:=UM.store ((HB.o.below iW.o HB.o.lt).alloc _) (b8.below (b8.below HO.o iW.o) (cU _ _)) HVG.o bZ cO fG;have UO:=bD UN;have x6:=Fb.cell 0;have z6:=Fb.frozen 0;clear bZ cO fG UM UN;refine bP.out _ _ trivial fun _=>?_;clear bP K_;refine fr 8 (fun K_ bP=>?_);go_simp;refine bP.out _ _ trivial fun _=>?_;clear bP K_;refine aJ (by kernel_rfl) ?_ _;go_wp2_with fail;refine ag (results_none rfl _ _ _) rfl ?_;exact⟨rfl,by rw[OE.o,S4.o];exact UO.o⟩
def sX(s:Bt):List bY:=(fT s 38).foldl iK []
def pw(w:World)(l:List GV)(sz:Nat)(e:Ending)(w':World):Prop:=(∃v,e=.returned v/\GR w' (fun k=>w.heap.size<=k) (.row sz l) [v])/\Below w.heap.size w w'
theorem uU.fin{w0 w1 W:World}{g:Nat}{t e:TypeId}{sz:Nat}{l:List GV}(h:uU w0 w1 W g t e sz l):∃v,W.cell? ⟨g,0,none⟩=some v/\GR W (fun k=>w0.heap.size<=k) (.row sz l) [v]/\Below w0.heap.size w0 W:=by
 obtain⟨v,h1,h2,h3⟩:=h.cap;have hg:=h.hg;exact⟨v,h1.cell 0,b8.gr h2 (fun _ e=>e.elim) (fun k hk=>by have:=(b8.lt h2 k hk).1;omega),h.below⟩
theorem LX(s:Bt)(hs:s.length<=9999)(w:World)(hg:eK w):Calls prog 194 #[.string (bs s)] w (pw w ((sX s).map bY.gv) 2):=by
 have cg:Below w.heap.size w (w.alloc (.cells #[.slice none 0 0] 73)):=cU _ _;have hX:=bL.new w 73 #[.slice none 0 0];have HP:=bD (uV iK bY.gv 222 73 156 2 s 38 w _ w.heap.size 10000 (by omega) (dv _) (hg.below cg) (fun _ _=>by kernel_rfl)
  (fun l p=>by rw[iK,af];exact dv _) hX cg (dv _) (fun w1 _=>Jr 10000 (dv _) w w1 w.heap.size hg))
 have HR:Hy (pw w ((sX s).map bY.gv) 2=pw w (((fT s 38).foldl iK []).map bY.gv) 2):=rfl;clear cg hX;rw[HR.o];generalize((fT s 38).foldl iK []).map bY.gv=R at*;clear HR;go_enter func194,ntmps194;go_wp2_with fail;refine HP.o.mono ?_;rintro e w2 ⟨rfl,w1,hc⟩;obtain⟨v,hv,cO,hb⟩:=hc.fin;obtain⟨A,c,xs,h1,-⟩:=jR.1 cO;simp only[List.cons.injEq,and_true]at h1;subst h1;have tV:=bD cO;have HB:=bD hb;clear cO hb hc;go_wp2_with fail;go_ret;exact⟨⟨_,rfl,tV.o⟩,HB.o⟩
theorem RT(l:List Bt)(x:Bt):Lib.containsS (l.map bs) (bs x)=l.contains x:=by
 rw[bj,Lib.containsS_iff,List.contains_iff_mem,List.mem_map];exact⟨fun⟨y,h1,h2⟩=>by rw[<-Zf.1 h2];exact h1,fun h=>⟨x,h,rfl⟩⟩
theorem qd(l:List Bt)(v:Value)(F:Nat->Prop)(x:Bt)(w:World)(hl:l.length<=100000)(hv:GR w F (.row 1 (l.map .str)) [v]):
 Calls prog 196 #[v,.string (bs x)] w fun e w'=>e=.returned (.bool (l.contains x))/\w'=w:=by
 obtain⟨A,c,rfl,h1,h2,h3⟩:=RI hv;by_cases h0:l=[]
 ·subst h0;exact slices_Contains_string_empty A c (bs x) w
 ·obtain⟨b,o,rfl,-,hc⟩:=h3 h0;have h:=slices_Contains_string b o l.length c (l.map bs) (bs x) w (by rw[ah];exact dv _) (by omega) (fun j hj=>by
   have hj:j<l.length:=by rwa [ah]at hj
   rw[hc j hj,List.getD_eq_getElem?_getD,List.getElem?_map,aB hj];rfl)
  rw[aO (by rw[ah];exact dv _),RT]at h;exact h
def gl(l:List bY)(p:Bt):List bY:=
 if(Lib.cut (fu p) [61]).2.2=false\/fu (Lib.cut (fu p) [61]).1=[]then l
 else l++[⟨fu (Lib.cut (fu p) [61]).1,if(jE (fu (Lib.cut (fu p) [61]).2.1)).2=0 then(jE (fu (Lib.cut (fu p) [61]).2.1)).1 else fu (Lib.cut (fu p) [61]).2.1⟩]
theorem FX{l:List bY}{p a b:Bt}{f:Bool}(h:Lib.cut (fu p) [61]=(a,b,f)):gl l p=
 if f=false\/fu a=[]then l else l++[⟨fu a,if(jE (fu b)).2=0 then(jE (fu b)).1 else fu b⟩]:=by
 unfold gl;rw[h]
theorem uX(l:List bY)(p:Bt):(gl l p).length<=l.length+1:=by
 unfold gl;split
 ·omega
 ·rw[af];exact dv _
theorem DW(n:Nat)(hn:n<=10000)(w0 w1:World)(g:Nat)(PA:eK w0):Jq gl bY.gv 219 73 156 2 n w0 w1 g:=by
 intro l p W hl hp db hC;have Fi:=bD (show p.length<=10000 by omega);have SI:=bD (show l.length<=10000 by omega);have HC:=bD hC;have J3:=bD PA;have HT:=bD (sR p (by omega) W);have UI:=bD (rN p);have LY:=bD (fun a b f h=>FX (l:=l) (p:=p) (a:=a) (b:=b) (f:=f) h);generalize gl l p=R at*;generalize fu p=q at*;clear hC hl hp db PA;go_enter func219,ntmps219;go_wp2_with fail;refine HT.o.mono ?_;rintro e w2 ⟨rfl,cu⟩;have J1:=bD (HC.o.later cu);clear cu HC HT;go_wp2_with fail;refine(jT (bs q) [61] (by rw[bJ];have:=UI.o;have:=Fi.o;omega) w2 (J1.o.pP J3.o)).mono ?_;rintro e w3 ⟨a,b,f,d,rfl,zK,tE⟩;rw[eB]at zK;have fm:Below w2.heap.size w2 w3:=by rw[tE];exact⟨rfl,rfl,rfl,dv _,fun _ _=>rfl⟩
 have QD:=bD (J1.o.later fm);have HR:=bD (LY.o a b f zK.o);have tC:=je q [61];rw[zK.o]at tC;have cg:a.length<=10000:=by have:a.length<=q.length:=tC.1;have h2:=Fi.o;have:=UI.o;omega
 have mP:b.length<=10000:=by have:b.length<=q.length:=tC.2;have h2:=Fi.o;have:=UI.o;omega
 have P3:=bD (fun w=>sR a (by omega) w);have HTB:=bD (fun w=>sR b (by omega) w);have HUQ:Hy (∀w,Calls prog 221 #[.string (bs (fu b))] w fun e w'=>e=.returned (.tuple #[.string (bs (jE (fu b)).1),.int .i64 (jE (fu b)).2])/\Below w.heap.size w w'):=by
  intro w;have h:=FR (bs (fu b)) w (by rw[bJ];have:=rN b;omega)
  rwa [eB]at h
 generalize fu a=x at*;generalize fu b=y at*;generalize jE y=U at*;obtain⟨z,er⟩:=U;simp only at HR HUQ;clear tE fm J1 zK UI LY tC cg mP;go_wp2_with fail;refine(P3.o _).mono ?_;rintro e w4 ⟨rfl,eY⟩;have HC4:=bD (QD.o.later eY);clear eY QD;go_wp2_with fail;refine(HTB.o _).mono ?_;rintro e w5 ⟨rfl,kM⟩;have VY:=bD (HC4.o.later kM);clear kM HC4 P3 HTB;cases f with
 |false=>
  have gN:Hy (R=l):=by rw[Hy,HR.o,ae (.inl rfl)]
  clear HR;go_wp2_with fail;refine ag (results_none rfl _ _ _) rfl ?_;exact⟨rfl,by rw[gN.o];exact VY.o⟩
 |true=>
  by_cases hx:x=[]
  ·obtain⟨e1,e2⟩:=fE hx;have gN:Hy (R=l):=by rw[Hy,HR.o,ae (.inr hx)]
   clear HR hx;go_wp2_with fail;refine ag (results_none rfl _ _ _) rfl ?_;exact⟨rfl,by rw[gN.o];exact VY.o⟩
  ·obtain⟨e1,e2⟩:=gT hx;have gN:Hy (R=l++[⟨x,if er=0 then z else y⟩]):=by rw[Hy,HR.o,aa (fun h=>h.elim (fun h=>by cases h) hx)]
   clear HR hx;go_wp2_with fail;refine(HUQ.o _).mono ?_;rintro e w6 ⟨rfl,mo⟩;have UO:=bD (VY.o.later mo);clear mo VY HUQ;obtain⟨v,hB,hO,Qf⟩:=UO.o.cap;obtain⟨Ao,co,rfl⟩:=b8.form hO;rw[ah]at hB hO Qf;obtain⟨N,hN⟩:∃N,N=l.length:=⟨_,rfl⟩;rw[<-hN]at hB hO Qf;have c0:=hB.cell 0;have HA:=bD (fun P=>uW hO UO.o.grown.size hN (by have:=SI.o;omega) P);have cg:=fun C=>cU w6 (.cells C 156);have sk:Hy (∀(C:Array Value) (A6:Option Addr) (c6:Nat) (X:World) (P:bY),b8 X w1.heap.size 156 2 (fun _=>False) (.slice A6 (N+1) c6) (l.map bY.gv++[P.gv])->
    (w6.alloc (.cells C 156)).grownBy X (Value.slice Ao N co).ownBlock->((Value.slice A6 (N+1) c6).ownBlock=(Value.slice Ao N co).ownBlock\/(Value.slice A6 (N+1) c6).ownBlock=some (w6.alloc (.cells C 156)).heap.size)->
    bL X g 73 #[.slice Ao N co]/\uU w0 w1 (X.setCell ⟨g,0,none⟩ (.slice A6 (N+1) c6)) g 73 156 2 (l.map bY.gv++[P.gv])):=
    fun C A6 c6 X P h1 h2 h3=>(UO.o.later (cg C)).store (hB.alloc _) (b8.below hO (cg C)) Qf h1 h2 h3
   clear hB hO Qf hN cg;by_cases E7:er=0
   ·have hb:(er==0)=true:=by rw[E7];rfl
    obtain⟨U,hU⟩:∃U,U=z:=⟨_,rfl⟩;have yp:Hy (R=l++[⟨x,U⟩]):=by rw[Hy,gN.o,ae E7,hU]
    subst hU;clear gN E7;go_wp2_with (at_builtin;go_loud (refine(HA.o ⟨x,U⟩).plain rfl _ _ _ rfl sw rfl rfl ?_);intro A7 c7 w7 bZ cO fG;obtain⟨FY,Y1⟩:=sk.o _ _ _ _ _ bZ cO fG;have HC7:=bD Y1;have x7:=FY.cell 0;have z7:=FY.frozen 0;clear bZ cO fG Y1 FY);refine ag (results_none rfl _ _ _) rfl ?_;exact⟨rfl,by rw[yp.o,aK];exact HC7.o⟩
   ·have hb:(er==0)=false:=by rw[ai];exact E7
    obtain⟨U,hU⟩:∃U,U=y:=⟨_,rfl⟩;have yp:Hy (R=l++[⟨x,U⟩]):=by rw[Hy,gN.o,aa E7,hU]
    subst hU;clear gN E7;go_wp2_with (at_builtin;go_loud (refine(HA.o ⟨x,U⟩).plain rfl _ _ _ rfl sw rfl rfl ?_);intro A7 c7 w7 bZ cO fG;obtain⟨FY,Y1⟩:=sk.o _ _ _ _ _ bZ cO fG;have HC7:=bD Y1;have x7:=FY.cell 0;have z7:=FY.frozen 0;clear bZ cO fG Y1 FY);refine ag (results_none rfl _ _ _) rfl ?_;exact⟨rfl,by rw[yp.o,aK];exact HC7.o⟩
def nj(s:Bt):List bY:=(fT s 59).foldl gl []
theorem FZ(s:Bt)(hs:s.length<=9999)(w:World)(hg:eK w):Calls prog 192 #[.string (bs s)] w (pw w ((nj s).map bY.gv) 2):=by
 have cg:Below w.heap.size w (w.alloc (.cells #[.slice none 0 0] 73)):=cU _ _;have hX:=bL.new w 73 #[.slice none 0 0];have HP:=bD (uV gl bY.gv 219 73 156 2 s 59 w _ w.heap.size 10000 (by omega) (dv _) (hg.below cg) (fun _ _=>by kernel_rfl)
  uX hX cg (dv _) (fun w1 _=>DW 10000 (dv _) w w1 w.heap.size hg))
 have HR:Hy (pw w ((nj s).map bY.gv) 2=pw w (((fT s 59).foldl gl []).map bY.gv) 2):=rfl;clear cg hX;rw[HR.o];generalize((fT s 59).foldl gl []).map bY.gv=R at*;clear HR;go_enter func192,ntmps192;go_wp2_with fail;refine HP.o.mono ?_;rintro e w2 ⟨rfl,w1,hc⟩;obtain⟨v,hv,cO,hb⟩:=hc.fin;obtain⟨A,c,xs,h1,-⟩:=jR.1 cO;simp only[List.cons.injEq,and_true]at h1;subst h1;have tV:=bD cO;have HB:=bD hb;clear cO hb hc;go_wp2_with fail;go_ret;exact⟨⟨_,rfl,tV.o⟩,HB.o⟩
def kZ(l:List Bt)(p:Bt):List Bt:=
 if jJ (fu (Lib.cut p [59]).1)=[]\/l.contains (jJ (fu (Lib.cut p [59]).1))=true then l else l++[jJ (fu (Lib.cut p [59]).1)]
theorem zc(l:List Bt)(p:Bt):(kZ l p).length<=l.length+1:=by
 unfold kZ;split
 ·omega
 ·rw[af];exact dv _
theorem LZ{l:List Bt}{p a b:Bt}{f:Bool}(h:Lib.cut p [59]=(a,b,f)):kZ l p=
 if jJ (fu a)=[]\/l.contains (jJ (fu a))=true then l else l++[jJ (fu a)]:=by
 unfold kZ;rw[h]
theorem AL(n:Nat)(hn:n<=10000)(w0 w1:World)(g:Nat)(PA:eK w0):Jq kZ GV.str 225 42 9 1 n w0 w1 g:=by
 intro l p W hl hp db hC;have Fi:=bD (show p.length<=10000 by omega);have SI:=bD (show l.length<=10000 by omega);have HC:=bD hC;have J3:=bD PA;have LY:=bD (fun a b f h=>LZ (l:=l) (p:=p) (a:=a) (b:=b) (f:=f) h);generalize kZ l p=R at*;clear hC hl hp db PA;go_enter func225,ntmps225;go_wp2_with fail;refine(jT (bs p) [59] (by rw[bJ];have:=Fi.o;omega) W (HC.o.pP J3.o)).mono ?_;rintro e w3 ⟨a,b,f,d,rfl,zK,tE⟩;rw[eB]at zK;have fm:Below W.heap.size W w3:=by rw[tE];exact⟨rfl,rfl,rfl,dv _,fun _ _=>rfl⟩
 have QD:=bD (HC.o.later fm);have HR:=bD (LY.o a b f zK.o);have tC:=je p [59];rw[zK.o]at tC;have cg:a.length<=10000:=by have:a.length<=p.length:=tC.1;have h2:=Fi.o;omega
 have P3:=bD (fun w=>sR a (by omega) w);have HLO:Hy (∀w,Calls prog 49 #[.string (bs (fu a))] w fun e w'=>e=.returned (.string (bs (jJ (fu a))))/\Below w.heap.size w w'):=by
  intro w;have h:=mD (bs (fu a)) w (by rw[bJ];have:=rN a;omega)
  rwa [eB]at h
 generalize fu a=x at*;generalize jJ x=y at*;clear tE fm HC zK LY tC cg;go_wp2_with fail;refine(P3.o _).mono ?_;rintro e w4 ⟨rfl,eY⟩;have HC4:=bD (QD.o.later eY);clear eY QD P3;go_wp2_with fail;refine(HLO.o _).mono ?_;rintro e w5 ⟨rfl,kM⟩;have VY:=bD (HC4.o.later kM);clear kM HC4 HLO;by_cases hx:y=[]
 ·obtain⟨e1,e2⟩:=fE hx;have gN:Hy (R=l):=by rw[Hy,HR.o,ae (.inl hx)]
  clear HR hx;go_wp2_with fail;refine ag (results_none rfl _ _ _) rfl ?_;exact⟨rfl,by rw[gN.o];exact VY.o⟩
 ·obtain⟨e1,e2⟩:=gT hx;obtain⟨v,hB,hO,Qf⟩:=VY.o.cap;obtain⟨Ao,co,rfl⟩:=b8.form hO;rw[ah]at hB hO Qf;have HCO:=bD (qd l _ (fun _=>True) y w5 (by have:=SI.o;omega) (by have h:=b8.gr (F:=fun _=>True) hO (fun _ h=>h.elim) (fun _ _=>trivial);exact h));obtain⟨N,hN⟩:∃N,N=l.length:=⟨_,rfl⟩;rw[<-hN]at hB hO Qf HCO;have c0:=hB.cell 0;have HA:=bD (Qc hO VY.o.grown.size hN (by have:=SI.o;omega) y);have cg:=fun C=>cU w5 (.cells C 9);have sk:Hy (∀(C:Array Value) (A6:Option Addr) (c6:Nat) (X:World) (P:Bt),b8 X w1.heap.size 9 1 (fun _=>False) (.slice A6 (N+1) c6) (l.map .str++[.str P])->
   (w5.alloc (.cells C 9)).grownBy X (Value.slice Ao N co).ownBlock->((Value.slice A6 (N+1) c6).ownBlock=(Value.slice Ao N co).ownBlock\/(Value.slice A6 (N+1) c6).ownBlock=some (w5.alloc (.cells C 9)).heap.size)->
   bL X g 42 #[.slice Ao N co]/\uU w0 w1 (X.setCell ⟨g,0,none⟩ (.slice A6 (N+1) c6)) g 42 9 1 (l.map .str++[.str P])):=
   fun C A6 c6 X P h1 h2 h3=>(VY.o.later (cg C)).store (hB.alloc _) (b8.below hO (cg C)) Qf h1 h2 h3
  clear hB hO Qf hN cg;cases hcy:l.contains y with
  |true=>
   rw[hcy]at HCO;have gN:Hy (R=l):=by rw[Hy,HR.o,ae (.inr hcy)]
   clear HR hx hcy;go_wp2_with fail;refine HCO.o.mono ?_;rintro e w6 ⟨rfl,rfl⟩;go_wp2_with fail;refine ag (results_none rfl _ _ _) rfl ?_;exact⟨rfl,by rw[gN.o];exact VY.o⟩
  |false=>
   rw[hcy]at HCO;have gN:Hy (R=l++[y]):=by rw[Hy,HR.o,aa (fun h=>h.elim hx (fun h=>by rw[hcy]at h;cases h))]
   clear HR hx hcy;go_wp2_with fail;refine HCO.o.mono ?_;rintro e w6 ⟨rfl,rfl⟩;go_wp2_with (at_builtin;go_loud (refine HA.o.plain rfl _ _ _ rfl LJ rfl rfl ?_);intro A7 c7 w7 bZ cO fG;obtain⟨FY,Y1⟩:=sk.o _ _ _ _ _ bZ cO fG;have HC7:=bD Y1;have x7:=FY.cell 0;have z7:=FY.frozen 0;clear bZ cO fG Y1 FY);refine ag (results_none rfl _ _ _) rfl ?_;exact⟨rfl,by rw[gN.o,aK];exact HC7.o⟩
def oa(s:Bt):List Bt:=(fT s 44).foldl kZ []
theorem Cp(s:Bt)(hs:s.length<=9999)(w:World)(hg:eK w):Calls prog 197 #[.string (bs s)] w (pw w ((oa s).map .str) 1):=by
 have cg:Below w.heap.size w (w.alloc (.cells #[.slice none 0 0] 42)):=cU _ _;have hX:=bL.new w 42 #[.slice none 0 0];have HP:=bD (uV kZ GV.str 225 42 9 1 s 44 w _ w.heap.size 10000 (by omega) (dv _) (hg.below cg) (fun _ _=>by kernel_rfl)
  zc hX cg (dv _) (fun w1 _=>AL 10000 (dv _) w w1 w.heap.size hg))
 have HR:Hy (pw w ((oa s).map .str) 1=pw w (((fT s 44).foldl kZ []).map .str) 1):=rfl;clear cg hX;rw[HR.o];generalize((fT s 44).foldl kZ []).map GV.str=R at*;clear HR;go_enter func197,ntmps197;go_wp2_with fail;refine HP.o.mono ?_;rintro e w2 ⟨rfl,w1,hc⟩;obtain⟨v,hv,cO,hb⟩:=hc.fin;obtain⟨A,c,xs,h1,-⟩:=jR.1 cO;simp only[List.cons.injEq,and_true]at h1;subst h1;have tV:=bD cO;have HB:=bD hb;clear cO hb hc;go_wp2_with fail;go_ret;exact⟨⟨_,rfl,tV.o⟩,HB.o⟩
end Go.Proofs.YtejafaaihodehaaGreatDoor
