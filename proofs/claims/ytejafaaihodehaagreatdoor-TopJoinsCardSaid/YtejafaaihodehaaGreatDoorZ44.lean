/- Part 44. -/
import Derived.Test.YtejafaaihodehaaGreatDoorZ43
set_option linter.all false
set_option maxRecDepth 100000
set_option maxHeartbeats 8000000
namespace Go.Proofs.YtejafaaihodehaaGreatDoor
open Go Go.RowKit Tryz
def US:List Ex->Bool
 |[a,b]=>eP a&&eP b
 |_=>false
theorem Qg:∀{l:List Ex},l.length=2->∃a b,l=[a,b]
 |[a,b],_=>⟨a,b,rfl⟩
theorem L2{l:List Ex}(h:l.length≠2):US l=false:=by
 match l with
 |[]=>rfl
 |[_]=>rfl
 |[_,_]=>exact aX rfl h
 |_::_::_::_=>rfl
def rT(k:Int)(s:Bt)(l:List Ex):Bool:=
 if k=7 then eL.contains s&&US l
 else if k=4 then decide (s=[])&&decide (l.length=1)
 else if k=5\/k=6 then decide (s=[])&&decide (2<=l.length)
 else false
mutual
def lI(val:nK):Ex->Bool
 |.mk k n t s l=>if eP (.mk k n t s l)then DZ val (.mk k n t s l)else if n≠0\/t≠[]\/nL val l=false then false else rT k s l
def nL(val:nK):List Ex->Bool
 |[]=>true
 |e::l=>lI val e&&nL val l
end
theorem Hf(val:nK):∀l:List Ex,l.any (fun k=>!lI val k)=!nL val l
 |[]=>rfl
 |e::l=>by
  rw[List.any_cons,Hf val l,nL];cases lI val e<;>rfl
theorem AO{W:World}{g:Nat}(h:bL W g 9 #[.string ⟨#[61,61]⟩,.string ⟨#[33,61]⟩,.string ⟨#[60,61]⟩,.string ⟨#[62,61]⟩,.string ⟨#[60]⟩,.string ⟨#[62]⟩]):GR W (fun _=>True) (.row 1 (eL.map .str)) [.slice (some ⟨g,0,none⟩) 6 6]:=by
 refine jR.2 ⟨some ⟨g,0,none⟩,6,[.string ⟨#[61,61]⟩,.string ⟨#[33,61]⟩,.string ⟨#[60,61]⟩,.string ⟨#[62,61]⟩,.string ⟨#[60]⟩,.string ⟨#[62]⟩],rfl,dv _,by simp[maxLen],rfl,fun _=>⟨g,0,rfl,trivial,fun j u hu=>?_⟩,?_⟩
 ·rw[Nat.zero_add,h.cell]
  simpa using hu
 ·exact gF.2 ⟨[_],_,rfl,rfl,eQ.2 rfl,gF.2 ⟨[_],_,rfl,rfl,eQ.2 rfl,gF.2 ⟨[_],_,rfl,rfl,eQ.2 rfl,gF.2 ⟨[_],_,rfl,rfl,eQ.2 rfl,gF.2 ⟨[_],_,rfl,rfl,eQ.2 rfl,gF.2 ⟨[_],_,rfl,rfl,eQ.2 rfl,jt.2 rfl⟩⟩⟩⟩⟩⟩
theorem L3(val:nK)(x:Ex)(A:Option Addr)(n c:Nat)(w:World)
 (hw:∀W,Below w.heap.size w W->Calls prog 203 #[da x (.slice A n c)] W fun e W'=>e=.returned (.bool (lI val x))/\Below W.heap.size W W'):
 Calls prog 232 #[da x (.slice A n c)] w fun e w'=>e=.returned (.bool (!lI val x))/\Below w.heap.size w w':=by
 have HB:=bD (cU w (.cells (bH x (.slice A n c)).toArray 202));have HX:=bD (bL.new w 202 (bH x (.slice A n c)).toArray);have HW:=bD (hw _ HB.o);generalize lI val x=R at*;clear hw;simp only[da,bH]at HB HX HW|-;go_enter func232,ntmps232;go_upto_region 1 with(fail)
 change Code.wp _ _ _ _ (w.alloc (.cells [Value.int .i64 x.kind,.int .i64 x.n,.string (bs x.text),.string (bs x.iD),.slice A n c].toArray 202));generalize w.alloc (.cells [Value.int .i64 x.kind,.int .i64 x.n,.string (bs x.text),.string (bs x.iD),.slice A n c].toArray 202)=w1 at*;generalize nH:w.heap.size=X at*;have gg:=bD nH;clear nH;obtain⟨c0,c1,c2,c3,c4⟩:=kK HX.o;simp at c0 c1 c2 c3 c4;go_wp2_with fail;refine HW.o.mono ?_;rintro e w2 ⟨rfl,cu⟩;have dm:Hy (Below w.heap.size w w2):=by
  have h:=HB.o;rw[<-gg.o]at h;exact h.trans (cu.mono h.size)
 clear cu;go_wp2_with fail;go_ret;exact⟨rfl,by first|exact dm.o|(rw[gg.o];exact dm.o)|(rw[<-gg.o];exact dm.o)⟩
theorem OO(val:nK)(jj:qE y7 val):∀(m:Nat) (x:Ex) (A:Option Addr) (c:Nat) (F:Nat->Prop) (w:World),lV x<=m->m<=1000->F3 x->eK w->GR w F (.row 5 (x.bE.map Ex.gv)) [.slice A x.bE.length c]->
 Calls prog 203 #[da x (.slice A x.bE.length c)] w fun e w'=>e=.returned (.bool (lI val x))/\Below w.heap.size w w':=by
 intro m;induction m using Nat.strongRecOn with
 |ind m ih=>
 intro x A c F w hm hm2 po hg hk;have cg:Below w.heap.size w (w.alloc (.cells (bH x (.slice A x.bE.length c)).toArray 202)):=cU _ _;have HB:=bD cg;have HX:=bD (bL.new w 202 (bH x (.slice A x.bE.length c)).toArray);have Tu:=bD (fun W=>rh x A x.bE.length c W);have HLF:=bD (fun W hg=>ON val jj x A c W hg po);have Hg:=(AN x).1 po;have lQ:=rQ x;have UR:Hy (∀W,Below w.heap.size w W->UQ (fun k=>!lI val k) 232 x.bE W):=by
  intro W VM y A' c' F' W' hy hb cO;refine L3 val y A' _ c' W' (fun W2 cu=>?_);have fm:Below w.heap.size w W2:=VM.trans ((hb.trans (cu.mono hb.size)).mono VM.size);exact ih (lV y) (by have:=n8 hy;omega) y A' c' F' W2 (dv _) (by have:=n8 hy;omega) (u9 Hg.2.2.2.2 hy) (hg.below fm) (cO.below cu)
 have ln:x.bE.length<=1000:=by
  have:∀l:List Ex,l.length<=jb l:=by
   intro l;induction l with
   |nil=>exact ax _
   |cons a l ihl=>simp only[jb,ak];have:=rQ a;omega
  have:=this x.bE;omega
 have LD:=bD ln;have M1:=bD (fun W (hb:Below w.heap.size w W)=>hk.below hb);have D2:=nf (GR.du _ _ hk);have Jt:=bD D2;have HGW:=bD hg;obtain⟨xk,xn,xt,xs,l⟩:=x;have HV:Hy (lI val (.mk xk xn xt xs l)=if eP (.mk xk xn xt xs l)then DZ val (.mk xk xn xt xs l)else if xn≠0\/xt≠[]\/nL val l=false then false else rT xk xs l):=by rw[Hy,lI]
 generalize lI val (.mk xk xn xt xs l)=R at*;generalize eP (.mk xk xn xt xs l)=S1 at*;generalize DZ val (.mk xk xn xt xs l)=L1 at*;simp only[da,bH,Ex.kind,Ex.n,Ex.text,Ex.iD,Ex.bE]at*;clear cg po hg hk Hg ih lQ ln hm D2;go_enter func203,ntmps203;go_upto_region 1 with(fail)
 change Code.wp _ _ _ _ (w.alloc (.cells [Value.int .i64 xk,.int .i64 xn,.string (bs xt),.string (bs xs),.slice A l.length c].toArray 202));generalize w.alloc (.cells [Value.int .i64 xk,.int .i64 xn,.string (bs xt),.string (bs xs),.slice A l.length c].toArray 202)=w1 at*;generalize nH:w.heap.size=X at*;have gg:=bD nH;clear nH;obtain⟨c0,c1,c2,c3,c4⟩:=kK HX.o;simp at c0 c1 c2 c3 c4;go_wp2_with fail;refine(Tu.o w1).mono ?_;rintro e w9 ⟨rfl,fq⟩;have lP:=bD (HB.o.trans (fq.mono (by have h:=HB.o.size;rw[gg.o]at h;exact h)));have qv:=bD (HX.o.below fq HX.o.lt);clear fq HB HX c0 c1 c2 c3 c4;obtain⟨w1,rfl⟩:∃w1:World,w1=w9:=⟨_,rfl⟩;have HB:=lP;have HX:=qv;clear lP qv;obtain⟨c0,c1,c2,c3,c4⟩:=kK HX.o;simp at c0 c1 c2 c3 c4;have tj:Hy (∀W,Below X w W->eK W):=fun W hb=>HGW.o.below (by rw[gg.o];exact hb);cases S1 with
 |true=>
  have eA:Hy (R=L1):=by rw[Hy,HV.o,ae rfl]
  have HC:=bD (HLF.o w1 (tj.o _ HB.o));clear HV;go_wp2_with fail;refine HC.o.mono ?_;rintro e w9 ⟨rfl,fq⟩;have lP:=bD (HB.o.trans (fq.mono (by have h:=HB.o.size;rw[gg.o]at h;exact h)));have qv:=bD (HX.o.below fq HX.o.lt);clear fq HB HX c0 c1 c2 c3 c4;obtain⟨w1,rfl⟩:∃w1:World,w1=w9:=⟨_,rfl⟩;have HB:=lP;have HX:=qv;clear lP qv;obtain⟨c0,c1,c2,c3,c4⟩:=kK HX.o;simp at c0 c1 c2 c3 c4;go_wp2_with fail;go_ret;exact⟨by rw[eA.o];rfl,by rw[gg.o];exact HB.o⟩
 |false=>
 have uE:Hy (R=if xn≠0\/xt≠[]\/nL val l=false then false else rT xk xs l):=by rw[Hy,HV.o,aa (by simp)]
 clear HV HLF Tu;by_cases hn:xn=0
 ·have b1:(xn !=0)=false:=by rw[hn];rfl
  by_cases ht:xt=[]
  ·obtain⟨e1,e2⟩:=fE ht;have HC:=bD (AM (fun k=>!lI val k) 232 l _ F w1 (by have:=LD.o;omega) (fun _ _=>by kernel_rfl) (M1.o w1 HB.o) (UR.o w1 HB.o));rw[Hf]at HC;have tN:Hy (R=if nL val l=false then false else rT xk xs l):=by
    rw[Hy,uE.o];by_cases h:nL val l=false
    ·rw[ae (.inr (.inr h)),ae h]
    ·rw[aa (fun h'=>h'.elim (fun h'=>h' hn) (fun h'=>h'.elim (fun h'=>h' ht) h)),aa h]
   generalize nL val l=WL at*;clear uE hn ht;go_wp2_with fail;refine HC.o.mono ?_;rintro e w9 ⟨rfl,fq⟩;have lP:=bD (HB.o.trans (fq.mono (by have h:=HB.o.size;rw[gg.o]at h;exact h)));have qv:=bD (HX.o.below fq HX.o.lt);clear fq HB HX c0 c1 c2 c3 c4;obtain⟨w1,rfl⟩:∃w1:World,w1=w9:=⟨_,rfl⟩;have HB:=lP;have HX:=qv;clear lP qv;obtain⟨c0,c1,c2,c3,c4⟩:=kK HX.o;simp at c0 c1 c2 c3 c4;clear HC M1;cases WL with
   |false=>
    have eA:Hy (R=false):=by rw[Hy,tN.o,ae rfl]
    clear tN;go_wp2_with fail;go_ret;exact⟨by rw[eA.o];rfl,by rw[gg.o];exact HB.o⟩
   |true=>
    have RU:Hy (R=rT xk xs l):=by rw[Hy,tN.o,aa (by simp)]
    clear tN;by_cases k7:xk=7
    ·have b7:(xk==7)=true:=by rw[k7];rfl
     have RW:Hy (R=(eL.contains xs&&US l)):=by rw[Hy,RU.o,rT,ae k7]
     clear RU k7;have hsc:=fun v W h=>qd eL v (fun _=>True) xs W (by decide) h;have HSC:=bD hsc;clear hsc;generalize eL.contains xs=SC at*;go_upto_region 8 with(fail)
     cases SC with
     |false=>
      have eA:Hy (R=false):=by rw[Hy,RW.o];rfl
      have hS:w1.drew.cell? ⟨X,3,none⟩=some (.string (bs xs))/\w1.drew.cell? ⟨X,4,none⟩=some (.slice A l.length c):=⟨c3,c4⟩;refine aL (S:=(fun w'=>w'.cell? ⟨X,3,none⟩=some (.string (bs xs))/\w'.cell? ⟨X,4,none⟩=some (.slice A l.length c))) (by kernel_rfl) ?_;change wpAnyH _ _ _ _ _ _ _ _ (World.drew _);refine jw 1 hS ?_;refine jw 2 hS ?_;refine fr 0 (fun K_ bP=>?_);go_simp;refine(qI _).mono ?_;rintro e w4 ⟨rfl,qn⟩;have eY:Below w1.heap.size w1 w4:=by rw[qn];exact(aF _ _).drew.alloc (dv _) _
      have Xv:Hy (GR w4 (fun _=>True) (.row 1 (eL.map .str)) [.slice (some ⟨w1.drew.heap.size,0,none⟩) 6 6]):=by rw[qn];exact AO (bL.new w1.drew 9 #[.string ⟨#[61,61]⟩,.string ⟨#[33,61]⟩,.string ⟨#[60,61]⟩,.string ⟨#[62,61]⟩,.string ⟨#[60]⟩,.string ⟨#[62]⟩])
      have iW:=bD (HB.o.trans (eY.mono (by have h:=HB.o.size;rw[gg.o]at h;exact h)));clear qn;have ki:w4.cell? ⟨X,3,none⟩=some (.string (bs xs))/\w4.cell? ⟨X,4,none⟩=some (.slice A l.length c):=
       ⟨(eY.cell (aq _ _ c3)).trans c3,(eY.cell (aq _ _ c4)).trans c4⟩
      refine bP.out _ _ ki fun _=>?_;clear bP K_;refine fr 3 (fun K_ bP=>?_);go_simp;refine(HSC.o _ _ Xv.o).mono ?_;rintro e w5 ⟨rfl,rfl⟩;refine bP.out _ _ ki fun _=>?_;clear bP K_;refine dB 4 ki ?_;refine lo 5 ki ?_;refine lo 6 ki ?_;refine dB 7 ki ?_;refine dB 8 ki ?_;refine lo 9 ki ?_;refine lo 10 ki ?_;refine lo 11 ki ?_;refine lo 12 ki ?_;refine lo 13 ki ?_;refine dB 14 ki ?_;refine dB 15 ki ?_;refine lo 16 ki ?_;refine lo 17 ki ?_;refine lo 18 ki ?_;refine lo 19 ki ?_;refine lo 20 ki ?_;refine dB 21 ki ?_;refine dB 22 ki ?_;refine aJ (by kernel_rfl) ?_ _;clear hS ki eY Xv c0 c1 c2 c3 c4 HX HB;go_simp;go_wp2_with fail;go_ret;exact⟨by rw[eA.o];rfl,by rw[gg.o];exact iW.o⟩
     |true=>
      by_cases Cw:l.length=2
      ·obtain⟨ya,yb,rfl⟩:=Qg Cw;have HV6:Hy (R=(eP ya&&eP yb)):=by rw[Hy,RW.o];rfl
       obtain⟨A2,c2',zF,-,-,dS⟩:=Jt.o;simp only[ak,aD]at zF;injection zF with e5 e6 e7
       subst e5 e7;obtain⟨bq,oq,rfl,G0,dS⟩:=dS (by simp);obtain⟨Aa,ca,wE⟩:=dS 0 (by simp);obtain⟨Ab,cb,Ju⟩:=dS 1 (by simp);simp only[List.getElem_cons_zero,List.getElem_cons_succ]at wE Ju;have tT:bq<w.heap.size:=by rw[gg.o];exact G0.2
       have wE:=wE.below (by rw[gg.o];exact HB.o) tT;have Ju:=Ju.below (by rw[gg.o];exact HB.o) tT;have p0:=wE.c0;have p1:=wE.c1;have p2:=wE.c2;have p3:=wE.c3;have p4:=wE.c4;have r0:=Ju.c0;have r1:=Ju.c1;have r2:=Ju.c2;have r3:=Ju.c3;have r4:=Ju.c4;simp at p0 p1 p2 p3 p4 r0 r1 r2 r3 r4;have c4:w1.cell? ⟨X,4,none⟩=some (.slice (some ⟨bq,oq,none⟩) 2 c):=c4;have hSB:∀W,Below w1.heap.size w1 W->W.cell? ⟨X,3,none⟩=some (.string (bs xs))/\W.cell? ⟨X,4,none⟩=some (.slice (some ⟨bq,oq,none⟩) 2 c)/\W.cell? ⟨bq,oq,none⟩=some (.int .i64 ya.kind)/\W.cell? ⟨bq,oq+1,none⟩=some (.int .i64 ya.n)/\W.cell? ⟨bq,oq+2,none⟩=some (.string (bs ya.text))/\W.cell? ⟨bq,oq+3,none⟩=some (.string (bs ya.iD))/\W.cell? ⟨bq,oq+4,none⟩=some (.slice Aa ya.bE.length ca)/\W.cell? ⟨bq,oq+5,none⟩=some (.int .i64 yb.kind)/\W.cell? ⟨bq,oq+5+1,none⟩=some (.int .i64 yb.n)/\W.cell? ⟨bq,oq+5+2,none⟩=some (.string (bs yb.text))/\W.cell? ⟨bq,oq+5+3,none⟩=some (.string (bs yb.iD))/\W.cell? ⟨bq,oq+5+4,none⟩=some (.slice Ab yb.bE.length cb):=fun W hb=>⟨(hb.cell (aq _ _ c3)).trans c3,(hb.cell (aq _ _ c4)).trans c4,(hb.cell (aq _ _ p0)).trans p0,(hb.cell (aq _ _ p1)).trans p1,(hb.cell (aq _ _ p2)).trans p2,(hb.cell (aq _ _ p3)).trans p3,(hb.cell (aq _ _ p4)).trans p4,(hb.cell (aq _ _ r0)).trans r0,(hb.cell (aq _ _ r1)).trans r1,(hb.cell (aq _ _ r2)).trans r2,(hb.cell (aq _ _ r3)).trans r3,(hb.cell (aq _ _ r4)).trans r4⟩;have UT:=bD hSB;have hS:=hSB w1.drew (aF _ _).drew;have tY:=bD (fun W=>rh ya Aa ya.bE.length ca W);have Y3:=bD (fun W=>rh yb Ab yb.bE.length cb W);simp only[da,bH]at tY Y3;generalize eP ya=SA at*;generalize eP yb=SB at*;clear p0 p1 p2 p3 p4 r0 r1 r2 r3 r4 dS wE Ju hSB Cw G0 tT;refine aL (S:=(fun w'=>w'.cell? ⟨X,3,none⟩=some (.string (bs xs))/\w'.cell? ⟨X,4,none⟩=some (.slice (some ⟨bq,oq,none⟩) 2 c)/\w'.cell? ⟨bq,oq,none⟩=some (.int .i64 ya.kind)/\w'.cell? ⟨bq,oq+1,none⟩=some (.int .i64 ya.n)/\w'.cell? ⟨bq,oq+2,none⟩=some (.string (bs ya.text))/\w'.cell? ⟨bq,oq+3,none⟩=some (.string (bs ya.iD))/\w'.cell? ⟨bq,oq+4,none⟩=some (.slice Aa ya.bE.length ca)/\w'.cell? ⟨bq,oq+5,none⟩=some (.int .i64 yb.kind)/\w'.cell? ⟨bq,oq+5+1,none⟩=some (.int .i64 yb.n)/\w'.cell? ⟨bq,oq+5+2,none⟩=some (.string (bs yb.text))/\w'.cell? ⟨bq,oq+5+3,none⟩=some (.string (bs yb.iD))/\w'.cell? ⟨bq,oq+5+4,none⟩=some (.slice Ab yb.bE.length cb))) (by kernel_rfl) ?_;change wpAnyH _ _ _ _ _ _ _ _ (World.drew _);refine jw 1 hS ?_;refine jw 2 hS ?_;clear hS;refine fr 0 (fun K_ bP=>?_);go_simp;refine(qI _).mono ?_;rintro e w4 ⟨rfl,qn⟩;have eY:Below w1.heap.size w1 w4:=by rw[qn];exact(aF _ _).drew.alloc (dv _) _
       have Xv:Hy (GR w4 (fun _=>True) (.row 1 (eL.map .str)) [.slice (some ⟨w1.drew.heap.size,0,none⟩) 6 6]):=by rw[qn];exact AO (bL.new w1.drew 9 #[.string ⟨#[61,61]⟩,.string ⟨#[33,61]⟩,.string ⟨#[60,61]⟩,.string ⟨#[62,61]⟩,.string ⟨#[60]⟩,.string ⟨#[62]⟩])
       have iW:=bD (HB.o.trans (eY.mono (by have h:=HB.o.size;rw[gg.o]at h;exact h)));clear qn;have ki:=UT.o _ eY;refine bP.out _ _ ki fun _=>?_;clear bP K_;refine fr 3 (fun K_ bP=>?_);go_simp;refine(HSC.o _ _ Xv.o).mono ?_;rintro e w5 ⟨rfl,tF⟩;have tF:=tF.symm;subst tF;refine bP.out _ _ ki fun _=>?_;clear bP K_;refine dB 4 ki ?_;refine pJ 5 ki ?_;refine pJ 6 ki ?_;refine dB 7 ki ?_;refine dB 8 ki ?_;refine Na 9 ki ?_;refine Na 10 ki ?_;refine Na 11 ki ?_;refine Na 12 ki ?_;refine fr 13 (fun K_ bP=>?_);go_simp;refine(tY.o _).mono ?_;rintro e w5 ⟨rfl,kM⟩;have kM:=eY.trans (kM.mono eY.size);have kf:=bD (HB.o.trans (kM.mono (by have h:=HB.o.size;rw[gg.o]at h;exact h)));have pe:=UT.o _ kM;refine bP.out _ _ pe fun _=>?_;clear bP K_ ki;cases SA with
       |false=>
        have eA:Hy (R=false):=by rw[Hy,HV6.o];rfl
        refine dB 14 pe ?_;refine dB 15 pe ?_;refine lo 16 pe ?_;refine lo 17 pe ?_;refine lo 18 pe ?_;refine lo 19 pe ?_;refine lo 20 pe ?_;refine dB 21 pe ?_;refine dB 22 pe ?_;refine aJ (by kernel_rfl) ?_ _;clear pe eY kM Xv c0 c1 c2 c3 c4 HX HB iW UT HSC HV6 tY Y3;go_simp;go_wp2_with fail;go_ret;exact⟨by rw[eA.o];rfl,by rw[gg.o];exact kf.o⟩
       |true=>
        have eA:Hy (R=SB):=by rw[Hy,HV6.o];rfl
        refine dB 14 pe ?_;refine dB 15 pe ?_;refine Na 16 pe ?_;refine Na 17 pe ?_;refine Na 18 pe ?_;refine Na 19 pe ?_;refine fr 20 (fun K_ bP=>?_);go_simp;refine(Y3.o _).mono ?_;rintro e w6 ⟨rfl,mo⟩;have mo:=kM.trans (mo.mono kM.size);have tR:=bD (HB.o.trans (mo.mono (by have h:=HB.o.size;rw[gg.o]at h;exact h)));have MX:=UT.o _ mo;refine bP.out _ _ MX fun _=>?_;clear bP K_ pe;refine dB 21 MX ?_;refine dB 22 MX ?_;refine aJ (by kernel_rfl) ?_ _;clear MX eY kM mo Xv c0 c1 c2 c3 c4 HX HB iW UT HSC HV6 tY Y3;go_simp;go_wp2_with fail;go_ret;exact⟨by rw[eA.o];rfl,by rw[gg.o];exact tR.o⟩
      ·have b2:((l.length:Int)==2)=false:=by rw[ai];omega
       have eA:Hy (R=false):=by rw[Hy,RW.o,L2 Cw];rfl
       have hS:w1.drew.cell? ⟨X,3,none⟩=some (.string (bs xs))/\w1.drew.cell? ⟨X,4,none⟩=some (.slice A l.length c):=⟨c3,c4⟩;clear Cw;refine aL (S:=(fun w'=>w'.cell? ⟨X,3,none⟩=some (.string (bs xs))/\w'.cell? ⟨X,4,none⟩=some (.slice A l.length c))) (by kernel_rfl) ?_;change wpAnyH _ _ _ _ _ _ _ _ (World.drew _);refine jw 1 hS ?_;refine jw 2 hS ?_;refine fr 0 (fun K_ bP=>?_);go_simp;refine(qI _).mono ?_;rintro e w4 ⟨rfl,qn⟩;have eY:Below w1.heap.size w1 w4:=by rw[qn];exact(aF _ _).drew.alloc (dv _) _
       have Xv:Hy (GR w4 (fun _=>True) (.row 1 (eL.map .str)) [.slice (some ⟨w1.drew.heap.size,0,none⟩) 6 6]):=by rw[qn];exact AO (bL.new w1.drew 9 #[.string ⟨#[61,61]⟩,.string ⟨#[33,61]⟩,.string ⟨#[60,61]⟩,.string ⟨#[62,61]⟩,.string ⟨#[60]⟩,.string ⟨#[62]⟩])
       have iW:=bD (HB.o.trans (eY.mono (by have h:=HB.o.size;rw[gg.o]at h;exact h)));clear qn;have ki:w4.cell? ⟨X,3,none⟩=some (.string (bs xs))/\w4.cell? ⟨X,4,none⟩=some (.slice A l.length c):=
        ⟨(eY.cell (aq _ _ c3)).trans c3,(eY.cell (aq _ _ c4)).trans c4⟩
       refine bP.out _ _ ki fun _=>?_;clear bP K_;refine fr 3 (fun K_ bP=>?_);go_simp;refine(HSC.o _ _ Xv.o).mono ?_;rintro e w5 ⟨rfl,rfl⟩;refine bP.out _ _ ki fun _=>?_;clear bP K_;refine dB 4 ki ?_;refine pJ 5 ki ?_;refine pJ 6 ki ?_;refine dB 7 ki ?_;refine dB 8 ki ?_;refine lo 9 ki ?_;refine lo 10 ki ?_;refine lo 11 ki ?_;refine lo 12 ki ?_;refine lo 13 ki ?_;refine dB 14 ki ?_;refine dB 15 ki ?_;refine lo 16 ki ?_;refine lo 17 ki ?_;refine lo 18 ki ?_;refine lo 19 ki ?_;refine lo 20 ki ?_;refine dB 21 ki ?_;refine dB 22 ki ?_;refine aJ (by kernel_rfl) ?_ _;clear hS ki eY Xv c0 c1 c2 c3 c4 HX HB;go_simp;go_wp2_with fail;go_ret;exact⟨by rw[eA.o];rfl,by rw[gg.o];exact iW.o⟩
    ·have b7:(xk==7)=false:=by rw[ai];exact k7
     by_cases k4:xk=4
     ·have b4:(xk==4)=true:=by rw[k4];rfl
      have RW:Hy (R=(decide (xs=[])&&decide (l.length=1))):=by rw[Hy,RU.o,rT,aa k7,ae k4]
      clear RU k7 k4;by_cases hs:xs=[]
      ·obtain⟨e3,e4⟩:=fE hs;have eA:Hy (R=((l.length:Int)==1)):=by
        rw[Hy,RW.o,aS hs,Bool.true_and,bj,aH,beq_iff_eq];omega
       clear RW hs;go_wp2_with fail;go_ret;exact⟨by rw[eA.o];rfl,by rw[gg.o];exact HB.o⟩
      ·obtain⟨e3,e4⟩:=gT hs;have eA:Hy (R=false):=by rw[Hy,RW.o,aT hs];rfl
       clear RW hs;go_wp2_with fail;go_ret;exact⟨by rw[eA.o];rfl,by rw[gg.o];exact HB.o⟩
     ·have b4:(xk==4)=false:=by rw[ai];exact k4
      by_cases k56:xk=5\/xk=6
      ·have RW:Hy (R=(decide (xs=[])&&decide (2<=l.length))):=by rw[Hy,RU.o,rT,aa k7,aa k4,ae k56]
       clear RU k7 k4;by_cases hs:xs=[]
       ·obtain⟨e3,e4⟩:=fE hs;have eA:Hy (R=decide (2<=(l.length:Int))):=by
         rw[Hy,RW.o,aS hs,Bool.true_and,bj,aH,aH];omega
        clear RW hs;rcases k56 with k5|k6
        ·have b5:(xk==5)=true:=by rw[k5];rfl
         clear k5;go_wp2_with fail;go_ret;exact⟨by rw[eA.o];rfl,by rw[gg.o];exact HB.o⟩
        ·have b5:(xk==5)=false:=by rw[k6];rfl
         have b6:(xk==6)=true:=by rw[k6];rfl
         clear k6;go_wp2_with fail;go_ret;exact⟨by rw[eA.o];rfl,by rw[gg.o];exact HB.o⟩
       ·obtain⟨e3,e4⟩:=gT hs;have eA:Hy (R=false):=by rw[Hy,RW.o,aT hs];rfl
        clear RW hs;rcases k56 with k5|k6
        ·have b5:(xk==5)=true:=by rw[k5];rfl
         clear k5;go_wp2_with fail;go_ret;exact⟨by rw[eA.o];rfl,by rw[gg.o];exact HB.o⟩
        ·have b5:(xk==5)=false:=by rw[k6];rfl
         have b6:(xk==6)=true:=by rw[k6];rfl
         clear k6;go_wp2_with fail;go_ret;exact⟨by rw[eA.o];rfl,by rw[gg.o];exact HB.o⟩
      ·have b5:(xk==5)=false:=by rw[ai];exact fun h=>k56 (.inl h)
       have b6:(xk==6)=false:=by rw[ai];exact fun h=>k56 (.inr h)
       have eA:Hy (R=false):=by rw[Hy,RU.o,rT,aa k7,aa k4,aa k56]
       clear RU k7 k4 k56;go_wp2_with fail;go_ret;exact⟨by rw[eA.o];rfl,by rw[gg.o];exact HB.o⟩
  ·obtain⟨e1,e2⟩:=gT ht;have eA:Hy (R=false):=by rw[Hy,uE.o,ae (.inr (.inl ht))]
   clear uE hn ht;go_wp2_with fail;go_ret;exact⟨by rw[eA.o];rfl,by rw[gg.o];exact HB.o⟩
 ·have b1:(xn !=0)=true:=by rw[aQ];exact hn
  have eA:Hy (R=false):=by rw[Hy,uE.o,ae (.inl hn)]
  clear uE hn;go_wp2_with fail;go_ret;exact⟨by rw[eA.o];rfl,by rw[gg.o];exact HB.o⟩
theorem px:F3 kH:=by rw[AN];simp[kH,Ex.text,Ex.iD,Ex.n,Ex.bE,oI]
theorem BI:∀{l m:List Ex},oI l->oI m->oI (l++m)
 |[],_,_,h=>h
 |a::l,m,h,k=>by
  rw[oI]at h;rw[aU,oI];exact⟨h.1,BI h.2 k⟩
theorem D3{x:Ex}(h:F3 x):oI [x]:=by rw[oI,oI];exact⟨h,trivial⟩
def BJ(N:Nat)(one:Bt->Bool->PZ):Prop:=∀s b,s.length<=N->F3 (one s b).1
theorem Hh{N:Nat}{one:Bt->Bool->PZ}(h:lD one)(ho:BJ N one)(m:Bt):∀(n:Nat) (l:List Ex) (s:Bt) (b:Bool),s.length<=N->oI l->oI (iS one m n l s b).1
 |0,l,s,b,_,hl=>hl
 |n+1,l,s,b,hs,hl=>by
  have h1:=(gM m s).1;rw[iS];split
  ·have h2:=h (dj m s).1 b;exact Hh h ho m n _ _ _ (by omega) (BI hl (D3 (ho _ _ (by omega))))
  ·exact hl
theorem sZ{k n:Int}{t g:Bt}{l:List Ex}(ht:t.length<=10000)(hg:g.length<=10000)(h1:-1099511627776<=n)(h2:n<=1099511627776)(h:oI l):F3 (.mk k n t g l):=by rw[F3];exact⟨ht,hg,h1,h2,h⟩
theorem Xw(k:Int):∀{l:List Ex},oI l->F3 (DQ k l)
 |[],h=>sZ (by simp) (by simp) (by omega) (by omega) h
 |[x],h=>by rw[oI]at h;exact h.1
 |_::_::_,h=>sZ (by simp) (by simp) (by omega) (by omega) h
theorem Hi{N:Nat}{one:Bt->Bool->PZ}(h:lD one)(ho:BJ N one)(k:Int)(m:Bt):BJ N (mw k m one):=fun s b hs=>by
 have h1:=h s b;exact Xw k (Hh h ho m _ _ _ _ (by omega) (D3 (ho s b hs)))
theorem Qh{N:Nat}{one:Bt->Bool->PZ}(h:lD one)(ho:BJ N one):BJ N (Co one):=Hi (sU h _ _) (Hi h ho _ _) _ _
theorem OP(s:Bt):-1099511627776<=(fa s).1/\(fa s).1<=1099511627776:=by
 unfold fa;have h:=sy (eI s [45]).1;split
 ·show -1099511627776<=-((cW (eI s [45]).1).1:Int)/\-((cW (eI s [45]).1).1:Int)<=1099511627776
  omega
 ·show -1099511627776<=((cW (eI s [45]).1).1:Int)/\((cW (eI s [45]).1).1:Int)<=1099511627776
  omega
theorem UU(val:nK):BJ 10000 (BE val):=fun s b hs=>by
 unfold BE;split
 ·split
  ·refine sZ ?_ (by simp) (by omega) (by omega) (by rw[oI];trivial);have:=(je (s.drop 1) [39]).1;rw[aj]at this;omega
  ·exact px
 ·split
  ·refine sZ ?_ (by simp) (by omega) (by omega) (by rw[oI];trivial);rw[ay];omega
  ·unfold RJ;split
   ·exact px
   ·have h:=OP (s.take (s.length-(Lib.trimLeftS (Lib.trimPrefix s [45]) wS).length));exact sZ (by simp) (by simp) h.1 h.2 (by rw[oI];trivial)
theorem D4(val:nK):BJ 10000 (iX val):=fun s b hs=>UU val _ b (au (qG s) hs)
theorem Hj:∀(l:List Bt) (s:Bt),(ja l s).1=[]\/(ja l s).1∈l
 |[],s=>.inl rfl
 |m::l,s=>by
  rw[ja];split
  ·exact .inr List.mem_cons_self
  ·rcases Hj l (dj m s).1 with h|h
   ·exact .inl h
   ·exact .inr (List.mem_cons_of_mem _ h)
theorem L4(s:Bt):(ja eL s).1.length<=10000:=by
 rcases Hj eL s with h|h
 ·rw[h];simp
 ·have:∀m∈eL,m.length<=10000:=by decide
  exact this _ h
theorem UW(val:nK)(a:PZ)(h:F3 a.1)(hs:a.2.1.length<=10000):F3 (yZ val a).1:=by
 unfold yZ;split
 ·exact h
 ·have h1:=vR eL a.2.1;refine sZ (by simp) (L4 _) (by omega) (by omega) ?_;rw[oI,oI,oI];exact⟨h,D4 val _ _ (by omega),trivial⟩
theorem Qi(val:nK):∀n:Nat,BJ 10000 (oY val n)
 |0=>fun _ _ _=>px
 |n+1=>fun s b hs=>by
  have ih:=Qi val n;have h1:=(gM [33] s).1;have h2:=(gM [40] (dj [33] s).1).1;rw[oY];split
  ·exact px
  ·split
   ·exact sZ (by simp) (by simp) (by omega) (by omega) (D3 (ih _ _ (by omega)))
   ·split
    ·unfold uR;split
     ·exact Qh (uS val n) ih _ _ (by omega)
     ·exact px
    ·refine UW val _ (D4 val _ _ (by omega)) ?_;have:=qH val (dj [40] (dj [33] s).1).1 b;omega
def lf(val:nK)(s:Bt):PZ:=Co (oY val (s.length+1)) s false
def ob(val:nK)(s:Bt):Ex × Int:=
 if 400<s.length then(kH,2)
 else if(lf val s).2.2=true\/jY (lf val s).2.1≠[]then(kH,50)
 else if AI (lf val s).1=false then(kH,4)
 else if 16<lW (lf val s).1 then(kH,5)
 else((lf val s).1,0)
theorem RX(val:nK)(s:Bt):F3 (ob val s).1:=by
 unfold ob;split
 ·exact px
 ·split
  ·exact px
  ·split
   ·exact px
   ·split
    ·exact px
    ·exact Qh (uS val _) (Qi val _) _ _ (by omega)
theorem UX{w:World}{name:String}{k:IntKind}{zs:List Int}(h:Lib.TabIs prog w name k zs){g:Nat}(hg:prog.globalNamed name=some g):g<w.heap.size:=by
 unfold Lib.TabIs World.var? at h;rw[hg]at h;rcases Nat.lt_or_ge g w.heap.size with h1|h1
 ·exact h1
 ·simp[Array.getElem?_eq_none h1]at h
theorem PS.new{w w':World}(hg:eK w)(s:Bt)(hb:Below w.heap.size w w'):PS (w'.alloc (.cells #[.string (bs s),.bool false] 223)) w'.heap.size s false:=by
 have cg:Below w.heap.size w (w'.alloc (.cells #[.string (bs s),.bool false] 223)):=hb.alloc hb.size _;have hl:=hb.size;refine⟨bL.new w' 223 #[.string (bs s),.bool false],hg.below cg,?_,fun g Nu=>br (UX hg.2 Nu) hl⟩;obtain⟨m,hm⟩:=hg.1;exact br (aq w _ hm) hl
def Hk(w:World)(z:Ex × Int)(e:Ending)(W:World):Prop:=∃A c,e=.returned (.tuple #[da z.1 (.slice A z.1.bE.length c),.int .i64 z.2])/\GR W (fun k=>w.heap.size<=k) (.row 5 (z.1.bE.map Ex.gv)) [.slice A z.1.bE.length c]/\Below w.heap.size w W
theorem jh{w:World}{X:Nat}{tmps:Array Value}{x:Ex}{kv:Value}{k:Int}(h2:tmps[2]?.getD undef=.pointer (some ⟨X,0,none⟩))(h3:tmps[3]?.getD undef=.int .i64 k)(B0:bL w X 202 (bH x kv).toArray):
 (results f150 tmps).run prog w=.ok (.tuple #[da x kv,.int .i64 k]) w:=by
 obtain⟨a0,a1,a2,a3,a4⟩:=kK B0;simp[bH]at a0 a1 a2 a3 a4;simp[results,results150,go_sem,h2,h3,a0,a1,a2,a3,a4,da,bH]
structure Xx(w W:World)(X:Nat):Prop where
 rz:∃a0 a1 a2 a3 a4,bL W X 202 #[a0,a1,a2,a3,a4]
 below:Below w.heap.size w W
 hX:w.heap.size<=X
section
variable {w W W':World} {X:Nat}
theorem Xx.step{row:Option Nat}(h:Xx w W X)(hg:W.grownBy W' row)(hr:∀k,row=some k->w.heap.size<=k/\k≠X):Xx w W' X:=by
 obtain⟨a0,a1,a2,a3,a4,hB⟩:=h.rz;exact⟨⟨a0,a1,a2,a3,a4,hB.grown hg (fun e=>(hr X e.symm).2 rfl)⟩,h.below.trans (bN hg h.below.size (fun k hk=>(hr k hk).1)),h.hX⟩
theorem Xx.next(h:Xx w W X)(hb:Below W.heap.size W W'):Xx w W' X:=h.step (eR hb none) (by simp)
theorem Xx.fin(h:Xx w W X)(x:Ex)(k:Int){A:Option Addr}{c:Nat}(hk:GR W (fun k=>w.heap.size<=k/\k≠X) (.row 5 (x.bE.map Ex.gv)) [.slice A x.bE.length c]):
 bL (iq W X x (.slice A x.bE.length c)) X 202 (bH x (.slice A x.bE.length c)).toArray/\Hk w (x,k) (.returned (.tuple #[da x (.slice A x.bE.length c),.int .i64 k])) (iq W X x (.slice A x.bE.length c)):=by
 obtain⟨a0,a1,a2,a3,a4,hB⟩:=h.rz;have hs:=xM W X x (.slice A x.bE.length c);refine⟨G7 hB x _,A,c,rfl,?_,LO h.below h.hX x _⟩;exact GR.mono (fun k hk=>hk.1) (fun k hk bW=>hs.block k bW (fun e=>hk.2 (ar e))) _ _ hk
end
theorem F4(val:nK)(jj:qE y7 val)(s:Bt)(hs:s.length<=10000000)(w:World)(hg:eK w):
 Calls prog 150 #[.string (bs s)] w (Hk w (ob val s)):=by
 have HV:Hy (ob val s=if 400<s.length then(kH,2)
  else if(lf val s).2.2=true\/jY (lf val s).2.1≠[]then(kH,50)
  else if AI (lf val s).1=false then(kH,4)
  else if 16<lW (lf val s).1 then(kH,5)
  else((lf val s).1,0)):=rfl
 generalize ob val s=R at*;have cg:Below w.heap.size w (w.alloc (.cells (bH kH (.slice none 0 0)).toArray 202)):=cU _ _;have HJ:Hy (Xx w (w.alloc (.cells (bH kH (.slice none 0 0)).toArray 202)) w.heap.size):=⟨⟨_,_,_,_,_,bL.new w 202 (bH kH (.slice none 0 0)).toArray⟩,cg,dv _⟩;have HP:=bD (PS.new hg s cg);have nF:=bD hs;have fH:((bs s).size:Int)=(s.length:Int):=by rw[bJ]
 clear hg cg hs;go_enter func150,ntmps150;go_upto_region 1 with(fail)
 change Code.wp _ _ _ _ (w.alloc (.cells (bH kH (.slice none 0 0)).toArray 202));generalize w.alloc (.cells (bH kH (.slice none 0 0)).toArray 202)=w1 at*;generalize nH:w.heap.size=X at*;have gg:=bD nH;clear nH;by_cases hl:400<s.length
 ·have tD:(400:Int)<(s.length:Int):=by omega
  have eA:Hy (R=(kH,2)):=by rw[Hy,HV.o,ae hl]
  clear HV HP hl nF;obtain⟨a0,a1,a2,a3,a4,hB⟩:=HJ.o.rz;obtain⟨e0,e1,e2,e3,e4⟩:=kK hB;simp at e0 e1 e2 e3 e4;obtain⟨g0,g1,g2,g3,g4⟩:=xV hB;clear hB;go_wp2_with fail;obtain⟨q1,q2⟩:=HJ.o.fin kH 2 (A:=none) (c:=0) cS;rw[eA.o];change bodyPost _ _ _ _ _ (iq w1 X kH (.slice none 0 0));exact ag (jh rfl rfl q1) rfl q2
 have tD:¬(400:Int)<(s.length:Int):=by omega
 have uE:Hy (R=if(lf val s).2.2=true\/jY (lf val s).2.1≠[]then(kH,50)
  else if AI (lf val s).1=false then(kH,4)
  else if 16<lW (lf val s).1 then(kH,5)
  else((lf val s).1,0)):=by rw[Hy,HV.o,aa hl]
 have E9:=HJ.o.next (cU w1 (.cells #[.string (bs s),.bool false] 223))
 have OE:Hy (X<w1.heap.size/\w.heap.size<=w1.heap.size):=by obtain⟨_,_,_,_,_,hB⟩:=HJ.o.rz;exact⟨hB.lt,HJ.o.below.size⟩
 have HC:Hy (Calls prog 171 #[.pointer (some ⟨w1.heap.size,0,none⟩)] (w1.alloc (.cells #[.string (bs s),.bool false] 223)) (rP w1.heap.size (w1.alloc (.cells #[.string (bs s),.bool false] 223)) (lf val s))):=
  Ha (oY val (s.length+1)) (uS val _) w1.heap.size s.length (by omega) (fun t b W h1 h2=>LV val jj w1.heap.size (s.length+1) t b W (by omega) (by omega) h2) s false _ (dv _) HP.o
 have HJ1:=bD E9;generalize lf val s=Z at*;obtain⟨x,t,d⟩:=Z;clear E9 HV hl HJ jj nF;simp only at uE HC;go_upto_region 4 with(fail)
 change Code.wp _ _ _ _ (w1.alloc (.cells #[.string (bs s),.bool false] 223));have xy:Hy ((w1.alloc (.cells #[.string (bs s),.bool false] 223)).heap.size=w1.heap.size+1):=size_alloc _ _;generalize w1.alloc (.cells #[.string (bs s),.bool false] 223)=w2 at*;generalize Dz:w1.heap.size=P at*;clear Dz fH tD;go_wp2_with fail;refine HC.o.mono ?_;rintro e w3 ⟨A,c,rfl,hk,hp,cO⟩;have HJ:=bD (HJ1.o.step cO (by intro k hk;injection hk with hk;subst hk;have:=OE.o;omega));have HK:Hy (GR w3 (fun k=>w.heap.size<=k/\k≠X/\k≠P) (.row 5 (x.bE.map Ex.gv)) [.slice A x.bE.length c]):=hk.dY (fun k hk=>by have:=OE.o;have:=xy.o;omega);have HPS:=bD hp;clear hk hp cO HC HJ1 HP;simp only[da,bH]at*;have cg:Below w3.heap.size w3 (w3.alloc (.cells (bH x (.slice A x.bE.length c)).toArray 202)):=cU _ _;have HY:=bD (bL.new w3 202 (bH x (.slice A x.bE.length c)).toArray);have HJ2:=bD (HJ.o.next cg);have P8:=bD (HK.o.below cg);have ab7:=bD (HPS.o.below cg);have HYX:Hy (w3.heap.size≠X/\w3.heap.size≠P):=by
  obtain⟨_,_,_,_,_,hB⟩:=HJ.o.rz;have:=hB.lt;have:=HPS.o.iz.lt;exact⟨by omega,by omega⟩
 simp only[bH]at HY HJ2 P8 ab7;clear cg HJ HK HPS;go_upto_region 5 with(fail)
 change Code.wp _ _ _ _ (w3.alloc (.cells [Value.int .i64 x.kind,.int .i64 x.n,.string (bs x.text),.string (bs x.iD),.slice A x.bE.length c].toArray 202));generalize w3.alloc (.cells [Value.int .i64 x.kind,.int .i64 x.n,.string (bs x.text),.string (bs x.iD),.slice A x.bE.length c].toArray 202)=w4 at*;generalize hYY:w3.heap.size=Y at*;clear hYY;have qT:=bD (sV t d P w4 ab7.o);go_wp2_with fail;refine qT.o.mono ?_;rintro e w5 ⟨rfl,hp,cO⟩;have HJ:=bD (HJ2.o.step cO (by intro k hk;injection hk with hk;subst hk;have:=OE.o;omega));have HK:Hy (GR w5 (fun k=>w.heap.size<=k/\k≠X/\k≠P) (.row 5 (x.bE.map Ex.gv)) [.slice A x.bE.length c]):=GR.mono (fun k hk=>hk) (fun k hk bW=>cO.block k bW (fun e=>hk.2.2 (ar e))) _ _ P8.o;have zH:=bD (HY.o.grown cO (by intro e;injection e with e;exact HYX.o.2 e));have b0:=hp.iz.cell 0;have b1:=hp.iz.cell 1;simp at b0 b1;clear hp cO HJ2 P8 HY ab7 qT;generalize jY t=T at*;cases d with
 |true=>
  have eA:Hy (R=(kH,50)):=by rw[Hy,uE.o,ae (.inl rfl)]
  clear uE HK zH;obtain⟨a0,a1,a2,a3,a4,hB⟩:=HJ.o.rz;obtain⟨e0,e1,e2,e3,e4⟩:=kK hB;simp at e0 e1 e2 e3 e4;obtain⟨g0,g1,g2,g3,g4⟩:=xV hB;clear hB;go_wp2_with fail;obtain⟨q1,q2⟩:=HJ.o.fin kH 50 (A:=none) (c:=0) cS;rw[eA.o];change bodyPost _ _ _ _ _ (iq w5 X kH (.slice none 0 0));exact ag (jh rfl rfl q1) rfl q2
 |false=>
 by_cases hT:T=[]
 case neg=>
  obtain⟨h1,h2⟩:=gT hT;have eA:Hy (R=(kH,50)):=by rw[Hy,uE.o,ae (.inr hT)]
  clear uE HK zH hT;obtain⟨a0,a1,a2,a3,a4,hB⟩:=HJ.o.rz;obtain⟨e0,e1,e2,e3,e4⟩:=kK hB;simp at e0 e1 e2 e3 e4;obtain⟨g0,g1,g2,g3,g4⟩:=xV hB;clear hB;go_wp2_with fail;obtain⟨q1,q2⟩:=HJ.o.fin kH 50 (A:=none) (c:=0) cS;rw[eA.o];change bodyPost _ _ _ _ _ (iq w5 X kH (.slice none 0 0));exact ag (jh rfl rfl q1) rfl q2
 case pos=>
 obtain⟨h1,h2⟩:=fE hT;have tN:Hy (R=if AI x=false then(kH,4)else if 16<lW x then(kH,5)else(x,0)):=by rw[Hy,uE.o,aa (by simp[hT])]
 clear uE hT;have HF:=bD (BH x A c _ w5 HK.o);have lQ:=@AK x;have eH:=bD lQ;clear lQ;generalize hff:AI x=ff at*;clear hff;simp only[da,bH]at HF;obtain⟨y0,y1,y2,y3,y4⟩:=kK zH.o;simp at y0 y1 y2 y3 y4;go_wp2_with fail;refine HF.o.mono ?_;rintro e w6 ⟨rfl,mo⟩;have HJ6:=bD (HJ.o.next mo);have HK6:=bD (HK.o.below mo);have ZN:=bD (zH.o.below mo zH.o.lt);clear mo HF HJ HK zH y0 y1 y2 y3 y4 b0 b1;have HJ:=HJ6;have zH:=ZN;clear HJ6 ZN;cases ff with
 |false=>
  have eA:Hy (R=(kH,4)):=by rw[Hy,tN.o,ae rfl]
  clear tN HK6 zH;obtain⟨a0,a1,a2,a3,a4,hB⟩:=HJ.o.rz;obtain⟨e0,e1,e2,e3,e4⟩:=kK hB;simp at e0 e1 e2 e3 e4;obtain⟨g0,g1,g2,g3,g4⟩:=xV hB;clear hB;go_wp2_with fail;obtain⟨q1,q2⟩:=HJ.o.fin kH 4 (A:=none) (c:=0) cS;rw[eA.o];change bodyPost _ _ _ _ _ (iq w6 X kH (.slice none 0 0));exact ag (jh rfl rfl q1) rfl q2
 |true=>
 have RU:Hy (R=if 16<lW x then(kH,5)else(x,0)):=by rw[Hy,tN.o,aa (by simp)]
 have HD:=bD (y9 (lV x) x A c _ w6 (dv _) (by have:=eH.o rfl;omega) HK6.o);simp only[da,bH]at HD;have hdd:=DU x;have G1:Hy (lW x<=1000):=by have:=eH.o rfl;rw[Hy];omega
 clear tN hdd eH;generalize hDE:lW x=de at*;clear hDE;obtain⟨y0,y1,y2,y3,y4⟩:=kK zH.o;simp at y0 y1 y2 y3 y4;go_wp2_with fail;refine HD.o.mono ?_;rintro e w7 ⟨rfl,lH⟩;have HJ7:=bD (HJ.o.next lH);have HK7:=bD (HK6.o.below lH);have HY7:=bD (zH.o.below lH zH.o.lt);clear lH HD HJ HK6 zH y0 y1 y2 y3 y4;have HJ:=HJ7;have zH:=HY7;clear HJ7 HY7;by_cases hd:16<de
 ·have QJ:(16:Int)<(de:Int):=by omega
  have eA:Hy (R=(kH,5)):=by rw[Hy,RU.o,ae hd]
  clear RU HK7 zH hd;obtain⟨a0,a1,a2,a3,a4,hB⟩:=HJ.o.rz;obtain⟨e0,e1,e2,e3,e4⟩:=kK hB;simp at e0 e1 e2 e3 e4;obtain⟨g0,g1,g2,g3,g4⟩:=xV hB;clear hB;go_wp2_with fail;obtain⟨q1,q2⟩:=HJ.o.fin kH 5 (A:=none) (c:=0) cS;rw[eA.o];change bodyPost _ _ _ _ _ (iq w7 X kH (.slice none 0 0));exact ag (jh rfl rfl q1) rfl q2
 ·have QJ:¬(16:Int)<(de:Int):=by omega
  have eA:Hy (R=(x,0)):=by rw[Hy,RU.o,aa hd]
  clear RU hd;obtain⟨y0,y1,y2,y3,y4⟩:=kK zH.o;simp at y0 y1 y2 y3 y4;obtain⟨a0,a1,a2,a3,a4,hB⟩:=HJ.o.rz;obtain⟨e0,e1,e2,e3,e4⟩:=kK hB;simp at e0 e1 e2 e3 e4;obtain⟨g0,g1,g2,g3,g4⟩:=xV hB;clear hB;go_wp2_with fail;obtain⟨q1,q2⟩:=HJ.o.fin x 0 (HK7.o.dY (fun k hk=>⟨hk.1,hk.2.1⟩));rw[eA.o];change bodyPost _ _ _ _ _ (iq w7 X x (.slice A x.bE.length c));exact ag (jh rfl rfl q1) rfl q2
end Go.Proofs.YtejafaaihodehaaGreatDoor
