/- Part 27. -/
import Derived.Test.YtejafaaihodehaaGreatDoorZ26
import Derived.BigRegion
set_option linter.all false
set_option maxRecDepth 100000
set_option maxHeartbeats 8000000
namespace Go.Proofs.YtejafaaihodehaaGreatDoor
open Go Go.RowKit Tryz
theorem Pn(s t:ByteArray):lF (L s) (L t)=(decide (t.size<=s.size)&&((s.extract 0 t.size).toList==t.toList)):=by
 unfold lF;rw[cw,cw,dX,bm,cm s,cm t]
theorem nu(s t:ByteArray)(w:World):Calls prog 40 #[.string s,.string t] w fun e w'=>e=.returned (.bool (lF (L s) (L t)))/\w=w':=by
 rw[Pn];by_cases h:t.size<=s.size
 ·have hd:decide ((t.size:Int)<=(s.size:Int))=true:=by simpa using h
  have Tr:(t.size:Int)<=(s.size:Int):=by omega
  rw[aS h,Bool.true_and];cases hq:((s.extract 0 t.size).toList==t.toList)with
  |true=>
   go_enter func40,ntmps40;go_wp2_with fail;go_ret;exact⟨rfl,rfl⟩
  |false=>
   go_enter func40,ntmps40;go_wp2_with fail;go_ret;exact⟨rfl,rfl⟩
 ·have hd:decide ((t.size:Int)<=(s.size:Int))=false:=by simpa using h
  have Tr:¬(t.size:Int)<=(s.size:Int):=by omega
  rw[aT h,Bool.false_and];go_enter func40,ntmps40;go_wp2_with fail;go_ret;exact⟨rfl,rfl⟩
theorem JS(b:Bool)(w:World):
 Calls prog 39 #[.bool b] w fun e w'=>e=.returned (.slice (some ⟨w.heap.size,0,none⟩) 3 3)/\
  w.alloc (.cells #[.string (bs fM),.string (bs ew),.string (bs (eS b))] 9)=w':=by
 cases b
 ·go_enter func39,ntmps39;go_wp2;go_ret;exact⟨rfl,rfl⟩
 ·go_enter func39,ntmps39;go_wp2;go_ret;exact⟨rfl,rfl⟩
def qj(b:Bool)(j:Nat):Bt:=if j=0 then fM else if j=1 then ew else eS b
theorem MC{b:Bool}{s:Bt}(hs:s≠[]){j:Nat}(hj:j<3)(h0:∀i,i<j->iH s (qj b i)=false)(h:iH s (qj b j)=true):eJ b s=qj b j:=by
 unfold eJ;rw[aa hs];have e0:qj b 0=fM:=rfl;have e1:qj b 1=ew:=rfl;have e2:qj b 2=eS b:=rfl
 match j,hj with
 |0,_=>rw[e0]at h|-;rw[ae h]
 |1,_=>
  have g0:=h0 0 (by omega);rw[e0]at g0;rw[e1]at h|-;rw[g0,aa (by simp),ae h]
 |2,_=>
  have g0:=h0 0 (by omega);have g1:=h0 1 (by omega);rw[e0]at g0;rw[e1]at g1;rw[e2]at h|-;rw[g0,aa (by simp),g1,aa (by simp),ae h]
theorem JT{b:Bool}{s:Bt}(h:s=[]\/∀i,i<3->iH s (qj b i)=false):eJ b s=[]:=by
 unfold eJ;rcases h with h|h
 ·rw[ae h]
 ·have g0:iH s fM=false:=h 0 (by omega);have g1:iH s ew=false:=h 1 (by omega);have g2:iH s (eS b)=false:=h 2 (by omega);rw[g0,g1,g2];simp
theorem qM(s:ByteArray)(b:Bool)(w:World):
 Calls prog 25 #[.string s,.bool b] w fun e w'=>e=.returned (.string (bs (eJ b (L s))))/\Below w.heap.size w w':=by
 go_enter func25,ntmps25;go_wp2_with fail;refine(JS b w).mono ?_;rintro e w1 ⟨rfl,jz⟩;have hB:bL w1 w.heap.size 9 #[.string (bs fM),.string (bs ew),.string (bs (eS b))]:=by rw[<-jz];exact bL.new _ _ _
 have V0:Hy (Below w.heap.size w w1):=by rw[Hy,<-jz];exact cU _ _
 have qT:Hy (∀j,j<3->w1.cell? ⟨w.heap.size,j,none⟩=some (.string (bs (qj b j)))):=by
  intro j hj
  match j,hj with
  |0,_=>exact hB.cell 0
  |1,_=>exact hB.cell 1
  |2,_=>exact hB.cell 2
 clear hB jz;generalize YM:w.heap.size=g at*;have HGG:=bD YM;clear YM;go_wp2_with fail;go_loopw [6,10] (fun _ i wr=>∃j:Nat,j<=3/\i=.int .i64 j/\wr=w1/\Hy (L s=[]\/∀i,i<j->iH (L s) (qj b i)=false))
  (fun _ i _=>3-(intOf i).toNat)
 case atStart=>exact⟨0,by omega,rfl,rfl,.inr fun i hi=>aX hi (by omega)⟩
 case round=>
  obtain⟨j,hj,rfl,rfl,HM⟩:=hrel;by_cases bW:j<3
  ·have c0:=qT.o j bW;have Zl:(j:Int)<3:=by omega
   have HNX:Hy (iH (L s) (qj b j)=false->L s=[]\/∀i,i<j+1->iH (L s) (qj b i)=false):=fun h=>by
    rcases HM.o with h0|h0
    ·exact .inl h0
    ·refine .inr fun i hi=>?_;by_cases e:i=j
     ·rw[e];exact h
     ·exact h0 i (by omega)
   have HFD:Hy (L s≠[]->iH (L s) (qj b j)=true->eJ b (L s)=qj b j):=fun hs h=>by
    rcases HM.o with h0|h0
    ·exact aX h0 hs
    ·exact MC hs bW h0 h
   have HBH:=bD (Va (L s) (qj b j));generalize qj b j=m at*;cases hs:s.toList.isEmpty with
   |true=>
    have HSE:Hy (L s=[]):=by rw[cw]at hs;exact List.isEmpty_iff.1 hs
    go_wp2_with fail;go_roundw
    case rel=>exact⟨j+1,by omega,by go_num,trivial,.inl HSE.o⟩
    case measure=>simp[intOf];omega
   |false=>
    have HSE:Hy (L s≠[]):=by rw[cw]at hs;exact fun h=>by rw[h]at hs;cases hs
    go_wp2_with fail;refine(nu s (bs m) wr).mono ?_;rintro e w2 ⟨rfl,rfl⟩;rw[eB];cases dG:lF (L s) m with
    |true=>
     have HR:Hy (eJ b (L s)=m):=HFD.o HSE.o (by rw[<-HBH.o,dG];rfl);go_wp2_with fail;go_ret;exact⟨by rw[HR.o];rfl,by rw[HGG.o];exact V0.o⟩
    |false=>
     go_wp2_with fail;refine(nu (bs m) s wr).mono ?_;rintro e w3 ⟨rfl,rfl⟩;rw[eB];cases cu:lF m (L s)with
     |true=>
      have HR:Hy (eJ b (L s)=m):=HFD.o HSE.o (by rw[<-HBH.o,dG,cu];rfl);go_wp2_with fail;go_ret;exact⟨by rw[HR.o];rfl,by rw[HGG.o];exact V0.o⟩
     |false=>
      have HNN:=bD (HNX.o (by rw[<-HBH.o,dG,cu];rfl));go_wp2_with fail;go_roundw
      case rel=>exact⟨j+1,by omega,by go_num,trivial,HNN.o⟩
      case measure=>simp[intOf];omega
  ·have Wg:j=3:=by omega
   subst Wg;have HR:Hy (eJ b (L s)=[]):=JT HM.o;go_wp2_with fail;go_ret;exact⟨by rw[HR.o];rfl,by rw[HGG.o];exact V0.o⟩
def Vj(s:ByteArray)(w:World)(F:eN bG)(e:Ending)(w':World):Prop:=
 Below w.heap.size w w'/\∃kd nm A n c a z sh,e=.returned (.tuple #[.agg #[.int .i64 kd,.string nm,.slice A n c],.agg #[.string s,.int .i64 a,.int .i64 z,.bool sh]])/\an3 s (Rs.of F) a z sh/\
  ∀t r k,F=.ok t r k->kd=t.kind/\L nm=t.text/\GR w' (fun g=>w.heap.size<=g) (.row 2 (t.bK.map bY.gv)) [.slice A n c]
def ao0(W:World)(R:Nat)(x0 x1 x2 x3:Value):World:=(((W.setCell ⟨R,0,none⟩ x0).setCell ⟨R,1,none⟩ x1).setCell ⟨R,2,none⟩ x2).setCell ⟨R,3,none⟩ x3
theorem Po{a W:World}{R:Nat}{row:Option Nat}(h:a.grownBy W row)(hR:some R=row\/a.heap.size<=R)(x0 x1 x2 x3:Value):a.grownBy (ao0 W R x0 x1 x2 x3) row:=
 bF (bF (bF (bF h hR _) hR _) hR _) hR _
theorem ao1(W:World)(X Y:Nat)(x0 x1 x2 y0 y1 y2 y3:Value)(g:Nat)(bW:g<W.heap.size)(h1:g≠X)(h2:g≠Y):(ao0 (j5 W X x0 x1 x2) Y y0 y1 y2 y3).drew.heap[g]?=W.heap[g]?:=by
 have a:=kL (bR W (some X)) (.inl rfl) x0 x1 x2;have b:=dF (Po (bR (j5 W X x0 x1 x2) (some Y)) (.inl rfl) y0 y1 y2 y3) 1;exact(b.block g (br bW a.size) (fun e=>h2 (ar e))).trans (a.block g bW (fun e=>h1 (ar e)))
theorem MD(closing:Bool)(s:ByteArray)(b:Nat)(w:World)(h:gb w b s (.go 0))(hs:s.size<=10000000)(h5:5<=s.size)(h6:closing=true->6<=s.size):
 Calls prog 41 #[.pointer (some ⟨b,0,none⟩),.bool closing] w (EJ b s w (jm closing (L s))):=by
 cases closing with
 |true=>exact Pm s b w h hs (h6 rfl)
 |false=>exact Sr s b w h hs h5
theorem XM{s t:Bt}(h:lF s t=true):t.length<=s.length:=by
 unfold lF at h;rw[aG,aH]at h;exact h.1
theorem BU(s:ByteArray)(w:World)(hs:s.size<=10000000)(h5:5<=s.size):
 Calls prog 26 #[.string s] w (Vj s w (jm (lF (L s) ew) (L s))):=by
 have h6:lF (L s) ew=true->6<=s.size:=fun h=>by have:=XM h;rw[cm];exact this
 have nz:=bL.new w 75 #[.int .i64 0,.string ⟨#[]⟩,.slice none 0 0];have hJ:=bL.new (w.alloc (.cells #[.int .i64 0,.string ⟨#[]⟩,.slice none 0 0] 75)) 77 #[.string ⟨#[]⟩,.int .i64 0,.int .i64 0,.bool false];have dm:=bL.new ((w.alloc (.cells #[.int .i64 0,.string ⟨#[]⟩,.slice none 0 0] 75)).alloc (.cells #[.string ⟨#[]⟩,.int .i64 0,.int .i64 0,.bool false] 77)) 77 (kc s 0 0 false);rw[size_alloc]at hJ dm;rw[size_alloc]at dm
 replace nz:=(nz.alloc (.cells #[.string ⟨#[]⟩,.int .i64 0,.int .i64 0,.bool false] 77)).alloc (.cells (kc s 0 0 false) 77)
 replace hJ:=hJ.alloc (.cells (kc s 0 0 false) 77)
 have V0:=(((cU w (.cells #[.int .i64 0,.string ⟨#[]⟩,.slice none 0 0] 75)).alloc (by simp) (.cells #[.string ⟨#[]⟩,.int .i64 0,.int .i64 0,.bool false] 77))).alloc (by rw[size_alloc,size_alloc];omega) (.cells (kc s 0 0 false) 77);have Is:gb _ (w.heap.size+1+1) s (.go 0):=⟨_,_,_,dm,ax _,rfl,rfl,rfl⟩
 replace nz:=bD nz
 replace hJ:=bD hJ
 replace V0:=bD V0
 replace Is:=bD Is
 have H6:=bD h6;clear dm h6;go_enter func26,ntmps26;go_wp2_with fail;refine(nu s _ _).mono ?_;rintro e w1 ⟨rfl,jz⟩;rw[<-jz];clear jz;rw[show L ⟨#[60,47,101,115,105,58]⟩=ew from rfl];generalize lF (L s) ew=closing at*;go_wp2_with fail;refine(MD closing s _ _ Is.o hs h5 H6.o).mono ?_;rintro e w3 hp;obtain⟨pa,h3,kd,nm,A,n,c,rfl,ht3⟩:=hp;obtain⟨a,z,sh,hbR,hi⟩:=h3;have hT:=bL.new w3 75 #[.int .i64 kd,.string nm,.slice A n c];have hX:=(nz.o.grown pa (by simp;omega)).alloc (.cells #[.int .i64 kd,.string nm,.slice A n c] 75);have hY:=(hJ.o.grown pa (by simp)).alloc (.cells #[.int .i64 kd,.string nm,.slice A n c] 75);have hR:=hbR.alloc (.cells #[.int .i64 kd,.string nm,.slice A n c] 75);have ax4:Hy (Below w.heap.size w (w3.alloc (.cells #[.int .i64 kd,.string nm,.slice A n c] 75))):=
  (V0.o.trans (bN pa V0.o.size (fun k hk=>by injection hk with hk;omega))).alloc (by have:=V0.o.size;have:=pa.size;omega) _
 have HI:=bD hi;have HTG:Hy (∀t r k,jm closing (L s)=.ok t r k->kd=t.kind/\L nm=t.text/\GR (w3.alloc (.cells #[.int .i64 kd,.string nm,.slice A n c] 75)) (fun g=>w.heap.size<=g/\g≠w.heap.size/\g≠w.heap.size+1) (.row 2 (t.bK.map bY.gv)) [.slice A n c]):=fun t r k h=>by
  obtain⟨e1,e2,e3⟩:=ht3 t r k h;refine⟨e1,e2,(e3.dY fun g hg=>?_).below (cU _ _)⟩;rw[size_alloc,size_alloc,size_alloc]at hg;exact⟨by omega,by omega,by omega⟩
 clear ht3 hi pa hbR nz hJ V0 Is H6;obtain⟨t0,t1,t2⟩:=nw hT;obtain⟨⟨c0,c1,c2,c3⟩,-,-,-⟩:=sd hR;obtain⟨x0,x1,x2⟩:=nw hX;obtain⟨y0,y1,y2,y3⟩:=lG hY;obtain⟨fx0,fx1,fx2⟩:=VE hX;obtain⟨fy0,fy1,fy2,fy3⟩:=qm hY;have HX:=bD hX;have HY:=bD hY;clear hT hR hX hY;go_upto_region 3 with(fail)
 generalize w3.heap.size=T at*;generalize w3.alloc (.cells #[.int .i64 kd,.string nm,.slice A n c] 75)=w4 at*;go_region;have kM:Below w.heap.size w (((((((w4.setCell ⟨w.heap.size,0,none⟩ (.int .i64 kd)).setCell ⟨w.heap.size,1,none⟩ (.string nm)).setCell ⟨w.heap.size,2,none⟩ (.slice A n c)).setCell ⟨w.heap.size+1,0,none⟩ (.string s)).setCell ⟨w.heap.size+1,1,none⟩ (.int .i64 a)).setCell ⟨w.heap.size+1,2,none⟩ (.int .i64 z)).setCell ⟨w.heap.size+1,3,none⟩ (.bool sh)).drew:=
  (((((((ax4.o.setCell (p:=⟨w.heap.size,0,none⟩) (dv _) _).setCell (p:=⟨w.heap.size,1,none⟩) (dv _) _).setCell (p:=⟨w.heap.size,2,none⟩) (dv _) _).setCell (p:=⟨w.heap.size+1,0,none⟩) (by show w.heap.size<=w.heap.size+1;omega) _).setCell (p:=⟨w.heap.size+1,1,none⟩) (by show w.heap.size<=w.heap.size+1;omega) _).setCell (p:=⟨w.heap.size+1,2,none⟩) (by show w.heap.size<=w.heap.size+1;omega) _).setCell (p:=⟨w.heap.size+1,3,none⟩) (by show w.heap.size<=w.heap.size+1;omega) _).drew
 have P2:bL (((((((w4.setCell ⟨w.heap.size,0,none⟩ (.int .i64 kd)).setCell ⟨w.heap.size,1,none⟩ (.string nm)).setCell ⟨w.heap.size,2,none⟩ (.slice A n c)).setCell ⟨w.heap.size+1,0,none⟩ (.string s)).setCell ⟨w.heap.size+1,1,none⟩ (.int .i64 a)).setCell ⟨w.heap.size+1,2,none⟩ (.int .i64 z)).setCell ⟨w.heap.size+1,3,none⟩ (.bool sh)).drew w.heap.size 75 #[.int .i64 kd,.string nm,.slice A n c]:=
  (((((((HX.o.cL 0 (.int .i64 kd)).cL 1 (.string nm)).cL 2 (.slice A n c)).gf (p:=⟨w.heap.size+1,0,none⟩) (by show w.heap.size≠w.heap.size+1;omega) _).gf (p:=⟨w.heap.size+1,1,none⟩) (by show w.heap.size≠w.heap.size+1;omega) _).gf (p:=⟨w.heap.size+1,2,none⟩) (by show w.heap.size≠w.heap.size+1;omega) _).gf (p:=⟨w.heap.size+1,3,none⟩) (by show w.heap.size≠w.heap.size+1;omega) _).drewN 1
 have hY5:bL (((((((w4.setCell ⟨w.heap.size,0,none⟩ (.int .i64 kd)).setCell ⟨w.heap.size,1,none⟩ (.string nm)).setCell ⟨w.heap.size,2,none⟩ (.slice A n c)).setCell ⟨w.heap.size+1,0,none⟩ (.string s)).setCell ⟨w.heap.size+1,1,none⟩ (.int .i64 a)).setCell ⟨w.heap.size+1,2,none⟩ (.int .i64 z)).setCell ⟨w.heap.size+1,3,none⟩ (.bool sh)).drew (w.heap.size+1) 77 #[.string s,.int .i64 a,.int .i64 z,.bool sh]:=
  ((((((((HY.o.gf (p:=⟨w.heap.size,0,none⟩) (by show w.heap.size+1≠w.heap.size;omega) _).gf (p:=⟨w.heap.size,1,none⟩) (by show w.heap.size+1≠w.heap.size;omega) _).gf (p:=⟨w.heap.size,2,none⟩) (by show w.heap.size+1≠w.heap.size;omega) _).cL 0 (.string s)).cL 1 (.int .i64 a)).cL 2 (.int .i64 z)).cL 3 (.bool sh)).drewN 1)
 have hG5:∀g,g<w4.heap.size->g≠w.heap.size->g≠w.heap.size+1->(((((((w4.setCell ⟨w.heap.size,0,none⟩ (.int .i64 kd)).setCell ⟨w.heap.size,1,none⟩ (.string nm)).setCell ⟨w.heap.size,2,none⟩ (.slice A n c)).setCell ⟨w.heap.size+1,0,none⟩ (.string s)).setCell ⟨w.heap.size+1,1,none⟩ (.int .i64 a)).setCell ⟨w.heap.size+1,2,none⟩ (.int .i64 z)).setCell ⟨w.heap.size+1,3,none⟩ (.bool sh)).drew.heap[g]?=w4.heap[g]?:=fun g h0 h1 h2=>
  ao1 w4 _ _ _ _ _ _ _ _ _ g h0 h1 h2
 generalize(((((((w4.setCell ⟨w.heap.size,0,none⟩ (.int .i64 kd)).setCell ⟨w.heap.size,1,none⟩ (.string nm)).setCell ⟨w.heap.size,2,none⟩ (.slice A n c)).setCell ⟨w.heap.size+1,0,none⟩ (.string s)).setCell ⟨w.heap.size+1,1,none⟩ (.int .i64 a)).setCell ⟨w.heap.size+1,2,none⟩ (.int .i64 z)).setCell ⟨w.heap.size+1,3,none⟩ (.bool sh)).drew=WF at*;obtain⟨q0,q1,q2⟩:=nw P2;obtain⟨p0,p1,p2,p3⟩:=lG hY5;have kf:=bD kM;have tP:=bD hG5;clear kM hG5 P2 hY5;go_wp2_with fail;refine ag (v:=.tuple #[.agg #[.int .i64 kd,.string nm,.slice A n c],.agg #[.string s,.int .i64 a,.int .i64 z,.bool sh]]) (by simp[results,results26,go_sem,q0,q1,q2,p0,p1,p2,p3]) rfl ⟨kf.o,kd,nm,A,n,c,a,z,sh,rfl,HI.o,fun t r k h=>?_⟩;obtain⟨e1,e2,e3⟩:=HTG.o t r k h;exact⟨e1,e2,GR.mono (fun g hg=>hg.1) (fun g hg bW=>tP.o g bW hg.2.1 hg.2.2) _ _ e3⟩
theorem Gh(b:Bool)(s:Bt):eJ b s=[]\/eJ b s=fM\/eJ b s=ew\/eJ b s=ox\/eJ b s=tB:=by
 rw[xS];split
 ·exact qD b s
 ·exact .inl rfl
theorem zv{b:Bool}{s:Bt}(h:eJ b s≠[]):iH s (eJ b s)=true:=by
 unfold eJ at h|-;by_cases hs:s=[]
 ·rw[ae hs]at h;exact aX rfl h
 rw[aa hs]at h|-;by_cases h1:iH s fM=true
 ·rw[ae h1];exact h1
 rw[aa h1]at h|-;by_cases h2:iH s ew=true
 ·rw[ae h2];exact h2
 rw[aa h2]at h|-;by_cases h3:iH s (eS b)=true
 ·rw[ae h3];exact h3
 rw[aa h3]at h;exact aX rfl h
theorem BV{s m:Bt}(h:iH s m=true)(hl:m.length<=s.length):lF s m=true:=by
 unfold iH at h;unfold lF;rw[aO hl]at h;rw[h,aS hl];rfl
theorem zw(rest:ByteArray)(b:Bool)(w:World)(hs:rest.size<=10000000):
 Calls prog 24 #[.agg #[.string rest,.bool b]] w fun e w'=>e=.returned (.bool (jo ⟨L rest,b⟩))/\Below w.heap.size w w':=by
 have hX:=bL.new w 53 #[.string rest,.bool b];have nz:=bD (cU w (.cells #[.string rest,.bool b] 53));have HX:=bD hX;have c0:=hX.cell 0;have c1:=hX.cell 1;have HR:Hy (jo ⟨L rest,b⟩=zq ⟨L rest,b⟩):=Sj _;unfold zq at HR;simp only at HR;generalize jo ⟨L rest,b⟩=RF at*;clear hX;cases Vk:rest.toList.isEmpty with
 |true=>
  have SQ:Hy (RF=true):=by
   rw[cw]at Vk;rw[Hy,HR.o,ae (List.isEmpty_iff.1 Vk)]
  clear HR;go_enter func24,ntmps24;go_wp2_with fail;go_ret;exact⟨by rw[SQ.o];rfl,nz.o⟩
 |false=>
  have ao2:¬L rest=[]:=by rw[cw]at Vk;exact fun h=>by rw[h]at Vk;cases Vk
  rw[aa ao2]at HR;have Zb:=bD (Gh b (L rest));have HMH:=bD (zv (b:=b) (s:=L rest));have HMC:=bD (qM rest b (w.alloc (.cells #[.string rest,.bool b] 53)));generalize eJ b (L rest)=m at*;clear ao2;go_enter func24,ntmps24;go_wp2_with fail;refine HMC.o.mono ?_;rintro e w2 ⟨rfl,cu⟩;have VP:=HX.o.below cu HX.o.lt;have d0:=VP.cell 0;have d1:=VP.cell 1;have dm:=bD (nz.o.trans (cu.mono nz.o.size));have hsm:(bs m).size=m.length:=bJ m;have Fy:(bs m).toList=m:=bQ m;have vK:(L rest).length=rest.size:=(cm rest).symm;clear cu HMC HX nz c0 c1 VP;by_cases tI:m=[]
  ·have zI:Hy (RF=false):=by rw[Hy,HR.o,ae (.inl tI),tI];simp
   have Yp:m.isEmpty=true:=by rw[tI];rfl
   clear HR tI;go_wp2_with fail;go_ret;exact⟨by rw[zI.o];rfl,dm.o⟩
  ·have Yp:m.isEmpty=false:=by simpa using tI
   by_cases KL:rest.size<m.length
   ·have zI:Hy (RF=true):=by rw[Hy,HR.o,ae (.inr (by rw[vK];exact KL))];simpa using tI
    have ax5:(rest.size:Int)<(m.length:Int):=by omega
    have ax6:decide ((rest.size:Int)<(m.length:Int))=true:=by simpa using KL
    clear HR tI KL;go_wp2_with fail;go_ret;exact⟨by rw[zI.o];rfl,dm.o⟩
   ·have ax5:¬(rest.size:Int)<(m.length:Int):=by omega
    have ax6:decide ((rest.size:Int)<(m.length:Int))=false:=by simpa using KL
    rw[aa (by rw[vK];exact fun h=>h.elim tI KL)]at HR;have Vl:lF (L rest) m=true:=BV (HMH.o tI) (by rw[vK];omega);have HBG:=bD Vl;have Zc:=bD KL;clear tI KL Vl HMH;by_cases hB:m=tB
    ·have zI:Hy (RF=false):=by rw[Hy,HR.o,ae (.inl hB)]
     have dG:(m==[45,45,62])=true:=by rw[hB];rfl
     clear HR hB;go_wp2_with fail;go_ret;exact⟨by rw[zI.o];rfl,dm.o⟩
    ·have dG:(m==[45,45,62])=false:=ai.2 hB;by_cases tX:m=ox
     ·have zI:Hy (RF=false):=by rw[Hy,HR.o,ae (.inr tX)]
      have cu:(m==[60,33,45,45,101,115,105])=true:=by rw[tX];rfl
      clear HR hB tX;go_wp2_with fail;go_ret;exact⟨by rw[zI.o];rfl,dm.o⟩
     ·have cu:(m==[60,33,45,45,101,115,105])=false:=ai.2 tX;rw[aa (fun h=>h.elim hB tX)]at HR;have hmo:m=fM\/m=ew:=by
       rcases Zb.o with h|h|h|h|h
       ·rw[h]at Yp;cases Yp
       ·exact .inl h
       ·exact .inr h
       ·exact aX h tX
       ·exact aX h hB
      have h5:5<=rest.size:=by
       have:=Zc.o;rcases hmo with h|h
       ·rw[h]at this;have e:fM.length=5:=rfl;omega
       ·rw[h]at this;have e:ew.length=6:=rfl;omega
      rw[Ms hmo HBG.o]at HR;have HTC:=bD (BU rest w2 hs h5);generalize jm (lF (L rest) ew) (L rest)=F at*;clear hB tX hmo h5 HBG Zc Zb;go_wp2_with fail;refine HTC.o.mono ?_;rintro e w3 hp;obtain⟨fm,kd,nm,A,n,c,a,z,sh,rfl,hi,-⟩:=hp;have gI:=bD (dm.o.trans (fm.mono dm.o.size));have iW:=bD (((gI.o.alloc gI.o.size (.cells #[.int .i64 kd,.string nm,.slice A n c] 75)).alloc (by rw[size_alloc];have:=gI.o.size;omega) (.cells #[.string rest,.int .i64 a,.int .i64 z,.bool sh] 77)));clear fm HTC d0 d1;cases F with
      |short=>
       obtain⟨rfl,rfl⟩:=hi;have zI:Hy (RF=true):=HR.o;clear HR;go_wp2_with fail;go_ret;exact⟨by rw[zI.o];rfl,iW.o⟩
      |ok t r k=>
       obtain⟨-,rfl,rfl,rfl⟩:=hi;have zI:Hy (RF=false):=HR.o;clear HR;go_wp2_with fail;go_ret;exact⟨by rw[zI.o];rfl,iW.o⟩
      |bad y=>
       obtain⟨rfl,-,rfl⟩:=hi;have zI:Hy (RF=false):=HR.o;clear HR;go_wp2_with fail;go_ret;exact⟨by rw[zI.o];rfl,iW.o⟩
theorem XN(x:gG):ig x=if jo x=true then(if lF x.rest fM||lF x.rest ew then([],40)else if x.rest=[]then([],0)else([bS x.rest],0))else([],1):=by
 have h:∀m s:Bt,m.isPrefixOf s=lF s m:=fun m s=>by
  unfold lF;rw[bj,List.isPrefixOf_iff_prefix,aG,aH,beq_iff_eq,List.prefix_iff_eq_take];constructor
  ·intro h;have hl:=congrArg List.length h;rw[ay]at hl;exact⟨by omega,h.symm⟩
  ·intro h;exact h.2.symm
 unfold ig;rw[h,h]
theorem Pp(rest:ByteArray)(b:Bool)(w:World)(hs:rest.size<=10000000):
 Calls prog 27 #[.agg #[.string rest,.bool b]] w fun e w'=>(∃v,e=.returned (.tuple #[v,.int .i64 (ig ⟨L rest,b⟩).2])/\GR w' (fun g=>w.heap.size<=g) (.row 3 ((ig ⟨L rest,b⟩).1.map bG.gv)) [v])/\Below w.heap.size w w':=by
 have hX:=bL.new w 53 #[.string rest,.bool b];have nz:=bD (cU w (.cells #[.string rest,.bool b] 53));have HX:=bD hX;have c0:=hX.cell 0;have c1:=hX.cell 1;have HR:Hy (ig ⟨L rest,b⟩=_):=XN _;simp only at HR;generalize ig ⟨L rest,b⟩=E at*;clear hX;go_enter func27,ntmps27;go_wp2_with fail;refine(zw rest b _ hs).mono ?_;rintro e w2 ⟨rfl,cu⟩;have VP:=HX.o.below cu HX.o.lt;have d0:=VP.cell 0;have d1:=VP.cell 1;have dm:=bD (nz.o.trans (cu.mono nz.o.size));clear cu HX nz c0 c1 VP;cases J5:jo ⟨L rest,b⟩with
 |false=>
  rw[J5,aa (by simp)]at HR;clear J5;go_wp2_with fail;go_ret2;exact⟨⟨_,by rw[HR.o];rfl,by rw[HR.o];exact cS⟩,dm.o⟩
 |true=>
  rw[J5,ae rfl]at HR;clear J5;go_wp2_with fail;refine(nu rest _ w2).mono ?_;rintro e w3 ⟨rfl,rfl⟩;rw[show L ⟨#[60,101,115,105,58]⟩=fM from rfl];cases h1:lF (L rest) fM with
  |true=>
   rw[h1,Bool.true_or,ae rfl]at HR;go_wp2_with fail;go_ret2;exact⟨⟨_,by rw[HR.o];rfl,by rw[HR.o];exact cS⟩,dm.o⟩
  |false=>
   rw[h1,Bool.false_or]at HR;clear h1;go_wp2_with fail;refine(nu rest _ w2).mono ?_;rintro e w3 ⟨rfl,rfl⟩;rw[show L ⟨#[60,47,101,115,105,58]⟩=ew from rfl];cases h2:lF (L rest) ew with
   |true=>
    rw[h2,ae rfl]at HR;go_wp2_with fail;go_ret2;exact⟨⟨_,by rw[HR.o];rfl,by rw[HR.o];exact cS⟩,dm.o⟩
   |false=>
    rw[h2,aa (by simp)]at HR;clear h2;cases Vk:rest.toList.isEmpty with
    |true=>
     rw[ae (by rw[cw]at Vk;exact List.isEmpty_iff.1 Vk)]at HR;go_wp2_with fail;go_ret2;exact⟨⟨_,by rw[HR.o];rfl,by rw[HR.o];exact cS⟩,dm.o⟩
    |false=>
     rw[aa (by rw[cw]at Vk;exact fun h=>by rw[h]at Vk;cases Vk)]at HR;go_wp2_with fail;go_ret2;refine⟨⟨_,by rw[HR.o];rfl,?_⟩,dm.o.alloc dm.o.size _⟩;rw[HR.o];refine ss (cs:=[.int .i64 0,.string rest,.slice none 0 0]) (bL.new w2 75 #[.int .i64 0,.string rest,.slice none 0 0]) (show w.heap.size<=w2.heap.size from dm.o.size) ?_ rfl;have h:=ke (w:=w2.alloc (.cells #[.int .i64 0,.string rest,.slice none 0 0] 75)) (F:=fun g=>w.heap.size<=g) (k:=0) (t:=L rest) (l:=[]) (va:=.slice none 0 0) cS;rw[qo]at h;exact h
end Go.Proofs.YtejafaaihodehaaGreatDoor
