/- Part 33. -/
import Derived.Test.YtejafaaihodehaaGreatDoorZ15
import Derived.Test.YtejafaaihodehaaGreatDoorZ23
set_option linter.all false
set_option maxRecDepth 100000
set_option maxHeartbeats 8000000
namespace Go.Proofs.YtejafaaihodehaaGreatDoor
open Go Go.RowKit Tryz
structure PN(w:World)(b o:Nat)(r:gw):Prop where
 c0:w.cell? ⟨b,o,none⟩=some (.string (bs r.jK))
 c1:w.cell? ⟨b,o+1,none⟩=some (.int .i64 r.code)
 c2:w.cell? ⟨b,o+2,none⟩=some (.bool r.eU)
 c3:w.cell? ⟨b,o+3,none⟩=some (.string (bs r.body))
 c4:w.cell? ⟨b,o+4,none⟩=some (.int .i64 r.bad)
theorem QL{w:World}{F:Nat->Prop}{r:gw}{cs:List Value}(h:GR w F r.gv cs):cs=[.string (bs r.jK),.int .i64 r.code,.bool r.eU,.string (bs r.body),.int .i64 r.bad]:=by
 obtain⟨u,c,e,b,d⟩:=r;obtain⟨x0,y0,rfl,h0,g0⟩:=cd.1 (nN.1 h);obtain⟨x1,y1,rfl,h1,g1⟩:=cd.1 g0;obtain⟨x2,y2,rfl,h2,g2⟩:=cd.1 g1;obtain⟨x3,y3,rfl,h3,g3⟩:=cd.1 g2;obtain⟨x4,y4,rfl,h4,g4⟩:=cd.1 g3;rw[eQ]at h0 h3;rw[lK]at h1 h4;rw[sr]at h2;rw[ma]at g4;subst h0 h1 h2 h3 h4 g4;rfl
theorem pC{w:World}{F:Nat->Prop}{l:List gw}{v:Value}(h:GR w F (.row 5 (l.map gw.gv)) [v]):
 ∃A c,v=.slice A l.length c/\l.length<=c/\c<=maxLen/\(l≠[]->∃b o,A=some ⟨b,o,none⟩/\F b/\∀i (hi:i<l.length),PN w b (o+i*5) l[i]):=by
 obtain⟨A,c,h1,h2,h3,h4⟩:=pK h (by omega);simp only[ah]at h1 h2 h4;refine⟨A,c,h1,h2,h3,fun db=>?_⟩;obtain⟨b,o,hA,hF,hc⟩:=h4 (by simpa using db);refine⟨b,o,hA,hF,fun i hi=>?_⟩;obtain⟨cs,g1,_,g3⟩:=hc i hi;rw[List.getElem_map]at g1;obtain rfl:=QL g1;exact⟨g3 0 _ rfl,g3 1 _ rfl,g3 2 _ rfl,g3 3 _ rfl,g3 4 _ rfl⟩
theorem PN.below{w w':World}{b o:Nat}{r:gw}(h:PN w b o r)(hb:Below w.heap.size w w')(bW:b<w.heap.size):PN w' b o r:=
 ⟨(hb.cell (p:=⟨b,o,none⟩) bW).trans h.c0,(hb.cell (p:=⟨b,o+1,none⟩) bW).trans h.c1,(hb.cell (p:=⟨b,o+2,none⟩) bW).trans h.c2,(hb.cell (p:=⟨b,o+3,none⟩) bW).trans h.c3,
  (hb.cell (p:=⟨b,o+4,none⟩) bW).trans h.c4⟩
def gw.val(r:gw):Value:=.agg #[.string (bs r.jK),.int .i64 r.code,.bool r.eU,.string (bs r.body),.int .i64 r.bad]
theorem Ky(r:gw)(u:Bt)(pb:Nat)(w:World)(h:w.cell? ⟨pb,0,none⟩=some (.string (bs u))):
 Calls prog 166 #[r.val,.pointer (some ⟨pb,0,none⟩)] w fun e w'=>e=.returned (.bool (r.jK==u))/\Below w.heap.size w w':=by
 have bW:pb<w.heap.size:=aq w _ h;obtain⟨ru,rc,re,rb,rd⟩:=r;simp only[gw.val];go_enter func166,ntmps166;go_wp2_with fail;go_ret;exact⟨cH (by rw[bQ,bQ]),cU _ _⟩
theorem QM{l:List gw}{u:Bt}(h:∀k (hk:k<l.length),(l[k].jK==u)=false):mG l u=none:=by
 unfold mG;rw[List.find?_eq_none];intro x hx;obtain⟨k,hk,rfl⟩:=List.getElem_of_mem hx;rw[h k hk];simp
theorem Wy{l:List gw}{u:Bt}{k:Nat}(hk:k<l.length)(h:∀j (hj:j<l.length),j<k->(l[j].jK==u)=false)(hu:(l[k].jK==u)=true):mG l u=some l[k]:=by
 unfold mG;have e:l=l.take k++(l[k]::l.drop (k+1)):=by rw[<-aE hk,bt]
 have h1:(l.take k).find? (fun r=>r.jK==u)=none:=by
  rw[List.find?_eq_none];intro x hx;obtain⟨j,hj,rfl⟩:=List.getElem_of_mem hx;rw[ay]at hj;rw[List.getElem_take,h j (by omega) (by omega)];simp
 conv=>lhs;rw[e]
 rw[List.find?_append,h1,List.find?_cons,hu];rfl
theorem Ac(l:List gw)(v:Value)(F:Nat->Prop)(u:Bt)(pb:Nat)(w:World)(h:w.cell? ⟨pb,0,none⟩=some (.string (bs u)))(hv:GR w F (.row 5 (l.map gw.gv)) [v]):
 Calls prog 165 #[v,.func (.func 166) #[] #[.pointer (some ⟨pb,0,none⟩)]] w
  fun e w'=>((e=.returned (.int .i64 (-1))/\Hy (mG l u=none))\/∃(k:Nat) (hk:k<l.length),e=.returned (.int .i64 (k:Int))/\Hy (mG l u=some l[k]))/\Below w.heap.size w w':=by
 obtain⟨A,c,rfl,zQ,mz,dS⟩:=pC (GR.du _ _ hv);have ub:=bD dS;have HU:=bD h;clear dS hv h;unfold maxLen at mz;go_enter func165,ntmps165;go_wp2_with fail;go_loopw [5,8] (fun _ i wr=>∃k:Nat,k<=l.length/\i=.int .i64 k/\Hy (Below w.heap.size w wr)/\Hy (∀j (hj:j<l.length),j<k->(l[j].jK==u)=false))
  (fun _ i wr=>l.length-(intOf i).toNat)
 case atStart=>exact⟨0,ax _,rfl,aF _ _,fun j hj h=>by omega⟩
 case round=>
  obtain⟨k,hk,rfl,HB,HN⟩:=hrel;by_cases bW:k<l.length
  ·obtain⟨b,o,rfl,⟨_,tT⟩,dS⟩:=ub.o (by rintro rfl;simp at bW);have hE:=(dS k bW).below HB.o tT;have e0:=hE.c0;have e1:=hE.c1;have e2:=hE.c2;have e3:=hE.c3;have e4:=hE.c4;have hu2:=(HB.o.cell (p:=⟨pb,0,none⟩) (aq w _ HU.o)).trans HU.o;have HFA:=bD (fun hu=>Wy (u:=u) bW (HN.o) hu);have HNX:Hy ((l[k].jK==u)=false->∀j (hj:j<l.length),j<k+1->(l[j].jK==u)=false):=fun h j hj hjk=>by
    by_cases e:j=k
    ·subst e;exact h
    ·exact HN.o j hj (by omega)
   have Fs:=bD bW;have nE:(0:Int)<=(k:Int):=by omega
   have fA:(k:Int)<(l.length:Int):=by omega
   clear dS hE tT HN;generalize hx:l[k]=x at*;have HX:=bD hx;clear hx;go_wp2_with fail;refine(Ky x u pb wr hu2).mono ?_;rintro e w2 ⟨rfl,cu⟩;have dm:=bD (HB.o.trans (cu.mono HB.o.size));clear cu;cases hq:(x.jK==u)with
   |true=>
    have HF:=bD (HFA.o hq);clear hq;go_wp2_with fail;go_ret;exact⟨.inr ⟨k,Fs.o,rfl,HF.o.trans (congrArg some HX.o.symm)⟩,dm.o⟩
   |false=>
    have HF:=bD (HNX.o hq);clear hq;go_wp2_with fail;go_roundw
    case rel=>exact⟨k+1,Fs.o,by go_num,dm.o,HF.o⟩
    case measure=>have:=Fs.o;simp[intOf];omega
  ·have ln:k=l.length:=by omega
   have HF:Hy (mG l u=none):=QM fun j hj=>HN.o j hj (by omega);subst ln;go_wp2_with fail;go_ret;exact⟨.inl ⟨rfl,HF.o⟩,HB.o⟩
def dT(r:gw):Array Value:=#[.string (bs r.jK),.int .i64 r.code,.bool r.eU,.string (bs r.body),.int .i64 r.bad]
def C2:gw:=⟨[],0,false,[],0⟩
def uo(W:World)(R:Nat)(r:gw):World:=
 ((((W.setCell ⟨R,0,none⟩ (.string (bs r.jK))).setCell ⟨R,1,none⟩ (.int .i64 r.code)).setCell ⟨R,2,none⟩ (.bool r.eU)).setCell ⟨R,3,none⟩ (.string (bs r.body))).setCell ⟨R,4,none⟩ (.int .i64 r.bad)
theorem C3{W:World}{R:Nat}{t:TypeId}{a0 a1 a2 a3 a4:Value}(h:bL W R t #[a0,a1,a2,a3,a4])(r:gw):bL (uo W R r) R t (dT r):=
 ((((h.cL 0 (.string (bs r.jK))).cL 1 (.int .i64 r.code)).cL 2 (.bool r.eU)).cL 3 (.string (bs r.body))).cL 4 (.int .i64 r.bad)
theorem yF{B R:Nat}{a w:World}(h:Below B a w)(hR:B<=R)(r:gw):Below B a (uo w R r):=
 ((((h.setCell (p:=⟨R,0,none⟩) hR _).setCell (p:=⟨R,1,none⟩) hR _).setCell (p:=⟨R,2,none⟩) hR _).setCell (p:=⟨R,3,none⟩) hR _).setCell (p:=⟨R,4,none⟩) hR _
theorem mW{w:World}{X:Nat}{tmps:Array Value}{r:gw}{x y:Value}(h4:tmps[4]?.getD undef=.pointer (some ⟨X,0,none⟩))(h5:tmps[5]?.getD undef=x)(h6:tmps[6]?.getD undef=y)(B0:bL w X 41 (dT r)):
 (results f142 tmps).run prog w=.ok (.tuple #[r.val,x,y]) w:=by
 obtain⟨a0,a1,a2,a3,a4⟩:=kK B0;simp[dT]at a0 a1 a2 a3 a4;simp[results,results142,go_sem,h4,h5,h6,a0,a1,a2,a3,a4,gw.val]
def C4:Option gw->Value
 |none=>.tuple #[C2.val,.int .i64 0,.bool false]
 |some r=>.tuple #[r.val,.int .i64 (fj r),.bool true]
theorem Nv(l:List gw)(v:Value)(F:Nat->Prop)(u:Bt)(w:World)(hv:GR w F (.row 5 (l.map gw.gv)) [v]):
 Calls prog 142 #[v,.string (bs u)] w fun e w'=>e=.returned (C4 (mG l u))/\Below w.heap.size w w':=by
 obtain⟨A,c,rfl,zQ,mz,dS⟩:=pC (GR.du _ _ hv);unfold maxLen at mz;have ub:=bD dS;have h1:=bL.new w 9 #[.string (bs u)];have h2:=bL.new (w.alloc (.cells #[.string (bs u)] 9)) 41 (dT C2);have dG:Below w.heap.size w (w.alloc (.cells #[.string (bs u)] 9)):=cU _ _;have cu:=dG.alloc dG.size (.cells (dT C2) 41);have hp:((w.alloc (.cells #[.string (bs u)] 9)).alloc (.cells (dT C2) 41)).cell? ⟨w.heap.size,0,none⟩=some (.string (bs u)):=(h1.alloc _).cell 0;have HIX:=bD (Ac l (.slice A l.length c) F u w.heap.size _ hp (hv.below cu));have HR:=bD h2;have HB:=bD cu;rw[size_alloc]at HR;clear h1 h2 dG cu hp hv dS;go_enter func142,ntmps142;go_wp2_with fail;refine HIX.o.mono ?_;rintro e w1 ⟨hd,hb⟩;have Cy:=bD (HR.o.below hb HR.o.lt);have hJ:=bD (HB.o.trans (hb.mono HB.o.size));clear hb HR HB HIX;rcases hd with⟨rfl,HN⟩|⟨k,hk,rfl,HF⟩
 ·skip
  obtain⟨r0,r1,r2,r3,r4⟩:=kK Cy.o;simp[dT]at r0 r1 r2 r3 r4;obtain⟨f0,f1,f2,f3,f4⟩:=xV Cy.o;go_wp2_with fail;have q1:=C3 Cy.o C2;have q2:=yF hJ.o (show w.heap.size<=w.heap.size+1 by omega) C2;change bodyPost _ _ _ _ _ (uo w1 (w.heap.size+1) C2);refine ag (mW rfl rfl rfl q1) rfl ⟨?_,q2⟩;rw[HN.o];rfl
 ·obtain⟨b,o,rfl,⟨_,tT⟩,dS⟩:=ub.o (by rintro rfl;simp at hk);have hE:=(dS k hk).below hJ.o tT;have e0:=hE.c0;have e1:=hE.c1;have e2:=hE.c2;have e3:=hE.c3;have e4:=hE.c4;have nE:(0:Int)<=(k:Int):=by omega
  have fA:(k:Int)<(l.length:Int):=by omega
  clear dS hE tT;generalize hx:l[k]=x at*;clear hx ub hk;go_upto_region 5 with(fail)
  have hX:=bL.new w1 41 (dT x);have cg:Below w1.heap.size w1 (w1.alloc (.cells (dT x) 41)):=cU _ _;have Ad:=Cy.o.below cg Cy.o.lt;have cu:=hJ.o.trans (cg.mono hJ.o.size);have db:w1.heap.size≠w.heap.size+1:=by have:=Cy.o.lt;omega
  change Code.wp _ _ _ _ (w1.alloc (.cells (dT x) 41));generalize w1.alloc (.cells (dT x) 41)=w2 at*;generalize w1.heap.size=X at*;generalize Zo:w.heap.size+1=R at*;have Yk:Hy (w.heap.size<=R):=by rw[Hy];omega
  have CY:¬X=R:=db;have Nq:¬R=X:=fun h=>db h.symm;clear Cy hJ cg e0 e1 e2 e3 e4 Zo db;have Cy:=bD Ad;have hJ:=bD cu;have HX:=bD hX;clear Ad cu hX;obtain⟨r0,r1,r2,r3,r4⟩:=kK Cy.o;simp[dT]at r0 r1 r2 r3 r4;obtain⟨f0,f1,f2,f3,f4⟩:=xV Cy.o;obtain⟨x0,x1,x2,x3,x4⟩:=kK HX.o;simp[dT]at x0 x1 x2 x3 x4;have VJ:=bJ x.body;have q1:=bD (C3 Cy.o x);have q2:=bD (yF hJ.o Yk.o x);by_cases lM:x.bad=0
  ·have bb:(x.bad !=0)=false:=by rw[lM];rfl
   by_cases C5:x.code=200
   ·have bc:(x.code !=200)=false:=by rw[C5];rfl
    by_cases fH:20000<x.body.length
    ·have bl:(20000:Int)<((bs x.body).size:Int):=by omega
     have zZ:Hy (fj x=60):=by rw[Hy,fj,aa (by simpa using lM),ae (.inr fH)]
     clear fH lM C5 VJ;go_wp2_with fail;change bodyPost _ _ _ _ _ (uo w2 R x);refine ag (mW rfl rfl rfl q1.out) rfl ⟨?_,q2.out⟩;rw[HF.o,C4,zZ.o];rfl
    ·have bl:¬(20000:Int)<((bs x.body).size:Int):=by omega
     have zZ:Hy (fj x=0):=by rw[Hy,fj,aa (by simpa using lM),aa (fun h=>h.elim (fun h=>h C5) fH)]
     clear fH lM C5 VJ;go_wp2_with fail;change bodyPost _ _ _ _ _ (uo w2 R x);refine ag (mW rfl rfl rfl q1.out) rfl ⟨?_,q2.out⟩;rw[HF.o,C4,zZ.o];rfl
   ·have bc:(x.code !=200)=true:=by rw[aQ];exact C5
    have zZ:Hy (fj x=60):=by rw[Hy,fj,aa (by simpa using lM),ae (.inl C5)]
    clear lM C5 VJ;go_wp2_with fail;change bodyPost _ _ _ _ _ (uo w2 R x);refine ag (mW rfl rfl rfl q1.out) rfl ⟨?_,q2.out⟩;rw[HF.o,C4,zZ.o];rfl
  ·have bb:(x.bad !=0)=true:=by rw[aQ];exact lM
   have zZ:Hy (fj x=x.bad):=by rw[Hy,fj,ae lM]
   clear lM VJ;go_upto_region 6 with(fail)
   go_region;go_wp2_with fail;change bodyPost _ _ _ _ _ (uo w2 R x).drew;refine ag (mW rfl rfl rfl (show bL (uo w2 R x).drew R _ _ from q1.out)) rfl ⟨?_,q2.out.drew⟩;rw[HF.o,C4,zZ.o];rfl
theorem yG(nm:Bt)(e:Elem)(l:List Elem):ei nm (e::l)=(mV nm e).or (ei nm l):=by
 rw[ei];cases mV nm e<;>rfl
def Wz(F:Nat->Prop)(o:Option (List Elem))(w:World)(e:Ending)(w':World):Prop:=
 ((o=none/\e=.returned (.tuple #[.slice none 0 0,.bool false]))\/∃ks kv,o=some ks/\e=.returned (.tuple #[kv,.bool true])/\GR w' F (.row 7 (ks.map Elem.gv)) [kv])/\Below w.heap.size w w'
theorem Ft(nm:Bt):∀(n:Nat) (l:List Elem) (v:Value) (F:Nat->Prop) (w:World),fC l<=n->GR w F (.row 7 (l.map Elem.gv)) [v]->
 Calls prog 139 #[v,.string (bs nm)] w (Wz F (ei nm l) w):=by
 intro n;induction n using Nat.strongRecOn with
 |ind n ih=>
  intro l v F w hn hv;obtain⟨A,c,rfl,zQ,mz,dS⟩:=dW hv;obtain⟨A',c',WA,ar8,ar9,ah6⟩:=dW (GR.du _ _ hv);injection WA with q1 q2 q3
  subst q1 q3;have ub:=bD dS;have tU:=bD ah6;have IH:=bD ih;unfold maxLen at mz;clear dS ah6 hv ih ar8 ar9 q2;have HI0:Hy (ei nm l=ei nm (l.drop 0)):=rfl;generalize hI:ei nm l=I at*;clear hI;go_enter func139,ntmps139;go_wp2_with fail;go_loopw [12] (fun i wr=>∃k:Nat,k<=l.length/\i=.int .i64 k/\Hy (Below w.heap.size w wr)/\Hy (I=ei nm (l.drop k)))
   (fun i wr=>l.length-(intOf i).toNat)
  case atStart=>exact⟨0,ax _,rfl,aF _ _,HI0.o⟩
  case round=>
   clear HI0;obtain⟨k,hk,rfl,HB,HI⟩:=hrel;by_cases bW:k<l.length
   ·obtain⟨b,off,rfl,PO,dS⟩:=ub.o (by rintro rfl;simp at bW);obtain⟨b',aC3,he',⟨_,tT⟩,_⟩:=tU.o (by rintro rfl;simp at bW);injection he' with he'
    injection he' with ZO Iq he3
    subst ZO;obtain⟨Ak,ck,hE⟩:=dS k bW;have VK:=bD (hE.bE.below HB.o);have hE:=hE.below HB.o tT;have e0:=hE.c0;have e1:=hE.c1;have e2:=hE.c2;have e3:=hE.c3;have e4:=hE.c4;have e5:=hE.c5;have e6:=hE.c6;have lQ:fC l[k].bE<n:=by have h1:=nU bW;have h2:=j8 l[k];omega
    have xy:=bD lQ;have ZP:Hy (I=(mV nm l[k]).or (ei nm (l.drop (k+1)))):=by
     rw[Hy,HI.o,aE bW,yG]
    rw[Ns]at ZP;have nE:(0:Int)<=(k:Int):=by omega
    have fA:(k:Int)<(l.length:Int):=by omega
    clear hE dS tT lQ HI Iq he3 PO;generalize l[k]=x at*;go_upto_region 4 with(fail)
    have hX:=bL.new wr 62 (dp x (.slice Ak x.bE.length ck)).toArray;have cg:Below wr.heap.size wr (wr.alloc (.cells (dp x (.slice Ak x.bE.length ck)).toArray 62)):=cU _ _;have kf:=bD (HB.o.trans (cg.mono HB.o.size));have Gz:=bD (VK.o.below cg);change Code.wp _ _ _ _ (wr.alloc (.cells (dp x (.slice Ak x.bE.length ck)).toArray 62));generalize wr.alloc (.cells (dp x (.slice Ak x.bE.length ck)).toArray 62)=w5 at*;clear e0 e1 e2 e3 e4 e5 e6 cg HB VK;generalize wr.heap.size=X at*;have x0:=hX.cell 0;have x2:=hX.cell 2;have x6:=hX.cell 6;simp[dp]at x0 x2 x6;clear hX;by_cases h3:x.kind=3
    ·have b3:(x.kind==3)=true:=by rw[h3];rfl
     by_cases hs:x.src=nm
     ·obtain⟨s1,s2⟩:((bs x.src).toList==(bs nm).toList)=true/\(bs x.src).toList=(bs nm).toList:=by rw[hs];simp
      have QN:Hy (I=some x.bE):=by rw[Hy,ZP.o,ae ⟨h3,hs⟩];rfl
      clear h3 hs ZP;go_wp2_with fail;go_ret2;exact⟨.inr ⟨x.bE,_,QN.o,rfl,Gz.o⟩,kf.o⟩
     ·obtain⟨s1,s2⟩:((bs x.src).toList==(bs nm).toList)=false/\¬(bs x.src).toList=(bs nm).toList:=by rw[bQ,bQ,ai];exact⟨hs,hs⟩
      have QN:Hy (I=(ei nm x.bE).or (ei nm (l.drop (k+1)))):=by rw[Hy,ZP.o,aa (fun h=>hs h.2)]
      clear h3 hs ZP;go_wp2_with fail;refine(IH.o _ xy.o x.bE _ F w5 (dv _) Gz.o).mono ?_;rintro e w6 ⟨hd,mo⟩;have tR:=bD (kf.o.trans (mo.mono kf.o.size));clear mo;rcases hd with⟨Px,rfl⟩|⟨ks,kv,Tq,rfl,cO⟩
      ·have ZQ:Hy (I=ei nm (l.drop (k+1))):=by rw[Hy,QN.o,Px];rfl
       clear Px QN;go_wp2_with fail;go_roundw
       case rel=>exact⟨k+1,bW,by go_num,tR.o,ZQ.o⟩
       case measure=>simp[intOf];omega
      ·have ZQ:Hy (I=some ks):=by rw[Hy,QN.o,Tq];rfl
       have HGK:=bD cO;clear Tq QN cO;go_wp2_with fail;go_ret2;exact⟨.inr ⟨ks,_,ZQ.o,rfl,HGK.o⟩,tR.o⟩
    ·have b3:(x.kind==3)=false:=by rw[ai];exact h3
     have QN:Hy (I=(ei nm x.bE).or (ei nm (l.drop (k+1)))):=by rw[Hy,ZP.o,aa (fun h=>h3 h.1)]
     clear h3 ZP;go_wp2_with fail;refine(IH.o _ xy.o x.bE _ F w5 (dv _) Gz.o).mono ?_;rintro e w6 ⟨hd,mo⟩;have tR:=bD (kf.o.trans (mo.mono kf.o.size));clear mo;rcases hd with⟨Px,rfl⟩|⟨ks,kv,Tq,rfl,cO⟩
     ·have ZQ:Hy (I=ei nm (l.drop (k+1))):=by rw[Hy,QN.o,Px];rfl
      clear Px QN;go_wp2_with fail;go_roundw
      case rel=>exact⟨k+1,bW,by go_num,tR.o,ZQ.o⟩
      case measure=>simp[intOf];omega
     ·have ZQ:Hy (I=some ks):=by rw[Hy,QN.o,Tq];rfl
      have HGK:=bD cO;clear Tq QN cO;go_wp2_with fail;go_ret2;exact⟨.inr ⟨ks,_,ZQ.o,rfl,HGK.o⟩,tR.o⟩
   ·have ln:k=l.length:=by omega
    subst ln;have QN:Hy (I=none):=by rw[Hy,HI.o,bu,ei]
    go_wp2_with fail;go_ret2;exact⟨.inl ⟨QN.o,rfl⟩,HB.o⟩
def GN(v:cK)(D:lq)(s:Bt):Prop:=(D.sub s).length<=10000000/\∀W,eK W->Calls prog 70 #[v.val,.string (bs s)] W fun e W'=>e=.returned (.string (bs (D.sub s)))/\Below W.heap.size W W'
def oX(v:cK)(D:lq)(s:Bt):Prop:=GN v D s/\ju (D.sub s)
def I9(v:cK)(D:lq)(s:Bt):Prop:=∀W,eK W->Calls prog 111 #[v.val,.string (bs s)] W fun e W'=>e=.returned (.tuple #[.bool (D.test s).1,.int .i64 (D.test s).2])/\Below W.heap.size W W'
mutual
def Q5(v:cK)(D:lq):Elem->Prop
 |.mk k t s a b u l=>t.length<=100000/\GN v D t/\(k=2->oX v D s/\(a≠[]->oX v D a))/\(k=8->I9 v D u)/\(k=4->D.full=true/\2<=l.length)/\(k=7->D.full=true/\∀x∈l,x.kind=8\/x.kind=9)/\tL v D l
def tL(v:cK)(D:lq):List Elem->Prop
 |[]=>True
 |e::l=>Q5 v D e/\tL v D l
end
theorem xF{v:cK}{D:lq}(e:Elem):Q5 v D e↔e.text.length<=100000/\GN v D e.text/\(e.kind=2->oX v D e.src/\(e.jZ≠[]->oX v D e.jZ))/\(e.kind=8->I9 v D e.test)/\(e.kind=4->D.full=true/\2<=e.bE.length)/\(e.kind=7->D.full=true/\∀x∈e.bE,x.kind=8\/x.kind=9)/\tL v D e.bE:=by
 cases e;rw[Q5];rfl
theorem Au{v:cK}{D:lq}:∀{l:List Elem} (_:tL v D l) (i:Nat) (hi:i<l.length),Q5 v D l[i]
 |[],_,i,hi=>aX hi (by simp)
 |e::l,h,0,_=>by rw[tL]at h;exact h.1
 |e::l,h,i+1,hi=>by rw[tL]at h;exact Au h.2 i (by simpa using hi)
mutual
theorem Oa{v:cK}{D:lq}{nm:Bt}:∀(e:Elem) {ks:List Elem},Q5 v D e->mV nm e=some ks->tL v D ks
 |.mk k t s a b u l,ks,h,he=>by
  rw[mV]at he;rw[Q5]at h;split at he
  ·injection he with he
   subst he;exact h.2.2.2.2.2.2
  ·exact xG l h.2.2.2.2.2.2 he
theorem xG{v:cK}{D:lq}{nm:Bt}:∀(l:List Elem) {ks:List Elem},tL v D l->ei nm l=some ks->tL v D ks
 |[],ks,_,he=>by rw[ei]at he;cases he
 |e::l,ks,h,he=>by
  rw[tL]at h;rw[yG]at he;cases hi:mV nm e with
  |some x=>
   rw[hi]at he;have he:some x=some ks:=he;injection he with he
   subst he;exact Oa e h.1 hi
  |none=>
   rw[hi]at he;exact xG l h.2 he
end
def Ds(v:cK)(D:lq):Prop:=∀r∈D.cN,r.eU=true->ju r.jK/\((cM r.body).2=0->tL v D (cM r.body).1)
def Dt(v:cK)(D:lq)(rv:Value)(M:Nat)(d:Nat)(l:List Elem):Prop:=∀(base:Bt) (el:List Elem) (pv lv:Value) (sub:Bool) (n c:Nat) (W:World),ju base->tL v D el->tL v D l->MK v rv D.cN M W c->
 GR W (fun k=>k≠M) (.row 7 (el.map Elem.gv)) [pv]->GR W (fun k=>k≠M) (.row 7 (l.map Elem.gv)) [lv]->n<=20000->
 Calls prog 23 #[.pointer (some ⟨M,0,none⟩),.agg #[.string (bs base),pv,.int .i64 (4-(d:Int))],lv,.bool sub,.int .i64 (n:Int)] W (jW v rv D.cN M W (cT D (gJ D d base el) sub n [] l c))
theorem oD(r:fo)(h:r.out.length<=100000000):(eF r).out.length<=100000000:=by
 unfold eF;split
 ·simp
 ·exact h
theorem uF{w:World}{X:Nat}{tmps:Array Value}{r:fo}(h4:tmps[6]?.getD undef=.pointer (some ⟨X,0,none⟩))(B0:bL w X 31 (bI r)):
 (results f141 tmps).run prog w=.ok r.val w:=by
 obtain⟨a0,a1,a2,a3⟩:=lG B0;simp[bI]at a0 a1 a2 a3;simp[results,results141,go_sem,h4,a0,a1,a2,a3,fo.val]
structure J9(w W:World)(M P:Nat)(base:Bt)(pv:Value)(fU:Int):Prop where
 hP:bL W P 70 #[.string (bs base),pv,.int .i64 fU]
 hR:bL W (P+1) 31 (bI fy)
 g:w.grownBy W (some M)
 Gx:M<w.heap.size
 Ob:w.heap.size=P
section
variable {w W W':World} {M P:Nat} {base:Bt} {pv:Value} {fU:Int}
theorem J9.below(h:J9 w W M P base pv fU)(hb:Below W.heap.size W W'):J9 w W' M P base pv fU:=
 ⟨h.hP.below hb h.hP.lt,h.hR.below hb h.hR.lt,kI h.g hb,h.Gx,h.Ob⟩
theorem J9.grown(h:J9 w W M P base pv fU)(hg:W.grownBy W' (some M)):J9 w W' M P base pv fU:=by
 have h1:=h.Gx;have h2:=h.Ob;exact⟨h.hP.grown hg (by simp;omega),h.hR.grown hg (by simp;omega),bU h.g hg,h1,h2⟩
theorem J9.start(w:World)(hM:M<w.heap.size)(base:Bt)(pv:Value)(fU:Int):
 J9 w ((w.alloc (.cells #[.string (bs base),pv,.int .i64 fU] 70)).alloc (.cells (bI fy) 31)) M w.heap.size base pv fU:=by
 have h1:=bL.new w 70 #[.string (bs base),pv,.int .i64 fU];have h2:=bL.new (w.alloc (.cells #[.string (bs base),pv,.int .i64 fU] 70)) 31 (bI fy);rw[size_alloc]at h2;exact⟨h1.alloc _,h2,fX (fX (bR _ _) _) _,hM,rfl⟩
theorem J9.fin{v:cK}{rv:Value}{cR:List gw}{z:fo × Nat}{r:fo}{c:Nat}(h:J9 w W M P base pv fU)(hm:MK v rv cR M W c)(hz:z=(r,c))(hl:r.out.length<=100000000):
 bL (dO W (P+1) r) (P+1) 31 (bI r)/\jW v rv cR M w z (.returned r.val) (dO W (P+1) r):=
 ⟨jB h.hR r,jW.fin h.g hm h.Gx (by have:=h.Ob;omega) hz hl⟩
end
theorem Ja(v:cK)(D:lq)(rv:Value)(M d:Nat)(l el:List Elem)(ib:Dt v D rv M d l)(base:Bt)(pv lv:Value)(c:Nat)(w:World)(Du:ju base)(tJ:tL v D el)(hl:tL v D l)(hm:MK v rv D.cN M w c)(hd:d<=4)
 (qX:GR w (fun k=>k≠M) (.row 7 (el.map Elem.gv)) [pv]) (Oc:GR w (fun k=>k≠M) (.row 7 (l.map Elem.gv)) [lv]):
 Calls prog 141 #[.pointer (some ⟨M,0,none⟩),.agg #[.string (bs base),pv,.int .i64 (4-(d:Int))],lv] w
  (jW v rv D.cN M w (eF (cT D (gJ D d base el) false 0 [] l c).1,(cT D (gJ D d base el) false 0 [] l c).2)):=by
 obtain⟨Ap,cp,rfl,-⟩:=dW qX;obtain⟨Al,cl,rfl,-⟩:=dW Oc;have HS:=bD (J9.start w hm.iz.lt base (.slice Ap el.length cp) (4-(d:Int)));have cg:Below w.heap.size w ((w.alloc (.cells #[.string (bs base),.slice Ap el.length cp,.int .i64 (4-(d:Int))] 70)).alloc (.cells (bI fy) 31)):=(cU _ _).alloc (by rw[size_alloc];omega) _;have pD:=bD (hm.below cg);have mE:=bD (ib base el _ _ false 0 c _ Du tJ hl pD.o (qX.below cg) (Oc.below cg) (ax _));generalize cT D (gJ D d base el) false 0 [] l c=Z at*;have hd4:¬4<(4-(d:Int)):=by omega
 clear ib Du tJ hl hm qX Oc cg;go_enter func141,ntmps141;go_wp2_with fail;refine mE.o.mono ?_;rintro e w1 ⟨rfl,mn,M0,tD⟩;have mM:=bD (HS.o.grown mn);have Q8:=bD M0;have Lm:=bD tD;clear mn M0 tD HS pD mE;generalize w.heap.size=P at*;go_wp2_with fail;refine(jV Z.1 w1).mono ?_;rintro e w2 ⟨rfl,cu⟩;have uj:=bD (mM.o.below cu);have Cf:=bD (Q8.o.below cu);have QF:=bD (oD Z.1 Lm.o);clear cu mM Q8;simp only[fo.val];generalize eF Z.1=r at*;obtain⟨r0,r1,r2,r3⟩:=lG uj.o.hR;simp[bI]at r0 r1 r2 r3;obtain⟨f0,f1,f2,f3⟩:=qm uj.o.hR;go_wp2_with fail;obtain⟨q1,q2⟩:=uj.o.fin Cf.o (z:=(r,Z.2)) rfl QF.o;change bodyPost _ _ _ _ _ (dO w2 (P+1) r);exact ag (uF rfl q1) rfl q2
theorem qY{w:World}{X:Nat}{tmps:Array Value}{r:fo}(h4:tmps[8]?.getD undef=.pointer (some ⟨X,0,none⟩))(B0:bL w X 31 (bI r)):
 (results f15 tmps).run prog w=.ok r.val w:=by
 obtain⟨a0,a1,a2,a3⟩:=lG B0;simp[bI]at a0 a1 a2 a3;simp[results,results15,go_sem,h4,a0,a1,a2,a3,fo.val]
theorem gz{w:World}{X:Nat}{tmps:Array Value}{r:fo}(h4:tmps[6]?.getD undef=.pointer (some ⟨X,0,none⟩))(B0:bL w X 31 (bI r)):
 (results f106 tmps).run prog w=.ok r.val w:=by
 obtain⟨a0,a1,a2,a3⟩:=lG B0;simp[bI]at a0 a1 a2 a3;simp[results,results106,go_sem,h4,a0,a1,a2,a3,fo.val]
def iC(D:lq)(d:Nat)(base body:Bt)(c:Nat):fo × Nat:=
 if(cM body).2≠0 then(cF [] (cM body).2,c)else cT D (gJ D d base (cM body).1) false 0 [] (cM body).1 c
structure SR(w W:World)(M R:Nat):Prop where
 hR:bL W R 31 (bI fy)
 g:w.grownBy W (some M)
 Gx:M<w.heap.size
 eqR:w.heap.size=R
section
variable {w W W':World} {M R:Nat}
theorem SR.below(h:SR w W M R)(hb:Below W.heap.size W W'):SR w W' M R:=⟨h.hR.below hb h.hR.lt,kI h.g hb,h.Gx,h.eqR⟩
theorem SR.grown(h:SR w W M R)(hg:W.grownBy W' (some M)):SR w W' M R:=by
 have h1:=h.Gx;have h2:=h.eqR;exact⟨h.hR.grown hg (by simp;omega),bU h.g hg,h1,h2⟩
theorem SR.start(w:World)(hM:M<w.heap.size):SR w (w.alloc (.cells (bI fy) 31)) M w.heap.size:=
 ⟨bL.new w 31 (bI fy),fX (bR _ _) _,hM,rfl⟩
theorem SR.fin{v:cK}{rv:Value}{cR:List gw}{z:fo × Nat}{r:fo}{c:Nat}(h:SR w W M R)(hm:MK v rv cR M W c)(hz:z=(r,c))(hl:r.out.length<=100000000):
 bL (dO W R r) R 31 (bI r)/\jW v rv cR M w z (.returned r.val) (dO W R r):=
 ⟨jB h.hR r,jW.fin h.g hm h.Gx (by have:=h.eqR;omega) hz hl⟩
end
theorem Bq(v:cK)(D:lq)(rv:Value)(M d:Nat)(base body:Bt)(ib:(cM body).2=0->Dt v D rv M d (cM body).1)(c:Nat)(w:World)(Du:ju base)(hl:(cM body).2=0->tL v D (cM body).1)(hm:MK v rv D.cN M w c)(hd:d<=4)(mP:body.length<=90000):
 Calls prog 15 #[.pointer (some ⟨M,0,none⟩),.string (bs base),.string (bs body),.int .i64 (4-(d:Int))] w (jW v rv D.cN M w (iC D d base body c)):=by
 have HS:=bD (SR.start w hm.iz.lt);have cg:Below w.heap.size w (w.alloc (.cells (bI fy) 31)):=(cU _ _);have pD:=bD (hm.below cg);have Gt:=bD (N9 (bs body) (w.alloc (.cells (bI fy) 31)) (by rw[bJ];exact mP));rw[eB]at Gt;have HW:Hy (iC D d base body c=if(cM body).2≠0 then(cF [] (cM body).2,c)else cT D (gJ D d base (cM body).1) false 0 [] (cM body).1 c):=rfl;have mE:=bD (fun h0 pv W (hm:MK v rv D.cN M W c) hp=>ib h0 base (cM body).1 pv pv false 0 c W Du (hl h0) (hl h0) hm hp hp (ax _));generalize iC D d base body c=Z at*;generalize cM body=RF at*;obtain⟨l,err⟩:=RF;have au6:=hm.iz.lt;have Lf:Hy (M<(w.alloc (.cells (bI fy) 31)).heap.size):=by rw[Hy,size_alloc];omega
 simp only at Gt HW mE;unfold Aq at Gt;simp only at Gt;have hd4:¬4<(4-(d:Int)):=by omega
 clear ib Du hl hm cg au6;go_enter func15,ntmps15;go_wp2_with fail;refine Gt.o.mono ?_;rintro e w1 ⟨pv,rfl,cO,dG⟩;obtain⟨A,cc,rfl,-⟩:=dW cO;have mM:=bD (HS.o.below dG);have Q8:=bD (pD.o.below dG);have tV:=bD (cO.dY (F':=fun k=>k≠M) (fun k hk=>by have hk:_<=k:=hk;have:=Lf.o;omega));clear cO dG HS pD Gt Lf;generalize w.heap.size=R at*;by_cases he:err=0
 ·have be:(err !=0)=false:=by rw[he];rfl
  have HZ:Hy (Z=cT D (gJ D d base l) false 0 [] l c):=by rw[Hy,HW.o,aa (by simpa using he)]
  have HRR:=bD (mE.o he _ w1 Q8.o tV.o);clear he HW mE;rw[<-HZ.o]at HRR;go_wp2_with fail;refine HRR.o.mono ?_;rintro e w2 ⟨rfl,uc,hm2,Cw⟩;have eH:=bD (mM.o.grown uc);have Cf:=bD hm2;have Gw:=bD Cw;clear uc hm2 Cw mM Q8 HRR;obtain⟨r,c2⟩:=Z;simp only[fo.val]at*;obtain⟨r0,r1,r2,r3⟩:=lG eH.o.hR;simp[bI]at r0 r1 r2 r3;obtain⟨f0,f1,f2,f3⟩:=qm eH.o.hR;go_wp2_with fail;obtain⟨q1,q2⟩:=eH.o.fin Cf.o (z:=(r,c2)) rfl Gw.o;change bodyPost _ _ _ _ _ (dO w2 R r);exact ag (qY rfl q1) rfl q2
 ·have be:(err !=0)=true:=by rw[aQ];exact he
  have HZ:Hy (Z=(cF [] err,c)):=by rw[Hy,HW.o,ae he]
  clear he HW mE;go_wp2_with fail;refine(iA [] err w1).mono ?_;rintro e w2 ⟨rfl,cu⟩;have eH:=bD (mM.o.below cu);have Cf:=bD (Q8.o.below cu);clear cu mM Q8;obtain⟨r0,r1,r2,r3⟩:=lG eH.o.hR;simp[bI]at r0 r1 r2 r3;obtain⟨f0,f1,f2,f3⟩:=qm eH.o.hR;simp only[fo.val,cF];go_wp2_with fail;obtain⟨q1,q2⟩:=eH.o.fin Cf.o (z:=Z) HZ.o (by simp[cF]);change bodyPost _ _ _ _ _ (dO w2 R (cF [] err));exact ag (qY rfl q1) rfl q2
theorem Od(v:cK)(rv:Value)(cR:List gw)(M:Nat)(base body:Bt)(c:Nat)(w:World)(hm:MK v rv cR M w c):
 Calls prog 15 #[.pointer (some ⟨M,0,none⟩),.string (bs base),.string (bs body),.int .i64 5] w (jW v rv cR M w (cF [] 5,c)):=by
 have HS:=bD (SR.start w hm.iz.lt);have cg:Below w.heap.size w (w.alloc (.cells (bI fy) 31)):=(cU _ _);have pD:=bD (hm.below cg);clear hm cg;go_enter func15,ntmps15;go_wp2_with fail;refine(iA [] 5 _).mono ?_;rintro e w2 ⟨rfl,cu⟩;have eH:=bD (HS.o.below cu);have Cf:=bD (pD.o.below cu);clear cu HS pD;generalize w.heap.size=R at*;obtain⟨r0,r1,r2,r3⟩:=lG eH.o.hR;simp[bI]at r0 r1 r2 r3;obtain⟨f0,f1,f2,f3⟩:=qm eH.o.hR;simp only[fo.val,cF];go_wp2_with fail;obtain⟨q1,q2⟩:=eH.o.fin Cf.o (z:=(cF [] 5,c)) rfl (by simp[cF]);change bodyPost _ _ _ _ _ (dO w2 R (cF [] 5));exact ag (qY rfl q1) rfl q2
end Go.Proofs.YtejafaaihodehaaGreatDoor
