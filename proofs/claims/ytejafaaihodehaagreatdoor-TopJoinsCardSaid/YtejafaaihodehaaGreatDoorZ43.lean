/- Part 43. -/
import Derived.Test.YtejafaaihodehaaGreatDoorZ39
import Derived.Test.YtejafaaihodehaaGreatDoorZ42
set_option linter.all false
set_option maxRecDepth 100000
set_option maxHeartbeats 8000000
namespace Go.Proofs.YtejafaaihodehaaGreatDoor
open Go Go.RowKit Tryz
mutual
def lV:Ex->Nat|.mk _ _ _ _ l=>1+jb l
def jb:List Ex->Nat|[]=>0|e::l=>lV e+jb l
end
theorem rQ(e:Ex):lV e=1+jb e.bE:=by cases e;simp only[lV,Ex.bE]
theorem qZ:∀(l m:List Ex),jb (l++m)=jb l+jb m
 |[],m=>by simp[jb]
 |e::l,m=>by simp only[aU,jb];rw[qZ l m,Nat.add_assoc]
theorem n8:∀{l:List Ex} {e:Ex},e∈l->lV e<=jb l
 |a::l,e,h=>by
  simp only[jb];rcases List.mem_cons.1 h with rfl|h
  ·omega
  ·have:=n8 h;omega
def FW:Nat->Nat->List Ex->Bool
 |0,_,_=>true
 |n+1,i,q=>if i<q.length then(if 60<((q[i]?.map Ex.bE).getD []).length+q.length then false else FW n (i+1) (q++(q[i]?.map Ex.bE).getD []))else true
def AI(x:Ex):Bool:=FW 62 0 [x]
theorem Hb:∀(n i:Nat) (q:List Ex),i<=q.length->q.length<=60->61<=n+i->FW n i q=true->i+jb (q.drop i)<=60
 |0,i,q,hi,hq,hn,h=>by omega
 |n+1,i,q,hi,hq,hn,h=>by
  rw[FW]at h;by_cases hc:i<q.length
  ·rw[ae hc,aB hc]at h;simp only[Option.map_some,Option.getD_some]at h;split at h
   ·cases h
   ·rename_i hk;have:=Hb n (i+1) (q++q[i].bE) (by rw[af];omega) (by rw[af];omega) (by omega) h;rw[List.drop_append_of_le_length (by omega),qZ]at this;rw[aE hc,jb,rQ];omega
  ·have:i=q.length:=by omega
   rw[this,bu,jb];omega
theorem AK{x:Ex}(h:AI x=true):lV x<=60:=by
 have:=Hb 62 0 [x] (by simp) (by simp) (by omega) h
 simpa[jb]using this
theorem RP{w:World}{base:Nat}{G:Nat->Prop}{t:TypeId}{A:Option Addr}{n c k:Nat}{l:List Ex}(h:b8 w base t 5 G (.slice A n c) (l.map Ex.gv))(hn:n=l.length)(hk:k<l.length):
 ∃g A' c',A=some ⟨g,0,none⟩/\n<=c/\c<=maxLen/\base<=g/\g<w.heap.size/\w.cell? ⟨g,k*5+4,none⟩=some (.slice A' l[k].bE.length c')/\GR w G (.row 5 (l[k].bE.map Ex.gv)) [.slice A' l[k].bE.length c']:=by
 subst hn;obtain⟨xs,hr,hg⟩:=h;rw[ah]at hr;have rB:=hr;rcases hr.2 with⟨_,h0⟩|⟨g,cap,S7,hv,hb,hh,hn,hm,_⟩
 ·omega
 ·injection hv with e1 e2 e3
  subst e1 e3;obtain⟨cs,h1,h2,h3⟩:=hg.at_ k (by simpa using hk);rw[List.getElem_map]at h1;obtain⟨A',c',rfl,h4⟩:=LM h1;have bW:=(rB.lt g rfl);refine⟨g,A',c',rfl,hn,hm,bW.1,bW.2,?_,h4.dY (fun _ h=>h.1)⟩;rw[rB.cellAt _ (by omega)];exact h3 4 (by omega)
theorem BH(x:Ex)(A:Option Addr)(c:Nat)(F:Nat->Prop)(w:World)(hk:GR w F (.row 5 (x.bE.map Ex.gv)) [.slice A x.bE.length c]):
 Calls prog 173 #[da x (.slice A x.bE.length c)] w fun e w'=>e=.returned (.bool (AI x))/\Below w.heap.size w w':=by
 have CU:Below w.heap.size w (w.alloc (.cells (bH x (.slice A x.bE.length c)).toArray 202)):=cU _ _;have Cd:Below w.heap.size w ((w.alloc (.cells (bH x (.slice A x.bE.length c)).toArray 202)).alloc (.cells (bH x (.slice A x.bE.length c)).toArray 202)):=CU.alloc CU.size _;have nE:=(GR.du _ _ hk).dY (F':=fun k=>k<w.heap.size) (fun k h=>h.2);have HO:Hy (b8 ((w.alloc (.cells (bH x (.slice A x.bE.length c)).toArray 202)).alloc (.cells (bH x (.slice A x.bE.length c)).toArray 202)) (w.heap.size+1) 202 5 (fun k=>k<w.heap.size) (.slice (some ⟨w.heap.size+1,0,none⟩) 1 1) ([x].map Ex.gv)):=by
  have h1:=World.ownsRow_lit (base:=w.heap.size+1) (e:=202) (size:=5) (w.alloc (.cells (bH x (.slice A x.bE.length c)).toArray 202)) (bH x (.slice A x.bE.length c)).toArray 1 (by rw[size_alloc];exact dv _) (by simp[maxLen]) rfl;rw[size_alloc]at h1;refine⟨bH x (.slice A x.bE.length c),h1,lp (rO ?_) rfl⟩;exact(nE.below Cd).dY (fun k h=>⟨h,fun e=>by have e:k=w.heap.size+1:=ar e;omega⟩)
 have HB:=bD Cd;have HZ:Hy (AI x=FW 62 0 [x]):=rfl;have HK1:=bD nE;generalize AI x=Z at*;clear hk nE CU Cd;simp only[da,bH]at HO HB|-;have lQ:(w.alloc (.cells [Value.int IntKind.i64 x.kind,.int .i64 x.n,.string (bs x.text),.string (bs x.iD),.slice A x.bE.length c].toArray 202)).heap.size=w.heap.size+1:=size_alloc _ _;go_enter func173,ntmps173;go_upto_block 0 with fail
 change Code.wp _ _ _ _ ((w.alloc (.cells [Value.int IntKind.i64 x.kind,.int .i64 x.n,.string (bs x.text),.string (bs x.iD),.slice A x.bE.length c].toArray 202)).alloc (.cells [Value.int IntKind.i64 x.kind,.int .i64 x.n,.string (bs x.text),.string (bs x.iD),.slice A x.bE.length c].toArray 202));generalize(w.alloc (.cells [Value.int IntKind.i64 x.kind,.int .i64 x.n,.string (bs x.text),.string (bs x.iD),.slice A x.bE.length c].toArray 202)).alloc (.cells [Value.int IntKind.i64 x.kind,.int .i64 x.n,.string (bs x.text),.string (bs x.iD),.slice A x.bE.length c].toArray 202)=w2 at*;clear lQ;go_wp2_with fail;go_loopw [3,4] (fun v i wr=>∃(k n M:Nat) (q:List Ex) (A':Option Addr) (c':Nat),v=.slice A' M c'/\M=q.length/\i=.int .i64 k/\k<=M/\M<=60/\61<=n+k/\Hy (b8 wr (w.heap.size+1) 202 5 (fun k=>k<w.heap.size) (.slice A' M c') (q.map Ex.gv))/\Hy (Z=FW n k q)/\Hy (Below w.heap.size w wr))
  (fun v i wr=>61-(intOf i).toNat)
 case atStart=>exact⟨0,62,1,[x],_,_,rfl,rfl,rfl,by omega,by omega,by omega,HO.o,HZ.o,HB.o⟩
 case round=>
  clear HO HZ HB;obtain⟨k,n,M,q,A',c',rfl,hM,rfl,hkM,aE3,hn,HO,HZ,HB⟩:=hrel;have HM:=bD hM;obtain⟨n,rfl⟩:∃m,n=m+1:=⟨n-1,by omega⟩;by_cases bW:k<M
  ·have tH:k<q.length:=by omega
   obtain⟨g,Ak,ck,rfl,uv,nC,mn,uc,UK,hgk⟩:=RP HO.o hM tH;have i0:(0:Int)<=(k:Int):=by omega
   have i1:(k:Int)<(M:Int):=by omega
   have CE:Hy (Z=if 60<q[k].bE.length+M then false else FW n (k+1) (q++q[k].bE)):=by
    rw[Hy,HZ.o,FW,ae tH,aB tH,hM];rfl
   have al6:GR wr (fun k=>k<w.heap.size) (.row 5 (q[k].bE.map Ex.gv)) [.slice Ak (q[k].bE.map Ex.gv).length ck]:=by rw[ah];exact hgk
   generalize q[k].bE=ks at*;have HGK:=bD al6;unfold maxLen at nC;have q1:IntKind.i64.wrap (60-(M:Int))=60-(M:Int):=aI _ (by omega);clear hM HZ hgk al6 tH;by_cases We:60<ks.length+M
   ·have dG:(60:Int)-(M:Int)<(ks.length:Int):=by omega
    have gu:Hy (Z=false):=by rw[Hy,CE.o,ae We]
    clear CE;go_wp2_with fail;go_ret;exact⟨by rw[gu.o];rfl,HB.o⟩
   ·have dG:¬(60:Int)-(M:Int)<(ks.length:Int):=by omega
    have gu:Hy (Z=FW n (k+1) (q++ks)):=by rw[Hy,CE.o,aa We]
    have Fz:=b8.lt HO.o;obtain⟨news,hA⟩:=tm.IE (bytes:=72) HO.o HGK.o (aF _ _) (fun k hk _=>⟨hk,fun e=>by have:=(Fz k e.symm).1;omega⟩) (by rw[ah,ah,<-HM.o];omega) (by omega) (by have:=HB.o.size;omega);rw[ah,ah,<-HM.o]at hA;have HA:=bD hA;have SN:Hy (w.heap.size+1<=wr.heap.size):=by have:=(Fz g rfl);rw[Hy];omega
    clear CE hA;go_wp2_with (at_builtin;go_loud (refine HA.o.plain rfl _ _ _ rfl ab1 rfl rfl ?_);intro A7 c7 w7 bZ cO fG;have Fo:=bD bZ;have Zp:=bD cO;clear bZ cO fG);go_roundw
    case rel=>exact⟨k+1,n,M+ks.length,q++ks,A7,c7,rfl,by rw[af,HM.o],by go_num,by omega,by omega,by omega,by rw[aK];exact Fo.o,gu.o,HB.o.trans (bN Zp.o (by have:=SN.o;omega) (fun j hj=>by have:=(Fz j hj).1;omega))⟩
    case measure=>simp[intOf];omega
  ·have ln:k=M:=by omega
   subst ln;have gu:Hy (Z=true):=by rw[Hy,HZ.o,FW,aa (by omega)]
   clear HZ hM;go_wp2_with fail;go_ret;exact⟨by rw[gu.o];rfl,HB.o⟩
def OI(x:Ex):Bool:=x.kind==5||x.kind==6
mutual
def lW:Ex->Nat|.mk k _ _ _ l=>ng l+(if k=4 then 1 else 0)
def ng:List Ex->Nat|[]=>0|e::l=>max (lW e+(if OI e then 1 else 0)) (ng l)
end
theorem UL(k n:Int)(t s:Bt)(l:List Ex):lW (.mk k n t s l)=ng l+(if k=4 then 1 else 0):=by simp only[lW]
theorem DT:∀(l:List Ex) (e:Ex),ng (l++[e])=max (ng l) (lW e+(if OI e then 1 else 0))
 |[],e=>by simp only[List.nil_append,ng];omega
 |a::l,e=>by simp only[aU,ng];rw[DT l e];omega
mutual
theorem DU:∀x:Ex,lW x+1<=2*lV x
 |.mk k _ _ _ l=>by
  have:=DV l;simp only[lW,lV];split<;>omega
theorem DV:∀l:List Ex,ng l<=2*jb l
 |[]=>by simp[ng]
 |e::l=>by
  have h1:=DU e;have h2:=DV l;simp only[ng,jb];split<;>omega
end
theorem OJ(l:List Ex)(k:Nat):ng (l.take k)<=2*jb l:=by
 have h1:=DV (l.take k);have h2:=qZ (l.take k) (l.drop k);rw[bt]at h2;omega
theorem LW(x:Ex)(A:Option Addr)(n c:Nat)(w:World):Calls prog 202 #[da x (.slice A n c)] w fun e w'=>e=.returned (.bool (OI x))/\Below w.heap.size w w':=by
 have HB:=bD (cU w (.cells (bH x (.slice A n c)).toArray 202));have HV:Hy (OI x=(x.kind==5||x.kind==6)):=rfl;generalize OI x=R at*;simp only[da,bH]at HB|-;by_cases h5:x.kind=5
 ·have b5:(x.kind==5)=true:=by rw[h5];rfl
  have eA:Hy (R=true):=by rw[Hy,HV.o,b5];rfl
  clear h5 HV;go_enter func202,ntmps202;go_wp2_with fail;go_ret;exact⟨by rw[eA.o];rfl,HB.o⟩
 ·have b5:(x.kind==5)=false:=by rw[ai];exact h5
  have eA:Hy (R=(x.kind==6)):=by rw[Hy,HV.o,b5];rfl
  clear h5 HV;go_enter func202,ntmps202;go_wp2_with fail;go_ret;exact⟨by rw[eA.o];rfl,HB.o⟩
theorem y9:∀(m:Nat) (x:Ex) (A:Option Addr) (c:Nat) (F:Nat->Prop) (w:World),lV x<=m->m<=1000->GR w F (.row 5 (x.bE.map Ex.gv)) [.slice A x.bE.length c]->
 Calls prog 174 #[da x (.slice A x.bE.length c)] w fun e w'=>e=.returned (.int .i64 (lW x))/\Below w.heap.size w w':=by
 intro m;induction m using Nat.strongRecOn with
 |ind m ih=>
 intro x A c F w hm hm2 hk;have cg:Below w.heap.size w (w.alloc (.cells (bH x (.slice A x.bE.length c)).toArray 202)):=cU _ _;have Xu:=bD (bL.new w 202 (bH x (.slice A x.bE.length c)).toArray);have nz:=bD cg;have al7:=nf (GR.du _ _ hk);obtain⟨A2,c2,hv,Cv,mz,dS⟩:=al7;injection hv with e1 e2 e3
 subst e1 e3;have ub:=bD dS;have RO:=bD ih;have lQ:=rQ x;have mq:=bD (fun k=>OJ x.bE k);have QF:Hy (∀e∈x.bE,lV e<m):=fun e he=>by have:=n8 he;omega
 have HS:Hy (jb x.bE<=1000):=by rw[Hy];omega
 obtain⟨xk,xn,xt,xs,l⟩:=x;have HZ:=bD (UL xk xn xt xs l);generalize lW (.mk xk xn xt xs l)=Z at*;simp only[Ex.kind,Ex.n,Ex.text,Ex.iD,Ex.bE]at*;simp only[da,bH,Ex.kind,Ex.n,Ex.text,Ex.iD]at Xu nz|-;unfold maxLen at mz;clear hk cg dS ih hm lQ;go_enter func174,ntmps174;go_upto_block 0 with fail
 change Code.wp _ _ _ _ (w.alloc (.cells [Value.int .i64 xk,.int .i64 xn,.string (bs xt),.string (bs xs),.slice A l.length c].toArray 202));generalize w.alloc (.cells [Value.int .i64 xk,.int .i64 xn,.string (bs xt),.string (bs xs),.slice A l.length c].toArray 202)=w1 at*;generalize nH:w.heap.size=X at*;have gg:=bD nH;clear nH;go_cut [3]from 5 to 23 (fun v wx=>v=.int .i64 (ng l)/\Hy (Below X w wx)/\Hy (bL wx X 202 [Value.int .i64 xk,.int .i64 xn,.string (bs xt),.string (bs xs),.slice A l.length c].toArray))
 case first=>
  clear HZ;go_wp2_with fail;go_loopw [3,5,6,10] (fun nv _ _ i wr=>∃k:Nat,k<=l.length/\i=.int .i64 k/\nv=.int .i64 (ng (l.take k))/\Hy (Below X w wr)/\Hy (bL wr X 202 [Value.int .i64 xk,.int .i64 xn,.string (bs xt),.string (bs xs),.slice A l.length c].toArray))
   (fun _ _ _ i wr=>l.length-(intOf i).toNat)
  case atStart=>exact⟨0,ax _,rfl,rfl,nz.o,Xu.o⟩
  case round=>
   clear nz Xu;obtain⟨k,ln,rfl,rfl,HB,Xu⟩:=hrel;by_cases bW:k<l.length
   ·obtain⟨b,o,rfl,hb,dS⟩:=ub.o (by rintro rfl;simp at bW);have tT:b<w.heap.size:=by have:=hb.2;rw[gg.o];exact this
    obtain⟨Ak,ck,hE⟩:=dS k bW;have hE:=hE.below (by rw[gg.o];exact HB.o) tT;have x0:=hE.c0;have x1:=hE.c1;have x2:=hE.c2;have x3:=hE.c3;have x4:=hE.c4;have M1:=bD hE.bE;have i0:(0:Int)<=(k:Int):=by omega
    have i1:(k:Int)<(l.length:Int):=by omega
    have Fs:=bD (QF.o l[k] (List.getElem_mem bW));have HSN:Hy (ng (l.take (k+1))=max (ng (l.take k)) (lW l[k]+(if OI l[k]then 1 else 0))):=by rw[Hy,aC bW,DT]
    have dG:=mq.o k;have cu:=mq.o (k+1);obtain⟨D1,hD1⟩:∃D,D=ng (l.take (k+1)):=⟨_,rfl⟩;rw[<-hD1]at HSN cu;have HD1:=bD hD1;clear hD1;generalize ng (l.take k)=D0 at*;generalize l[k]=y at*;have HD:Hy (D0<=2000/\D1<=2000):=⟨by have:=HS.o;omega,by have:=HS.o;omega⟩;clear dS hE dG cu hb;have Cb:=bD (HB.o.alloc (by have:=HB.o.size;rw[gg.o]at this;exact this) (.cells (bH y (.slice Ak y.bE.length ck)).toArray 202));have Un:=bD (bL.new wr 202 (bH y (.slice Ak y.bE.length ck)).toArray);have ab4:=bD (Xu.o.alloc (.cells (bH y (.slice Ak y.bE.length ck)).toArray 202));have av9:=bD (M1.o.below (cU wr (.cells (bH y (.slice Ak y.bE.length ck)).toArray 202)));go_upto_region 5 with(fail)
    change Code.wp _ _ _ _ (wr.alloc (.cells (bH y (.slice Ak y.bE.length ck)).toArray 202));generalize wr.alloc (.cells (bH y (.slice Ak y.bE.length ck)).toArray 202)=w4 at*;generalize wr.heap.size=Y at*;clear x0 x1 x2 x3 x4 HB Xu M1;obtain⟨y0,y1,y2,y3,y4⟩:=kK Un.o;simp[bH]at y0 y1 y2 y3 y4;go_wp2_with fail;refine(RO.o (lV y) Fs.o y Ak ck _ w4 (dv _) (by have:=Fs.o;omega) av9.o).mono ?_;rintro e w5 ⟨rfl,kM⟩;have kf:=bD (Cb.o.trans (kM.mono (by have:=Cb.o.size;rw[gg.o]at this;exact this)));have zH:=bD (Un.o.below kM Un.o.lt);have ab5:=bD (ab4.o.below kM ab4.o.lt);have M4:=DU y;have HDY:Hy (lW y<=2000):=by rw[Hy];have:=Fs.o;omega
    generalize lW y=DY at*;clear kM M4 Cb Un ab4 y0 y1 y2 y3 y4;obtain⟨y0,y1,y2,y3,y4⟩:=kK zH.o;simp[bH]at y0 y1 y2 y3 y4;go_wp2_with fail;refine(LW y Ak y.bE.length ck w5).mono ?_;rintro e w6 ⟨rfl,mo⟩;have tR:=bD (kf.o.trans (mo.mono (by have:=kf.o.size;rw[gg.o]at this;exact this)));have al8:=bD (ab5.o.below mo ab5.o.lt);clear mo kf ab5 zH;cases ib:OI y with
    |true=>
     have hmx:max (D0:Int) ((DY:Int)+1)=(D1:Int):=by have:=HSN.o;rw[ib]at this;simp at this;omega
     have aE4:(if(D0:Int)<(DY:Int)+1 then(DY:Int)+1 else(D0:Int))=(D1:Int):=by rw[<-hmx];split<;>omega
     have aE5:(if(DY:Int)+1<=(D0:Int)then(D0:Int)else(DY:Int)+1)=(D1:Int):=by rw[<-hmx];split<;>omega
     have q1:IntKind.i64.wrap ((DY:Int)+1)=(DY:Int)+1:=aI _ (by have:=HDY.o;omega);clear ib HSN;go_wp2_with fail;go_roundw
     case rel=>exact⟨k+1,by omega,by go_num,by rw[HD1.o],tR.o,al8.o⟩
     case measure=>simp[intOf];omega
    |false=>
     have hmx:max (D0:Int) (DY:Int)=(D1:Int):=by have:=HSN.o;rw[ib]at this;simp at this;omega
     clear ib HSN;go_wp2_with fail;go_roundw
     case rel=>exact⟨k+1,by omega,by go_num,by rw[HD1.o],tR.o,al8.o⟩
     case measure=>simp[intOf];omega
   ·have B4:k=l.length:=by omega
    subst B4;rw[aM];go_wp2_with fail;go_meet
    case rel=>exact⟨rfl,HB.o,Xu.o⟩
 case rest=>
  obtain⟨rfl,HB,Xu⟩:=hcut;have c0:=Xu.o.cell 0;simp at c0;have hd:=mq.o l.length;rw[aM]at hd;have HD:Hy (ng l<=2000):=by rw[Hy];have:=HS.o;omega
  generalize ng l=D at*;clear hd mq nz;by_cases h4:xk=4
  ·have b4:(xk==4)=true:=by rw[h4];rfl
   have gu:Hy (Z=D+1):=by rw[Hy,HZ.o,ae h4]
   have q1:IntKind.i64.wrap ((D:Int)+1)=(D:Int)+1:=aI _ (by have:=HD.o;omega);clear HZ h4;go_wp2_with fail;go_ret;exact⟨by rw[gu.o];rfl,by rw[gg.o];exact HB.o⟩
  ·have b4:(xk==4)=false:=by rw[ai];exact h4
   have gu:Hy (Z=D):=by rw[Hy,HZ.o,aa h4];rfl
   clear HZ h4;go_wp2_with fail;go_ret;exact⟨by rw[gu.o];rfl,by rw[gg.o];exact HB.o⟩
def UQ(f:Ex->Bool)(G:Nat)(l:List Ex)(w:World):Prop:=∀(x:Ex) (A:Option Addr) (c:Nat) (F:Nat->Prop) (W:World),x∈l->Below w.heap.size w W->GR W F (.row 5 (x.bE.map Ex.gv)) [.slice A x.bE.length c]->
 Calls prog G #[da x (.slice A x.bE.length c)] W fun e W'=>e=.returned (.bool (f x))/\Below W.heap.size W W'
theorem F1(f:Ex->Bool)(G:Nat)(l:List Ex)(v:Value)(F:Nat->Prop)(w:World)(hl:l.length<=100000)(ni:∀(args:Array Value) (W:World),(callFunc G args).run prog W=.ok (.enter G args) W)
 (hv:GR w F (.row 5 (l.map Ex.gv)) [v]) (DX:UQ f G l w):
 Calls prog 234 #[v,.func (.func G) #[] #[]] w fun e w'=>(∃z:Int,e=.returned (.int .i64 z)/\decide (0<=z)=l.any f)/\Below w.heap.size w w':=by
 obtain⟨A,c,rfl,Cv,mz,dS⟩:=nf (GR.du _ _ hv);have ub:=bD dS;have Fa:=bD ni;have UR:=bD DX;unfold maxLen at mz;clear dS ni DX hv;go_enter func234,ntmps234;go_wp2_with fail;go_loopw [5,8] (fun _ i wr=>∃k:Nat,k<=l.length/\i=.int .i64 k/\Hy (Below w.heap.size w wr)/\Hy ((l.take k).any f=false))
  (fun _ i wr=>l.length-(intOf i).toNat)
 case atStart=>exact⟨0,ax _,rfl,aF _ _,by rw[List.take_zero];rfl⟩
 case round=>
  obtain⟨k,hk,rfl,HB,HA⟩:=hrel;by_cases bW:k<l.length
  ·obtain⟨b,o,rfl,hb,dS⟩:=ub.o (by rintro rfl;simp at bW);obtain⟨Ak,ck,hE⟩:=dS k bW;have hE:=hE.below HB.o hb.2;have x0:=hE.c0;have x1:=hE.c1;have x2:=hE.c2;have x3:=hE.c3;have x4:=hE.c4;have HC:=bD (UR.o l[k] Ak ck _ wr (List.getElem_mem bW) HB.o hE.bE);have i0:(0:Int)<=(k:Int):=by omega
   have i1:(k:Int)<(l.length:Int):=by omega
   have HL:Hy (l=l.take k++l[k]::l.drop (k+1)):=by rw[Hy,<-aE bW,bt]
   have HT:Hy (l.take (k+1)=l.take k++[l[k]]):=aC bW;have am0:=Fa.o;generalize l[k]=y at*;simp only[da,bH]at HC;clear dS hE hb;cases M7:f y with
   |true=>
    rw[M7]at HC;have HR:Hy (l.any f=true):=by
     have h:=HL.o;rw[Hy,h,bf,List.any_cons,M7];simp
    clear HA HL HT M7;go_wp2_with fail;refine HC.o.mono ?_;rintro e w2 ⟨rfl,cu⟩;have dm:=bD (HB.o.trans (cu.mono HB.o.size));clear cu;go_wp2_with fail;go_ret;exact⟨⟨k,rfl,by rw[HR.o];simp⟩,dm.o⟩
   |false=>
    rw[M7]at HC;have HR:Hy ((l.take (k+1)).any f=false):=by
     rw[Hy,HT.o,bf,HA.o,List.any_cons,M7];rfl
    clear HA HL HT M7;go_wp2_with fail;refine HC.o.mono ?_;rintro e w2 ⟨rfl,cu⟩;have dm:=bD (HB.o.trans (cu.mono HB.o.size));clear cu;go_wp2_with fail;go_roundw
    case rel=>exact⟨k+1,by omega,by go_num,dm.o,HR.o⟩
    case measure=>simp[intOf];omega
  ·have ln:k=l.length:=by omega
   subst ln;have HR:Hy (l.any f=false):=by have h:=HA.o;rwa [aM]at h
   clear HA;go_wp2_with fail;go_ret;exact⟨⟨-1,rfl,by rw[HR.o];rfl⟩,HB.o⟩
theorem AM(f:Ex->Bool)(G:Nat)(l:List Ex)(v:Value)(F:Nat->Prop)(w:World)(hl:l.length<=100000)(ni:∀(args:Array Value) (W:World),(callFunc G args).run prog W=.ok (.enter G args) W)
 (hv:GR w F (.row 5 (l.map Ex.gv)) [v]) (DX:UQ f G l w):
 Calls prog 206 #[v,.func (.func G) #[] #[]] w fun e w'=>e=.returned (.bool (l.any f))/\Below w.heap.size w w':=by
 have HI:=bD (F1 f G l v F w hl ni hv DX);obtain⟨A,c,rfl,-⟩:=nf hv;clear hv DX ni;go_enter func206,ntmps206;go_wp2_with fail;refine HI.o.mono ?_;rintro e w2 ⟨⟨z,rfl,hz⟩,hb⟩;have HB:=bD hb;have HZ:=bD hz;clear hb hz;go_wp2_with fail;go_ret;exact⟨by rw[<-HZ.o];rfl,HB.o⟩
def Y2(f:Ex->Bool)(G:Nat)(E:Nat)(l:List Ex)(w:World):Prop:=∀(x:Ex) (A:Option Addr) (c:Nat) (F:Nat->Prop) (W:World),x∈l->Below w.heap.size w W->GR W F (.row 5 (x.bE.map Ex.gv)) [.slice A x.bE.length c]->
 Calls prog G #[da x (.slice A x.bE.length c),.pointer (some ⟨E,0,none⟩)] W fun e W'=>e=.returned (.bool (f x))/\Below W.heap.size W W'
theorem F2(f:Ex->Bool)(G:Nat)(E:Nat)(l:List Ex)(v:Value)(F:Nat->Prop)(w:World)(hl:l.length<=100000)(ni:∀(args:Array Value) (W:World),(callFunc G args).run prog W=.ok (.enter G args) W)
 (hv:GR w F (.row 5 (l.map Ex.gv)) [v]) (DX:Y2 f G E l w):
 Calls prog 234 #[v,.func (.func G) #[] #[.pointer (some ⟨E,0,none⟩)]] w fun e w'=>(∃z:Int,e=.returned (.int .i64 z)/\decide (0<=z)=l.any f)/\Below w.heap.size w w':=by
 obtain⟨A,c,rfl,Cv,mz,dS⟩:=nf (GR.du _ _ hv);have ub:=bD dS;have Fa:=bD ni;have UR:=bD DX;unfold maxLen at mz;clear dS ni DX hv;go_enter func234,ntmps234;go_wp2_with fail;go_loopw [5,8] (fun _ i wr=>∃k:Nat,k<=l.length/\i=.int .i64 k/\Hy (Below w.heap.size w wr)/\Hy ((l.take k).any f=false))
  (fun _ i wr=>l.length-(intOf i).toNat)
 case atStart=>exact⟨0,ax _,rfl,aF _ _,by rw[List.take_zero];rfl⟩
 case round=>
  obtain⟨k,hk,rfl,HB,HA⟩:=hrel;by_cases bW:k<l.length
  ·obtain⟨b,o,rfl,hb,dS⟩:=ub.o (by rintro rfl;simp at bW);obtain⟨Ak,ck,hE⟩:=dS k bW;have hE:=hE.below HB.o hb.2;have x0:=hE.c0;have x1:=hE.c1;have x2:=hE.c2;have x3:=hE.c3;have x4:=hE.c4;have HC:=bD (UR.o l[k] Ak ck _ wr (List.getElem_mem bW) HB.o hE.bE);have i0:(0:Int)<=(k:Int):=by omega
   have i1:(k:Int)<(l.length:Int):=by omega
   have HL:Hy (l=l.take k++l[k]::l.drop (k+1)):=by rw[Hy,<-aE bW,bt]
   have HT:Hy (l.take (k+1)=l.take k++[l[k]]):=aC bW;have am0:=Fa.o;generalize l[k]=y at*;simp only[da,bH]at HC;clear dS hE hb;cases M7:f y with
   |true=>
    rw[M7]at HC;have HR:Hy (l.any f=true):=by
     have h:=HL.o;rw[Hy,h,bf,List.any_cons,M7];simp
    clear HA HL HT M7;go_wp2_with fail;refine HC.o.mono ?_;rintro e w2 ⟨rfl,cu⟩;have dm:=bD (HB.o.trans (cu.mono HB.o.size));clear cu;go_wp2_with fail;go_ret;exact⟨⟨k,rfl,by rw[HR.o];simp⟩,dm.o⟩
   |false=>
    rw[M7]at HC;have HR:Hy ((l.take (k+1)).any f=false):=by
     rw[Hy,HT.o,bf,HA.o,List.any_cons,M7];rfl
    clear HA HL HT M7;go_wp2_with fail;refine HC.o.mono ?_;rintro e w2 ⟨rfl,cu⟩;have dm:=bD (HB.o.trans (cu.mono HB.o.size));clear cu;go_wp2_with fail;go_roundw
    case rel=>exact⟨k+1,by omega,by go_num,dm.o,HR.o⟩
    case measure=>simp[intOf];omega
  ·have ln:k=l.length:=by omega
   subst ln;have HR:Hy (l.any f=false):=by have h:=HA.o;rwa [aM]at h
   clear HA;go_wp2_with fail;go_ret;exact⟨⟨-1,rfl,by rw[HR.o];rfl⟩,HB.o⟩
theorem rS(f:Ex->Bool)(G:Nat)(E:Nat)(l:List Ex)(v:Value)(F:Nat->Prop)(w:World)(hl:l.length<=100000)(ni:∀(args:Array Value) (W:World),(callFunc G args).run prog W=.ok (.enter G args) W)
 (hv:GR w F (.row 5 (l.map Ex.gv)) [v]) (DX:Y2 f G E l w):
 Calls prog 206 #[v,.func (.func G) #[] #[.pointer (some ⟨E,0,none⟩)]] w fun e w'=>e=.returned (.bool (l.any f))/\Below w.heap.size w w':=by
 have HI:=bD (F2 f G E l v F w hl ni hv DX);obtain⟨A,c,rfl,-⟩:=nf hv;clear hv DX ni;go_enter func206,ntmps206;go_wp2_with fail;refine HI.o.mono ?_;rintro e w2 ⟨⟨z,rfl,hz⟩,hb⟩;have HB:=bD hb;have HZ:=bD hz;clear hb hz;go_wp2_with fail;go_ret;exact⟨by rw[<-HZ.o];rfl,HB.o⟩
def eP(x:Ex):Bool:=x.kind==1||x.kind==2||x.kind==3
theorem rh(x:Ex)(A:Option Addr)(n c:Nat)(w:World):Calls prog 230 #[da x (.slice A n c)] w fun e w'=>e=.returned (.bool (eP x))/\Below w.heap.size w w':=by
 have HB:=bD (cU w (.cells (bH x (.slice A n c)).toArray 202));have HV:Hy (eP x=(x.kind==1||x.kind==2||x.kind==3)):=rfl;generalize eP x=R at*;simp only[da,bH]at HB|-;by_cases h1:x.kind=1
 ·have b1:(x.kind==1)=true:=by rw[h1];rfl
  have eA:Hy (R=true):=by rw[Hy,HV.o,b1];rfl
  clear h1 HV;go_enter func230,ntmps230;go_wp2_with fail;go_ret;exact⟨by rw[eA.o];rfl,HB.o⟩
 ·have b1:(x.kind==1)=false:=by rw[ai];exact h1
  by_cases h2:x.kind=2
  ·have b2:(x.kind==2)=true:=by rw[h2];rfl
   have eA:Hy (R=true):=by rw[Hy,HV.o,b1,b2];rfl
   clear h1 h2 HV;go_enter func230,ntmps230;go_wp2_with fail;go_ret;exact⟨by rw[eA.o];rfl,HB.o⟩
  ·have b2:(x.kind==2)=false:=by rw[ai];exact h2
   have eA:Hy (R=(x.kind==3)):=by rw[Hy,HV.o,b1,b2];rfl
   clear h1 h2 HV;go_enter func230,ntmps230;go_wp2_with fail;go_ret;exact⟨by rw[eA.o];rfl,HB.o⟩
mutual
def F3:Ex->Prop|.mk _ n t s l=>t.length<=10000/\s.length<=10000/\-1099511627776<=n/\n<=1099511627776/\oI l
def oI:List Ex->Prop|[]=>True|e::l=>F3 e/\oI l
end
theorem AN(x:Ex):F3 x↔x.text.length<=10000/\x.iD.length<=10000/\-1099511627776<=x.n/\x.n<=1099511627776/\oI x.bE:=by
 cases x;simp only[F3,Ex.text,Ex.iD,Ex.n,Ex.bE]
theorem u9:∀{l:List Ex} {e:Ex},oI l->e∈l->F3 e
 |a::l,e,h,he=>by
  rw[oI]at h;rcases List.mem_cons.1 he with rfl|he
  ·exact h.1
  ·exact u9 h.2 he
def DZ(val:nK)(x:Ex):Bool:=
 if x.iD≠[]\/x.bE≠[]then false
 else if x.kind=1 then decide (x.text=[])
 else if x.kind=2 then decide (x.n=0)&&!Lib.contains x.text [39]
 else decide (x.n=0)&&decide (0<(j9 val x.text).2)&&decide ((j9 val x.text).2=x.text.length)
theorem ON(val:nK)(jj:qE y7 val)(x:Ex)(A:Option Addr)(c:Nat)(w:World)(hg:eK w)(hx:F3 x):
 Calls prog 231 #[da x (.slice A x.bE.length c)] w fun e w'=>e=.returned (.bool (DZ val x))/\Below w.heap.size w w':=by
 obtain⟨h1,h2,h3,h4,-⟩:=(AN x).1 hx;have HB:=bD (cU w (.cells (bH x (.slice A x.bE.length c)).toArray 202));have HX:=bD (bL.new w 202 (bH x (.slice A x.bE.length c)).toArray);have HG:=bD (hg.below HB.o);have HV:Hy (DZ val x=if x.iD≠[]\/x.bE≠[]then false
  else if x.kind=1 then decide (x.text=[])
  else if x.kind=2 then decide (x.n=0)&&!Lib.contains x.text [39]
  else decide (x.n=0)&&decide (0<(j9 val x.text).2)&&decide ((j9 val x.text).2=x.text.length)):=rfl
 have UI:=bD h1;have UH:=bD (fun W hg=>vP y7 val jj x.text (by omega) W hg);have OL:=bD (fun W hg=>oZ x.text #[39] (by omega) W hg);generalize DZ val x=R at*;clear hx hg h1 h2 jj;simp only[da,bH]at HB HX HG|-;go_enter func231,ntmps231;go_upto_region 1 with(fail)
 change Code.wp _ _ _ _ (w.alloc (.cells [Value.int .i64 x.kind,.int .i64 x.n,.string (bs x.text),.string (bs x.iD),.slice A x.bE.length c].toArray 202));generalize w.alloc (.cells [Value.int .i64 x.kind,.int .i64 x.n,.string (bs x.text),.string (bs x.iD),.slice A x.bE.length c].toArray 202)=w1 at*;generalize nH:w.heap.size=X at*;have gg:=bD nH;clear nH;obtain⟨c0,c1,c2,c3,c4⟩:=kK HX.o;simp at c0 c1 c2 c3 c4;by_cases hs:x.iD=[]
 ·obtain⟨e1,e2⟩:=fE hs;by_cases hk:x.bE=[]
  ·have ln:¬(0:Int)<(x.bE.length:Int):=by rw[hk];simp
   have uE:Hy (R=if x.kind=1 then decide (x.text=[])
    else if x.kind=2 then decide (x.n=0)&&!Lib.contains x.text [39]
    else decide (x.n=0)&&decide (0<(j9 val x.text).2)&&decide ((j9 val x.text).2=x.text.length)):=by
    rw[Hy,HV.o,aa (fun h=>h.elim (fun h=>h hs) (fun h=>h hk))]
   clear hs hk HV;by_cases k1:x.kind=1
   ·have b1:(x.kind==1)=true:=by rw[k1];rfl
    by_cases ht:x.text=[]
    ·obtain⟨e3,e4⟩:=fE ht;have eA:Hy (R=true):=by rw[Hy,uE.o,ae k1,ht];rfl
     clear uE k1 ht;go_wp2_with fail;go_ret;exact⟨by rw[eA.o];rfl,by first|exact HB.o|(rw[gg.o];exact HB.o)⟩
    ·obtain⟨e3,e4⟩:=gT ht;have eA:Hy (R=false):=by rw[Hy,uE.o,ae k1,aT ht]
     clear uE k1 ht;go_wp2_with fail;go_ret;exact⟨by rw[eA.o];rfl,by first|exact HB.o|(rw[gg.o];exact HB.o)⟩
   ·have b1:(x.kind==1)=false:=by rw[ai];exact k1
    by_cases k2:x.kind=2
    ·have b2:(x.kind==2)=true:=by rw[k2];rfl
     by_cases hn:x.n=0
     ·have b3:(x.n==0)=true:=by rw[hn];rfl
      have HC:=bD (OL.o w1 HG.o);rw[show(#[39]:Array UInt8).toList=[39]from rfl]at HC;have eA:Hy (R=!Lib.contains x.text [39]):=by rw[Hy,uE.o,aa k1,ae k2,hn];rfl
      generalize Lib.contains x.text [39]=cb at*;clear uE k1 k2 hn h3 h4;go_wp2_with fail;refine HC.o.mono ?_;rintro e w2 ⟨rfl,rfl⟩;go_wp2_with fail;go_ret;exact⟨by rw[eA.o];rfl,by first|exact HB.o|(rw[gg.o];exact HB.o)⟩
     ·have b3:(x.n==0)=false:=by rw[ai];exact hn
      have eA:Hy (R=false):=by rw[Hy,uE.o,aa k1,ae k2,aT hn];rfl
      clear uE k1 k2 hn h3 h4;go_wp2_with fail;go_ret;exact⟨by rw[eA.o];rfl,by first|exact HB.o|(rw[gg.o];exact HB.o)⟩
    ·have b2:(x.kind==2)=false:=by rw[ai];exact k2
     have tN:Hy (R=(decide (x.n=0)&&decide (0<(j9 val x.text).2)&&decide ((j9 val x.text).2=x.text.length))):=by rw[Hy,uE.o,aa k1,aa k2]
     have mE:=bD (UH.o w1 HG.o);generalize j9 val x.text=RF at*;obtain⟨rv,r⟩:=RF;simp only at mE tN;have fH:((bs x.text).size:Int)=(x.text.length:Int):=by rw[bJ]
     clear uE k1 k2 h3 h4;by_cases hn:x.n=0
     ·have b3:(x.n==0)=true:=by rw[hn];rfl
      by_cases hr:0<r
      ·have Kv:(0:Int)<(r:Int):=by omega
       by_cases vK:r=x.text.length
       ·have b5:((r:Int)==(x.text.length:Int))=true:=by rw[vK];simp
        have b6:(r:Int)=(x.text.length:Int):=by omega
        have eA:Hy (R=true):=by rw[Hy,tN.o,aS hn,aS hr,aS vK];rfl
        clear tN hn hr vK;go_wp2_with fail;refine mE.o.mono ?_;rintro e w2 ⟨rfl,cu⟩;have dm:=bD (HB.o.trans (cu.mono (by have h:=HB.o.size;rw[gg.o]at h;exact h)));have iL:=bD (HX.o.below cu HX.o.lt);clear cu HB HX c0 c1 c2 c3 c4;have HB:=dm;obtain⟨c0,c1,c2⟩:=nw iL.o;simp at c0 c1 c2;go_wp2_with fail;go_ret;exact⟨by rw[eA.o];rfl,by first|exact HB.o|(rw[gg.o];exact HB.o)⟩
       ·have b5:((r:Int)==(x.text.length:Int))=false:=by rw[ai];omega
        have b6:¬(r:Int)=(x.text.length:Int):=by omega
        have eA:Hy (R=false):=by rw[Hy,tN.o,aS hn,aS hr,aT vK];rfl
        clear tN hn hr vK;go_wp2_with fail;refine mE.o.mono ?_;rintro e w2 ⟨rfl,cu⟩;have dm:=bD (HB.o.trans (cu.mono (by have h:=HB.o.size;rw[gg.o]at h;exact h)));have iL:=bD (HX.o.below cu HX.o.lt);clear cu HB HX c0 c1 c2 c3 c4;have HB:=dm;obtain⟨c0,c1,c2⟩:=nw iL.o;simp at c0 c1 c2;go_wp2_with fail;go_ret;exact⟨by rw[eA.o];rfl,by first|exact HB.o|(rw[gg.o];exact HB.o)⟩
      ·have Kv:¬(0:Int)<(r:Int):=by omega
       have eA:Hy (R=false):=by rw[Hy,tN.o,aS hn,aT hr];rfl
       clear tN hn hr;go_wp2_with fail;refine mE.o.mono ?_;rintro e w2 ⟨rfl,cu⟩;have dm:=bD (HB.o.trans (cu.mono (by have h:=HB.o.size;rw[gg.o]at h;exact h)));have iL:=bD (HX.o.below cu HX.o.lt);clear cu HB HX c0 c1 c2 c3 c4;have HB:=dm;obtain⟨c0,c1,c2⟩:=nw iL.o;simp at c0 c1 c2;go_wp2_with fail;go_ret;exact⟨by rw[eA.o];rfl,by first|exact HB.o|(rw[gg.o];exact HB.o)⟩
     ·have b3:(x.n==0)=false:=by rw[ai];exact hn
      have eA:Hy (R=false):=by rw[Hy,tN.o,aT hn];rfl
      clear tN hn;go_wp2_with fail;refine mE.o.mono ?_;rintro e w2 ⟨rfl,cu⟩;have dm:=bD (HB.o.trans (cu.mono (by have h:=HB.o.size;rw[gg.o]at h;exact h)));have iL:=bD (HX.o.below cu HX.o.lt);clear cu HB HX c0 c1 c2 c3 c4;have HB:=dm;obtain⟨c0,c1,c2⟩:=nw iL.o;simp at c0 c1 c2;go_wp2_with fail;go_ret;exact⟨by rw[eA.o];rfl,by first|exact HB.o|(rw[gg.o];exact HB.o)⟩
  ·have ln:(0:Int)<(x.bE.length:Int):=by have:=List.length_pos_iff.2 hk;omega
   have eA:Hy (R=false):=by rw[Hy,HV.o,ae (.inr hk)]
   clear HV hs hk;go_wp2_with fail;go_ret;exact⟨by rw[eA.o];rfl,by first|exact HB.o|(rw[gg.o];exact HB.o)⟩
 ·obtain⟨e1,e2⟩:=gT hs;have eA:Hy (R=false):=by rw[Hy,HV.o,ae (.inl hs)]
  clear HV hs;go_wp2_with fail;go_ret;exact⟨by rw[eA.o];rfl,by first|exact HB.o|(rw[gg.o];exact HB.o)⟩
end Go.Proofs.YtejafaaihodehaaGreatDoor
