/- Part 3. -/
import Derived.Test.YtejafaaihodehaaGreatDoorZ02
set_option linter.all false
set_option maxRecDepth 100000
set_option maxHeartbeats 8000000
namespace Go.Proofs.YtejafaaihodehaaGreatDoor
open Go Go.RowKit Tryz
theorem size_alloc(w:World)(o:Obj):(w.alloc o).heap.size=w.heap.size+1:=by simp
theorem Kl(x y nm:ByteArray)(pb:Nat)(w:World)(h:w.cell? ⟨pb,0,none⟩=some (.string nm)):
 Calls prog 158 #[.agg #[.string x,.string y],.pointer (some ⟨pb,0,none⟩)] w fun e w'=>e=.returned (.bool (x.toList==nm.toList))/\Below w.heap.size w w':=by
 have bW:pb<w.heap.size:=aq w _ h;go_enter func158,ntmps158;go_wp2_with fail;go_ret;exact⟨rfl,cU _ _⟩
theorem zP(l:List bY)(v:Value)(F:Nat->Prop)(nm:ByteArray)(pb:Nat)(w:World)(h:w.cell? ⟨pb,0,none⟩=some (.string nm))(hv:GR w F (.row 2 (l.map bY.gv)) [v])(hl:l.length<=100000):
 Calls prog 138 #[v,.func (.func 158) #[] #[.pointer (some ⟨pb,0,none⟩)]] w
  fun e w'=>(∃z:Int,-1<=z/\e=.returned (.int .i64 z)/\decide (0<=z)=l.any (fun x=>x.name==L nm))/\Below w.heap.size w w':=by
 obtain⟨A,c,rfl,zQ,mz,dS⟩:=dV hv;have HV:=bD hv;have ub:=bD dS;clear dS hv mz;go_enter func138,ntmps138;go_wp2_with fail;go_loopw [5,8] (fun _ i wr=>∃k:Nat,k<=l.length/\i=.int .i64 k/\Below w.heap.size w wr/\Hy ((l.take k).any (fun x=>x.name==L nm)=false))
  (fun _ i wr=>l.length-(intOf i).toNat)
 case atStart=>exact⟨0,ax _,rfl,aF _ _,by rw[List.take_zero];rfl⟩
 case round=>
  obtain⟨k,hk,rfl,hb,HA⟩:=hrel;by_cases bW:k<l.length
  ·obtain⟨b,o,rfl,_,dS⟩:=ub.o (by rintro rfl;simp at bW);obtain⟨c0,c1⟩:=dS k bW;have e0:=hb.cell (aq w _ c0) |>.trans c0;have e1:=hb.cell (aq w _ c1) |>.trans c1;have e2:=hb.cell (aq w _ h) |>.trans h;clear c0 c1 dS;go_wp2_with fail;refine(Kl _ _ nm pb wr e2).mono ?_;rintro e w' ⟨rfl,cu⟩;go_wp2_with fail
   ·have ht:((bs l[k].name).toList==nm.toList)=true:=by assumption
    go_ret;refine⟨⟨k,by omega,rfl,?_⟩,hb.trans (cu.mono hb.size)⟩;rw[aS (by omega)];refine(List.any_eq_true.2 ⟨l[k],List.getElem_mem bW,?_⟩).symm;rw[bQ,cw]at ht;exact ht
   ·have ht:((bs l[k].name).toList==nm.toList)=false:=by assumption
    go_roundw
    case rel=>
     refine⟨k+1,by omega,by go_num,hb.trans (cu.mono hb.size),?_⟩;have e:=HA.o;rw[bQ,cw]at ht
     show(l.take (k+1)).any (fun x=>x.name==L nm)=false
     rw[aC bW,bf,e];simp[ht]
    case measure=>simp[intOf];omega
  ·go_wp2_with fail;go_ret;refine⟨⟨-1,by omega,rfl,?_⟩,hb⟩;have e:=HA.o;rw[aO (by omega)]at e;rw[e];rfl
theorem wj(l:List bY)(v:Value)(F:Nat->Prop)(nm:ByteArray)(pb:Nat)(w:World)(h:w.cell? ⟨pb,0,none⟩=some (.string nm))(hv:GR w F (.row 2 (l.map bY.gv)) [v])(hl:l.length<=100000):
 Calls prog 103 #[v,.func (.func 158) #[] #[.pointer (some ⟨pb,0,none⟩)]] w
  fun e w'=>e=.returned (.bool (l.any (fun x=>x.name==L nm)))/\Below w.heap.size w w':=by
 go_enter func103,ntmps103;go_wp2_with fail;refine(zP l v F nm pb w h hv hl).mono ?_;rintro e w' ⟨⟨z,hz,rfl,he⟩,hb⟩;have HE:=bD he;clear he;go_wp2_with fail;go_ret;exact⟨cH HE.o,hb⟩
theorem sw:kJ prog 73 156 2 32:=by
 obtain⟨i0,hi,zR,rq,vF⟩:=info_parts (show(prog.info? 156).map (fun i=>(i.zero,i.size,i.bytes))=some (some (.agg #[.string (bs []),.string (bs [])]),2,32) by kernel_rfl);exact⟨i0,_,underlying73,hi,zR,rq,vF,rfl,by omega⟩
theorem pM{p:UInt8->Bool}:∀{r:Bt} {k:Nat} {l r':Bt} {k':Nat},fg p r k=.ok l r' k'->k'=k+l.length
 |[],k,l,r',k',h=>by simp[fg]at h
 |c::r,k,l,r',k',h=>by
  simp only[fg]at h;split at h
  ·cases h
  ·split at h
   ·cases h2:fg p r (k+1)with
    |ok l2 r2 k2=>
     rw[h2]at h;simp only[eN.bind]at h;injection h with h3 h4 h5
     have:=pM h2;subst h3 h5;simp;omega
    |short=>rw[h2]at h;cases h
    |bad e=>rw[h2]at h;cases h
   ·injection h with h3 h4 h5
    subst h3 h5;simp
theorem Gn{r:Bt}{k:Nat}{l r':Bt}{k':Nat}(h:eO r k=.ok l r' k'):k<k':=by
 rw[eO]at h;cases h2:fg ji r k with
 |ok l2 r2 k2=>
  rw[h2]at h;simp only[eN.bind]at h;have:=pM h2;split at h
  ·cases h
  ·rename_i db;injection h with h3 h4 h5
   have:0<l2.length:=List.length_pos_iff.2 db;omega
 |short=>rw[h2]at h;cases h
 |bad e=>rw[h2]at h;cases h
theorem nP:∀{m r:Bt} {k:Nat} {u:Unit} {r':Bt} {k':Nat},cZ m r k=.ok u r' k'->k'=k+m.length
 |[],r,k,u,r',k',h=>by simp only[cZ]at h;injection h with _ _ h;simp[h]
 |c::m,r,k,u,r',k',h=>by
  rw[cZ]at h;cases h2:dy r k with
  |ok x r2 k2=>
   have hk:k2=k:=by
    unfold dy at h2;split at h2
    ·cases h2
    ·split at h2
     ·cases h2
     ·injection h2 with _ _ h;exact h.symm
   rw[h2]at h;simp only[eN.bind]at h;split at h
   ·have:=nP h;rw[this,hk,ak];omega
   ·cases h
  |short=>rw[h2]at h;cases h
  |bad e=>rw[h2]at h;cases h
structure mT(w wr:World)(b:Nat)(s:ByteArray)(k R T:Nat)(nm:Bt)(va:Value)(at_:List bY):Prop where
 rd:Rd wr b s k
 hk:k<=s.size
 grown:w.grownBy wr (some b)
 hR:bL wr R 75 #[.int .i64 0,.string (bs []),.slice none 0 0]
 hT:bL wr T 75 #[.int .i64 2,.string (bs nm),va]
 own:b8 wr (T+1) 156 2 (fun _=>False) va (at_.map bY.gv)
 lt:b<w.heap.size
 Zm:w.heap.size<=R
 V4:R<T
theorem b8.ne{w:World}{base:Nat}{e:TypeId}{sz:Nat}{G:Nat->Prop}{v:Value}{l:List GV}(h:b8 w base e sz G v l){k:Nat}(hk:k<base):v.ownBlock≠some k:=
 fun e=>by have:=(h.lt k e).1;omega
theorem mT.step{w wr w':World}{b:Nat}{s:ByteArray}{k k' R T:Nat}{nm:Bt}{va:Value}{at_:List bY}(h:mT w wr b s k R T nm va at_)
 (hg:wr.grownBy w' (some b)) (hr:Rd w' b s k') (hk:k'<=s.size):mT w w' b s k' R T nm va at_:=by
 have h1:=h.lt;have h2:=h.Zm;have h3:=h.V4;exact⟨hr,hk,bU h.grown hg,h.hR.grown hg (by simp;omega),h.hT.grown hg (by simp;omega),h.own.kept hg (.inr (h.own.ne (by omega))) (fun _ h=>h.elim),h1,h2,h3⟩
theorem mT.below{w wr w':World}{b:Nat}{s:ByteArray}{k R T:Nat}{nm:Bt}{va:Value}{at_:List bY}(h:mT w wr b s k R T nm va at_)
 (hb:Below wr.heap.size wr w'):mT w w' b s k R T nm va at_:=by
 obtain⟨⟨r0,r1,r2⟩,hk,hg,hR,hT,ho,h1,h2,h3⟩:=h;have mP:b<wr.heap.size:=br h1 hg.size;exact⟨⟨(hb.cell mP).trans r0,(hb.cell mP).trans r1,(hb.frozen mP).trans r2⟩,hk,kI hg hb,hR.below hb hR.lt,hT.below hb hT.lt,ho.below hb,h1,h2,h3⟩
def j5(W:World)(R:Nat)(x0 x1 x2:Value):World:=((W.setCell ⟨R,0,none⟩ x0).setCell ⟨R,1,none⟩ x1).setCell ⟨R,2,none⟩ x2
theorem kL{a W:World}{R:Nat}{row:Option Nat}(h:a.grownBy W row)(hR:some R=row\/a.heap.size<=R)(x0 x1 x2:Value):a.grownBy (j5 W R x0 x1 x2) row:=
 bF (bF (bF h hR _) hR _) hR _
theorem Pz{w W:World}{b:Nat}{s:ByteArray}{k R T:Nat}{va:Value}{at_:List bY}(hg:w.grownBy W (some b))(hr:Rd W b s k)(hb:b<w.heap.size)(hR:w.heap.size<=R)(hT:R<T)
 (ho:b8 W (T+1) 156 2 (fun _=>False) va (at_.map bY.gv)) (x0 x1 x2:Value):
 w.grownBy (j5 W R x0 x1 x2) (some b)/\Rd (j5 W R x0 x1 x2) b s k/\GR (j5 W R x0 x1 x2) (fun g=>w.heap.size<=g) (.row 2 (at_.map bY.gv)) [va]:=by
 have h1:W.grownBy (j5 W R x0 x1 x2) (some R):=kL (bR _ _) (.inl rfl) _ _ _;have h2:w.grownBy (j5 W R x0 x1 x2) (some b):=kL hg (.inr hR) _ _ _;generalize j5 W R x0 x1 x2=W' at h1 h2|-;have db:some b≠some R:=by simp;omega
 have EY:va.ownBlock≠some R:=ho.ne (by omega);have h3:=ho.kept h1 (.inr EY) (fun _ h=>h.elim);refine⟨h2,hr.grown h1 db,h3.gr (fun _ h=>h.elim) (fun k hk=>?_)⟩;have:=(ho.lt k hk).1;omega
theorem mT.ret{w W:World}{b:Nat}{s:ByteArray}{k R T:Nat}{nm:Bt}{va:Value}{at_:List bY}(st:mT w W b s k R T nm va at_)(q x0 x1 x2:Value):
 w.grownBy (j5 (W.setCell ⟨T,0,none⟩ q) R x0 x1 x2) (some b)/\Rd (j5 (W.setCell ⟨T,0,none⟩ q) R x0 x1 x2) b s k/\
  GR (j5 (W.setCell ⟨T,0,none⟩ q) R x0 x1 x2) (fun g=>w.heap.size<=g) (.row 2 (at_.map bY.gv)) [va]:=by
 have h1:=st.lt;have h2:=st.Zm;have h3:=st.V4;have hg:W.grownBy (W.setCell ⟨T,0,none⟩ q) (some T):=bF (bR _ _) (.inl rfl) _;have uc:w.grownBy (W.setCell ⟨T,0,none⟩ q) (some b):=bF st.grown (.inr (show w.heap.size<=T by omega)) _;have hr:Rd (W.setCell ⟨T,0,none⟩ q) b s k:=st.rd.grown hg (by simp;omega);have EY:va.ownBlock≠some T:=st.own.ne (by omega);exact Pz uc hr h1 h2 h3 (st.own.kept hg (.inr EY) (fun _ h=>h.elim)) x0 x1 x2
theorem mT.jx{w wr w':World}{b:Nat}{s:ByteArray}{k R T g:Nat}{nm:Bt}{va:Value}{at_:List bY}(h:mT w wr b s k R T nm va at_)
 (hg:wr.grownBy w' (some g)) (hT:T<g) (ho:va.ownBlock≠some g):mT w w' b s k R T nm va at_:=by
 have h1:=h.lt;have h2:=h.Zm;have h3:=h.V4;exact⟨h.rd.grown hg (by simp;omega),h.hk,dR h.grown hg (fun x hx=>by injection hx with hx;right;omega),h.hR.grown hg (by simp;omega),h.hT.grown hg (by simp;omega),h.own.kept hg (.inr ho) (fun _ h=>h.elim),h1,h2,h3⟩
theorem mT.push{w W w':World}{b:Nat}{s:ByteArray}{k R T:Nat}{nm:Bt}{va v':Value}{at_ at2:List bY}(st:mT w W b s k R T nm va at_)
 (ho:b8 w' (T+1) 156 2 (fun _=>False) v' (at2.map bY.gv)) (hg:W.grownBy w' va.ownBlock):mT w (w'.setCell ⟨T,2,none⟩ v') b s k R T nm v' at2:=by
 have h1:=st.lt;have h2:=st.Zm;have h3:=st.V4;have db:∀x,x<=T->some x≠va.ownBlock:=fun x hx e=>by have:=(st.own.lt x e.symm).1;omega
 have g1:w'.grownBy (w'.setCell ⟨T,2,none⟩ v') (some T):=bF (bR _ _) (.inl rfl) _;have g0:w.grownBy w' (some b):=dR st.grown hg (fun x hx=>.inr (by have:=(st.own.lt x hx).1;omega));have hT:bL (w'.setCell ⟨T,2,none⟩ v') T 75 #[.int .i64 2,.string (bs nm),v']:=(st.hT.grown hg (db T (by omega))).cL 2 v';have hR:bL (w'.setCell ⟨T,2,none⟩ v') R 75 #[.int .i64 0,.string (bs []),.slice none 0 0]:=(st.hR.grown hg (db R (by omega))).grown g1 (by simp;omega);have hr:Rd (w'.setCell ⟨T,2,none⟩ v') b s k:=(st.rd.grown hg (db b (by omega))).grown g1 (by simp;omega);have EY:v'.ownBlock≠some T:=ho.ne (by omega);exact⟨hr,st.hk,bF g0 (.inr (show w.heap.size<=T by omega)) _,hR,hT,ho.kept g1 (.inr EY) (fun _ h=>h.elim),h1,h2,h3⟩
def V5(b:Nat)(s:ByteArray)(w:World)(F:eN bG)(e:Ending)(w':World):Prop:=
 w.grownBy w' (some b)/\((∃x,e=raised x/\Hy (Kk F x))\/
  ∃t r k va,Hy (F=.ok t r k)/\e=.returned (.agg #[.int .i64 t.kind,.string (bs t.text),va])/\Hy (r=(L s).drop k)/\k<=s.size/\Rd w' b s k/\
   GR w' (fun g=>w.heap.size<=g) (.row 2 (t.bK.map bY.gv)) [va])
theorem Qz(s m:ByteArray)(b:Nat)(w:World)(h:Rd w b s 0)(hs:s.size<=10000000)(hm:m.size<=100):
 Calls prog 121 #[.pointer (some ⟨b,0,none⟩),.string m] w (V5 b s w (ml (L m) (L s) 0)):=by
 have bW:b<w.heap.size:=aq w _ h.1;generalize hF:ml (L m) (L s) 0=F;have HF:Hy (F=ml (L m) ((L s).drop 0) 0):=hF.symm;clear hF;go_enter func121,ntmps121;go_wp2_with fail;have hR0:=bL.new w 75 #[.int .i64 0,.string (bs []),.slice none 0 0];have PA:=fX (bR w (some b)) (.cells #[.int .i64 0,.string (bs []),.slice none 0 0] 75);refine(nO s m b 0 _ (Rd.below h (cU _ _)) (ax _) hs hm).mono ?_;rintro e w1 hp;obtain⟨mn,⟨x,rfl,hx⟩|⟨_,r1,k1,ho,rfl,hr,hk,JZ⟩⟩:=hp.cases
 ·exact⟨rfl,bU PA mn,.inl ⟨x,rfl,by rw[HF.o];exact gZ hx⟩⟩
 have V6:Hy (F=(eO ((L s).drop k1) k1).bind fun nm r k=>
  if L m=ew then
   (fg cV r k).bind fun _ r k=>
   (cZ [62] r k).bind fun _ r k=>.ok ⟨2,nm,[]⟩ r k
  else dz (r.length+1) nm [] r k):=HF.o.trans (by rw[ml,ho.out,hr.out];rfl)
 clear hp ho hr HF;have hR1:=hR0.grown mn (by simp;omega);have Zn:=bU PA mn;have yi:=mn.size;rw[size_alloc]at yi;clear PA mn hR0;go_wp2_with fail;refine(CO s b k1 w1 JZ hk hs).mono ?_;rintro e w2 hp;obtain⟨uc,⟨x,rfl,hx⟩|⟨nm,r2,k2,ho,rfl,hr,fA,ad1⟩⟩:=hp.cases
 ·exact⟨rfl,bU Zn uc,.inl ⟨x,rfl,by rw[V6.o];exact gZ hx⟩⟩
 have hR2:=hR1.grown uc (by simp;omega);have ad2:=bU Zn uc;have wm:=uc.size;have qq:Hy (F=if L m=ew then
  (fg cV ((L s).drop k2) k2).bind fun _ r k=>
  (cZ [62] r k).bind fun _ r k=>.ok ⟨2,nm,[]⟩ r k
  else dz (((L s).drop k2).length+1) nm [] ((L s).drop k2) k2):=V6.o.trans (by rw[ho.out,hr.out];rfl)
 clear hp ho hr V6 uc hR1 Zn JZ hk;have st:mT w (w2.alloc (.cells #[.int .i64 2,.string (bs nm),.slice none 0 0] 75)) b s k2 w.heap.size w2.heap.size nm (.slice none 0 0) []:=
  ⟨ad1.below (cU _ _),fA,fX ad2 _,hR2.alloc _,bL.new _ _ _,b8.nil _ _ _ _ _,bW,dv _,by omega⟩
 clear ad1 fA ad2 hR2 yi wm;by_cases hmc:L m=ew
 ·have dG:(m.toList==[60,47,101,115,105,58])=true:=by rw[cw,hmc];rfl
  have V7:Hy (F=(fg cV ((L s).drop k2) k2).bind fun _ r k=>
   (cZ [62] r k).bind fun _ r k=>.ok ⟨2,nm,[]⟩ r k):=qq.o.trans (ae hmc)
  clear hmc qq;go_wp2_with fail;refine(vE _ _ Kh s b k2 _ st.rd st.hk hs).mono ?_;rintro e w3 hp;obtain⟨pa,⟨x,rfl,hx⟩|⟨wF,r3,k3,ho,rfl,hr,xh,Tb⟩⟩:=hp.cases
  ·exact⟨rfl,bU st.grown pa,.inl ⟨x,rfl,by rw[V7.o];exact gZ hx⟩⟩
  have HF4:Hy (F=(cZ [62] ((L s).drop k3) k3).bind fun _ r k=>.ok ⟨2,nm,[]⟩ r k):=V7.o.trans (by rw[ho.out,hr.out];rfl);have ti:=st.step pa Tb xh;clear hp ho hr V7 st pa Tb xh;go_wp2_with fail;refine(nO s ⟨#[62]⟩ b k3 _ ti.rd ti.hk hs (by decide)).mono ?_;rintro e w4 hp;obtain⟨pc,⟨x,rfl,hx⟩|⟨_,r4,k4,ho,rfl,hr,hk4,ad3⟩⟩:=hp.cases
  ·exact⟨rfl,bU ti.grown pc,.inl ⟨x,rfl,by rw[HF4.o];exact gZ hx⟩⟩
  have HF5:Hy (F=.ok ⟨2,nm,[]⟩ ((L s).drop k4) k4):=HF4.o.trans (by have e:=ho.out;rw[show L ⟨#[62]⟩=[62]from rfl]at e;rw[e,hr.out];rfl);have pj:=ti.step pc ad3 hk4;clear hp ho hr HF4 ti pc ad3 hk4;obtain⟨t0,t1,t2⟩:=nw pj.hT;obtain⟨q0,q1,q2⟩:=nw pj.hR;obtain⟨z0,z1,z2⟩:=VE pj.hR;have db:w2.heap.size≠w.heap.size:=by have:=pj.V4;omega
  go_wp2_with fail;obtain⟨f1,f2,f3⟩:=Pz pj.grown pj.rd pj.lt pj.Zm pj.V4 pj.own (.int .i64 2) (.string (bs nm)) (.slice none 0 0);exact ag (v:=.agg #[.int .i64 2,.string (bs nm),.slice none 0 0]) (by simp[results,results121,go_sem,q0,q1,q2]) rfl
   ⟨f1,.inr ⟨⟨2,nm,[]⟩,_,k4,_,HF5,rfl,rfl,pj.hk,f2,f3⟩⟩
 ·have dG:(m.toList==[60,47,101,115,105,58])=false:=by
   rw[cw];exact ai.2 hmc
  have V7:Hy (F=dz (((L s).drop k2).length+1) nm [] ((L s).drop k2) k2):=qq.o.trans (aa hmc);clear hmc qq;go_wp2_with fail;generalize hTT:w2.heap.size=T at*;generalize Zo:w.heap.size=R at*;go_loopw [] (fun wr=>∃(n:Nat) (at_:List bY) (va:Value) (k:Nat),Hy (F=dz n nm at_ ((L s).drop k) k)/\s.size+1<=n+k/\mT w wr b s k R T nm va at_/\at_.length<=8)
   (fun wr=>s.size-(intOf ((wr.cell? ⟨b,1,none⟩).getD undef)).toNat)
  case atStart=>exact⟨_,[],_,k2,V7,by rw[aj,<-cm];omega,st,by simp⟩
  case round=>
   obtain⟨n,at_,va,k,HG,hn,st,qy⟩:=hrel;clear hTT Zo;obtain⟨n,rfl⟩:∃n',n=n'+1:=⟨n-1,by have:=st.hk;omega⟩;have tj:Hy (F=(fg cV ((L s).drop k) k).bind fun wF r k=>(dy r k).bind fun c r k=>gO (fun at_ r k=>dz n nm at_ r k) nm at_ wF c r k):=HG.o;clear HG;have HWK:Hy (wr.cell? ⟨b,1,none⟩=some (.int .i64 k)):=st.rd.2.1;go_wp2_with fail;refine(vE _ _ Kh s b k _ st.rd st.hk hs).mono ?_;rintro e w3 hp;obtain⟨pa,⟨x,rfl,hx⟩|⟨wF,r3,k3,ho,rfl,hr,xh,Tb⟩⟩:=hp.cases
   ·exact⟨rfl,bU st.grown pa,.inl ⟨x,rfl,by rw[tj.o];exact gZ hx⟩⟩
   have nQ:Hy (F=(dy ((L s).drop k3) k3).bind fun c r k=>gO (fun at_ r k=>dz n nm at_ r k) nm at_ wF c r k):=tj.o.trans (by rw[ho.out,hr.out];rfl);have ti:=st.step pa Tb xh;have B4:k<=k3:=by have:=pM ho.out;omega
   clear hp ho hr tj pa Tb xh;go_wp2_with fail;refine(Ng s k3 b _ ti.rd ti.hk hs).mono ?_;rintro e w4 ⟨⟨n4,rfl⟩,⟨x,rfl,hx⟩|⟨c,ho,rfl,xh⟩⟩
   ·exact⟨rfl,dF ti.grown _,.inl ⟨x,rfl,by rw[nQ.o];exact gZ hx⟩⟩
   have ud:Hy (F=gO (fun at_ r k=>dz n nm at_ r k) nm at_ wF c ((L s).drop k3) k3):=nQ.o.trans (by rw[ho.out];rfl);have pj:mT w (w3.drewN n4) b s k3 R T nm va at_:=ti.step (dF (bR _ _) _) (ti.rd.drewN _) ti.hk;have db:T≠R:=by have:=pj.V4;omega
   have hbT:b≠T:=by have:=pj.lt;have:=pj.Zm;have:=pj.V4;omega
   clear ho nQ ti st;obtain⟨A,ca,rfl⟩:∃A c,va=.slice A at_.length c:=by
    obtain⟨A,c,h⟩:=pj.own.form;exact⟨A,c,by rw[h,ah]⟩
   obtain⟨r0,r1,r2⟩:=id pj.rd;obtain⟨t0,t1,t2⟩:=nw pj.hT;have y0:=pj.hT.frozen 0;obtain⟨q0,q1,q2⟩:=nw pj.hR;obtain⟨z0,z1,z2⟩:=VE pj.hR;go_wp2_with fail
   ·have hc:c=62:=by
     have h:((c.toNat:Int)==62)=true:=by assumption
     rw[mQ];simpa using h
    have qO:Hy (F=.ok ⟨1,nm,at_⟩ ((L s).drop (k3+1)) (k3+1)):=ud.o.trans (by rw[gO,ae hc,List.tail_drop]);have qs:=pj.step (bF (bR _ _) (.inl rfl) _) (pj.rd.step (k3+1)) (by omega);obtain⟨f1,f2,f3⟩:=qs.ret (.int .i64 1) (.int .i64 1) (.string (bs nm)) (.slice A at_.length ca);exact ag (v:=.agg #[.int .i64 1,.string (bs nm),.slice A at_.length ca]) (by simp[results,results121,go_sem,q0,q1,q2]) rfl
     ⟨f1,.inr ⟨⟨1,nm,at_⟩,_,k3+1,_,qO,rfl,rfl,by omega,f2,f3⟩⟩
   ·have hc:¬c=62:=by
     have h:((c.toNat:Int)==62)=false:=by assumption
     rw[mQ];simpa using h
    have nC:c=47:=by
     have h:((c.toNat:Int)==47)=true:=by assumption
     rw[mQ];simpa using h
    have qO:Hy (F=(cZ [62] ((L s).drop (k3+1)) (k3+1)).bind fun _ r k=>.ok ⟨3,nm,at_⟩ r k):=ud.o.trans (by rw[gO,aa hc,ae nC,List.tail_drop]);have qs:=pj.step (bF (bR _ _) (.inl rfl) _) (pj.rd.step (k3+1)) (by omega);clear r0 r1 r2 t0 t1 t2 y0 q0 q1 q2 z0 z1 z2 hc nC ud pj;refine(nO s ⟨#[62]⟩ b (k3+1) _ qs.rd qs.hk hs (by decide)).mono ?_;rintro e w6 hp;obtain⟨J0,⟨x,rfl,hx⟩|⟨_,r6,k6,ho,rfl,hr,hk6,ad4⟩⟩:=hp.cases
    ·exact⟨rfl,bU qs.grown J0,.inl ⟨x,rfl,by rw[qO.o];exact gZ hx⟩⟩
    have tP:Hy (F=.ok ⟨3,nm,at_⟩ ((L s).drop k6) k6):=qO.o.trans (by have e:=ho.out;rw[show L ⟨#[62]⟩=[62]from rfl]at e;rw[e,hr.out];rfl);have PC:=qs.step J0 ad4 hk6;clear hp ho hr qO qs J0 ad4 hk6;obtain⟨t0,t1,t2⟩:=nw PC.hT;have y0:=PC.hT.frozen 0;obtain⟨q0,q1,q2⟩:=nw PC.hR;obtain⟨z0,z1,z2⟩:=VE PC.hR;go_wp2_with fail;obtain⟨f1,f2,f3⟩:=PC.ret (.int .i64 3) (.int .i64 3) (.string (bs nm)) (.slice A at_.length ca);exact ag (v:=.agg #[.int .i64 3,.string (bs nm),.slice A at_.length ca]) (by simp[results,results121,go_sem,q0,q1,q2]) rfl
     ⟨f1,.inr ⟨⟨3,nm,at_⟩,_,k6,_,tP,rfl,rfl,PC.hk,f2,f3⟩⟩
   ·refine⟨rfl,pj.grown,.inl ⟨_,rfl,?_⟩⟩;have hc:¬c=62:=by
     have h:((c.toNat:Int)==62)=false:=by assumption
     rw[mQ];simpa using h
    have nC:¬c=47:=by
     have h:((c.toNat:Int)==47)=false:=by assumption
     rw[mQ];simpa using h
    have Km:wF=[]:=by
     have h:(bs wF).toList.isEmpty=true:=by assumption
     simpa[bQ]using h
    rw[ud.o,gO,aa hc,aa nC,ae Km];exact .inr ⟨40,rfl,rfl⟩
   ·have hc:¬c=62:=by
     have h:((c.toNat:Int)==62)=false:=by assumption
     rw[mQ];simpa using h
    have nC:¬c=47:=by
     have h:((c.toNat:Int)==47)=false:=by assumption
     rw[mQ];simpa using h
    have Km:¬wF=[]:=by
     have h:(bs wF).toList.isEmpty=false:=by assumption
     simpa[bQ]using h
    have qO:Hy (F=(eO ((L s).drop k3) k3).bind fun a r k=>(cZ [61] r k).bind fun _ r k=>qx (fun at_ r k=>dz n nm at_ r k) at_ a r k):=
     ud.o.trans (by rw[gO,aa hc,aa nC,aa Km])
    clear r0 r1 r2 t0 t1 t2 y0 q0 q1 q2 z0 z1 z2 hc nC Km ud;refine(CO s b k3 _ pj.rd pj.hk hs).mono ?_;rintro e w5 hp;obtain⟨zS,⟨x,rfl,hx⟩|⟨a,r5,k5,ho,rfl,hr,VF,ad5⟩⟩:=hp.cases
    ·exact⟨rfl,bU pj.grown zS,.inl ⟨x,rfl,by rw[qO.o];exact gZ hx⟩⟩
    have ad6:k3<k5:=Gn ho.out;have tP:Hy (F=(cZ [61] ((L s).drop k5) k5).bind fun _ r k=>qx (fun at_ r k=>dz n nm at_ r k) at_ a r k):=qO.o.trans (by rw[ho.out,hr.out];rfl);have qs:=pj.step zS ad5 VF;clear hp ho hr qO pj zS ad5 VF;obtain⟨t0,t1,t2⟩:=nw qs.hT;have hTl:=qs.hT.lt;have EZ:∀(fn:Fn) (first cap:Array Value) (w:World),(Instr.makeFunc fn first cap).run prog w=.ok (.func fn first cap) w:=fun _ _ _ _=>rfl;go_wp2_with fail;have PC:=qs.below (cU _ (.cells #[.string (bs a),.string (bs [])] 156));have hP:=bL.new w5 156 #[.string (bs a),.string (bs [])];have hPT:T<w5.heap.size:=hTl;have hPo:(Value.slice A at_.length ca).ownBlock≠some w5.heap.size:=fun e=>by have:=(qs.own.lt _ e).2;omega
    clear t0 t1 t2 qs hTl;generalize w5.heap.size=Pb at hP hPT hPo|-;refine(wj at_ _ (fun _=>True) (bs a) Pb _ (hP.cell 0) (PC.own.gr (fun _ h=>h.elim) (fun _ _=>trivial)) (by omega)).mono ?_;rintro e w6 ⟨rfl,mo⟩;have V8:=PC.below mo;have hP7:=hP.below mo hP.lt;rw[eB];clear PC hP mo;generalize SG:at_.any (fun x=>x.name==a)=kn;go_wp2_with fail;refine(nO s ⟨#[61]⟩ b k5 _ V8.rd V8.hk hs (by decide)).mono ?_;rintro e w8 hp;obtain⟨Tc,⟨x,rfl,hx⟩|⟨_,r8,k8,ho,rfl,hr,hk8,ad7⟩⟩:=hp.cases
    ·exact⟨rfl,bU V8.grown Tc,.inl ⟨x,rfl,by rw[tP.o];exact gZ hx⟩⟩
    have ad8:k8=k5+1:=nP ho.out;have xW:Hy (F=qx (fun at_ r k=>dz n nm at_ r k) at_ a ((L s).drop k8) k8):=tP.o.trans (by have e:=ho.out;rw[show L ⟨#[61]⟩=[61]from rfl]at e;rw[e,hr.out];rfl);have Td:=V8.step Tc ad7 hk8;have hbP:b≠Pb:=by have:=Td.lt;have:=Td.Zm;have:=Td.V4;omega
    have hP8:=hP7.grown Tc (by simp;omega);have CQ:k3<k8:=by omega
    clear hp ho hr tP V8 Tc ad7 hk8 hP7 ad6 ad8;have t2:=Td.hT.cell 2;cases kn with
    |true=>
     have Ij:=bD SG;clear SG;go_wp2_with fail;refine⟨rfl,Td.grown,.inl ⟨_,rfl,?_⟩⟩;rw[xW.o,qx,ae (by rw[Ij.o];rfl)];exact .inr ⟨41,rfl,rfl⟩
    |false=>
     have Ij:=bD SG;clear SG;by_cases h8:8<=at_.length
     ·go_wp2_with fail;refine⟨rfl,Td.grown,.inl ⟨_,rfl,?_⟩⟩;rw[xW.o,qx,ae (by rw[Ij.o];simpa using h8)];exact .inr ⟨41,rfl,rfl⟩
     ·have Zp:Hy (F=su (fun at_ r k=>dz n nm at_ r k) at_ a ((L s).drop k8) k8):=xW.o.trans (by rw[qx,aa (by rw[Ij.o];simpa using h8)]);clear xW Ij;go_wp2_with fail;refine(nO s ⟨#[34]⟩ b k8 _ Td.rd Td.hk hs (by decide)).mono ?_;rintro e w9 hp;obtain⟨xX,⟨x,rfl,hx⟩|⟨_,r9,k9,ho,rfl,hr,PD,ad9⟩⟩:=hp.cases
      ·exact⟨rfl,bU Td.grown xX,.inl ⟨x,rfl,by rw[Zp.o];exact gZ hx⟩⟩
      have ae0:k9=k8+1:=nP ho.out;have HG8:Hy (F=(fg gY ((L s).drop k9) k9).bind fun v r k=>(cZ [34] r k).bind fun _ r k=>dz n nm (at_++[⟨a,v⟩]) r k):=
       Zp.o.trans (by have e:=ho.out;rw[show L ⟨#[34]⟩=[34]from rfl]at e;rw[su,e,hr.out];rfl)
      have st9:=Td.step xX ad9 PD;have hP9:=hP8.grown xX (by simp;omega);have ae1:k3<k9:=by omega
      clear hp ho hr Zp Td xX ad9 PD hP8 CQ ae0 t2;go_wp2_with fail;refine(vE _ _ Ta s b k9 _ st9.rd st9.hk hs).mono ?_;rintro e VG hp;obtain⟨Kn,⟨x,rfl,hx⟩|⟨vl,r10,Ik,ho,rfl,hr,ae2,XX⟩⟩:=hp.cases
      ·exact⟨rfl,bU st9.grown Kn,.inl ⟨x,rfl,by rw[HG8.o];exact gZ hx⟩⟩
      have Zq:=pM ho.out;have HG9:Hy (F=(cZ [34] ((L s).drop Ik) Ik).bind fun _ r k=>dz n nm (at_++[⟨a,vl⟩]) r k):=HG8.o.trans (by rw[ho.out,hr.out];rfl);have Te:=st9.step Kn XX ae2;have V9:=hP9.grown Kn (by simp;omega);have ae3:k3<Ik:=by omega
      clear hp ho hr HG8 st9 Kn XX ae2 hP9 ae1 Zq;have p1:=V9.cell 1;have p2:=V9.frozen 1;go_wp2_with fail;have hgP:VG.grownBy (VG.setCell ⟨Pb,1,none⟩ (.string (bs vl))) (some Pb):=bF (bR _ _) (.inl rfl) _;have QA:=Te.jx hgP hPT hPo;have Zr:bL (VG.setCell ⟨Pb,1,none⟩ (.string (bs vl))) Pb 156 #[.string (bs a),.string (bs vl)]:=V9.cL 1 (.string (bs vl));clear Te V9 p1 p2;refine(nO s ⟨#[34]⟩ b Ik _ QA.rd QA.hk hs (by decide)).mono ?_;generalize VG.setCell ⟨Pb,1,none⟩ (.string (bs vl))=w11 at QA Zr|-;rintro e Wa hp;obtain⟨Wb,⟨x,rfl,hx⟩|⟨_,r12,Zs,ho,rfl,hr,Nh,XY⟩⟩:=hp.cases
      ·exact⟨rfl,bU QA.grown Wb,.inl ⟨x,rfl,by rw[HG9.o];exact gZ hx⟩⟩
      have Zt:Zs=Ik+1:=nP ho.out;have Zu:Hy (F=dz n nm (at_++[⟨a,vl⟩]) ((L s).drop Zs) Zs):=
       HG9.o.trans (by have e:=ho.out;rw[show L ⟨#[34]⟩=[34]from rfl]at e;rw[e,hr.out];rfl)
      have QB:=QA.step Wb XY Nh;have Zv:=Zr.grown Wb (by simp;omega);have az7:k3<Zs:=by omega
      clear hp ho hr HG9 QA Wb XY Nh Zr ae3 Zt hgP;have t2:=QB.hT.cell 2;have p0:=Zv.cell 0;have p1:=Zv.cell 1;have hTl:=QB.hT.lt;have hPl:=Zv.lt;have HO:Hy (b8 (Wa.alloc (.cells #[.string (bs a),.string (bs vl)] 156)) (T+1) 156 2 (fun _=>False) (.slice A at_.length ca) (at_.map bY.gv)):=QB.own.below (cU _ _);have HC:Hy (mR (Wa.alloc (.cells #[.string (bs a),.string (bs vl)] 156)) (fun _=>True) (some ⟨Wa.heap.size,0,none⟩) [.string (bs a),.string (bs vl)]):=pz (bL.new Wa 156 [.string (bs a),.string (bs vl)].toArray);have HL:Hy ((at_.map bY.gv).length+[bY.gv ⟨a,vl⟩].length<=maxLen/\((at_.map bY.gv).length+[bY.gv ⟨a,vl⟩].length)*32<=140737488355328/\T+1<=(Wa.alloc (.cells #[.string (bs a),.string (bs vl)] 156)).heap.size/\
       at_.length+1=(at_.map bY.gv++[bY.gv ⟨a,vl⟩]).length):=by
       refine⟨?_,?_,?_,?_⟩
       ·simp[maxLen];omega
       ·simp;omega
       ·rw[size_alloc];omega
       ·simp
      have HT:Hy (bL (Wa.alloc (.cells #[.string (bs a),.string (bs vl)] 156)) T 75 #[.int .i64 2,.string (bs nm),.slice A at_.length ca]):=QB.hT.alloc _;have HN:Hy (some T≠(Value.slice A at_.length ca).ownBlock):=fun e=>by have:=(QB.own.lt T e.symm).1;omega
      go_wp2_with (at_builtin;go_loud (refine gX rfl _ _ _ rfl sw rfl HO.o rfl rfl HC.o (lp (xf ⟨a,vl⟩) rfl) HL.o.1 HL.o.2.1 HL.o.2.2.1 HL.o.2.2.2 ?_);intro Zw Zx Tf bZ cO fG;have HW:=bD bZ;have HG:=bD cO;have x2:=(HT.o.grown cO HN.o).cell 2;have x3:=(HT.o.grown cO HN.o).frozen 2;clear bZ cO fG);have HS:Hy (mT w (Wa.alloc (.cells #[.string (bs a),.string (bs vl)] 156)) b s Zs R T nm (.slice A at_.length ca) at_):=QB.below (cU _ _);have stF:mT w (Tf.setCell ⟨T,2,none⟩ (.slice Zw (at_.length+1) Zx)) b s Zs R T nm (.slice Zw (at_.length+1) Zx) (at_++[⟨a,vl⟩]):=
       HS.o.push (by rw[aK];exact HW.o) HG.o
      refine⟨⟨n,at_++[⟨a,vl⟩],_,Zs,Zu,by omega,stF,by simp;omega⟩,?_⟩;rw[stF.rd.2.1,HWK.o];have:=stF.hk;simp[intOf];omega
end Go.Proofs.YtejafaaihodehaaGreatDoor
