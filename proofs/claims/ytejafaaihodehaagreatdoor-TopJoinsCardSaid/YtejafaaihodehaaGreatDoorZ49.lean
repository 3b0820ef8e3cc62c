/- Part 49. -/
import Derived.Test.YtejafaaihodehaaGreatDoorZ28
import Derived.Test.YtejafaaihodehaaGreatDoorZ46
import Derived.Test.YtejafaaihodehaaGreatDoorZ48
import Derived.Handed
import Derived.HandedShaped
set_option linter.all false
set_option maxRecDepth 100000
set_option maxHeartbeats 8000000
namespace Go.Proofs.YtejafaaihodehaaGreatDoor
open Go Go.RowKit Tryz
theorem zC{H:Type}{enc:TypeId × Value->H}{a:Assume}{C:Checked}{os:Os}{f:FuncId}{fn:Func}{s:ChangeSpec}{Ze:List PathCond}{apart fresh handsOn again:Bool}{X:World->Array Value->Prop}
 (hX:∀(w w':World) (args:Array Value),w.heap=w'.heap->X w args->X w' args)
 (own:ownKnob C.prog.godebug=none) (zD:os.Started) (ac7:C.prog.inits.idxOf? f=none) (hfn:C.prog.funcs[f]?=some fn)
 (witness:∃(w:World) (tape:Tape) (i:Input),w.os=os/\(w.forCall tape i).Shaped C.prog/\i.vars=[]/\Input.okWide C.prog (w.forCall tape i) .any w.heap.size f i/\
  ((s.pre enc C.prog fn Ze apart (w.forCall tape i).memory i.args/\X (w.forCall tape i).memory i.args)/\sizedMet enc C.prog fn (OpenSpec.ofChange s) apart (w.forCall tape i).memory i.args)/\a.holds C.prog (lone (Frame.enter C.prog f i.args .normal) [] (w.forCall tape i)))
 (VC:∀(W:World) (base:Nat) (args:Array Value) (ds gs:List (DataW H)) (before:List MemPlace),
  (∀(j:Nat) t v,fn.params[j]?=some t->args[j]?=some v->Value.okWide C.prog W .any base t v)->DataW.Whole enc C.prog fn.params.toList s.vars apart W args.toList ds gs before->
  W.ShapedOpen C.prog->X W args->Calls C.prog f args W fun e W'=>∃v,e=.returned v/\s.post enc C.prog fn apart fresh handsOn again W args v W'):
 ReturnsInHanded a C os f .any (fun w args=>(s.pre enc C.prog fn Ze apart w args/\X w args)/\sizedMet enc C.prog fn (OpenSpec.ofChange s) apart w args) (s.post enc C.prog fn apart fresh handsOn again):=by
 refine returnsInHanded_of_calls own zD ac7 witness fun w tape i _ Jb _ po ZS _=>?_;obtain⟨_,_,_,fn',az6,_,_,_,_,jj⟩:=po;obtain rfl:fn'=fn:=ar (az6.symm.trans hfn);obtain⟨⟨⟨ds,gs,before,hw,_⟩,hx⟩,_⟩:=ZS;refine(VC (w.forCall tape i) w.heap.size i.args ds gs before jj (DataW.Whole.of_heap (w':=w.forCall tape i) (by rfl) hw) Jb (hX _ _ _ (by rfl) hx)).mono fun e W' h=>?_;obtain⟨v,rfl,hp⟩:=h;exact ChangeSpec.post_blind hp
end Go.Proofs.YtejafaaihodehaaGreatDoor
namespace Go.Proofs.YtejafaaihodehaaGreatDoor
open Go Go.Deep Go.RowKit Go.WideShapes Tryz
def aa1(r:gw):Value:=.agg #[.string (bs r.jK),.int .i64 r.code,.bool r.eU,.string (bs r.body),.int .i64 r.bad]
section
variable {H:Type} {enc:TypeId × Value->H} {w:World} {base:Nat} {jP:Nat->Bool} {held:Bool}
theorem ak4:∀{cs:List Value},cs.length=5->∃c0 c1 c2 c3 c4,cs=[c0,c1,c2,c3,c4]
 |[c0,c1,c2,c3,c4],_=>⟨c0,c1,c2,c3,c4,rfl⟩
theorem ak5:∀{cs:List Value},cs.length=6->∃c0 c1 c2 c3 c4 c5,cs=[c0,c1,c2,c3,c4,c5]
 |[c0,c1,c2,c3,c4,c5],_=>⟨c0,c1,c2,c3,c4,c5,rfl⟩
theorem ak6:∀{cs:List Value},cs.length=9->∃c0 c1 c2 c3 c4 c5 c6 c7 c8,cs=[c0,c1,c2,c3,c4,c5,c6,c7,c8]
 |[c0,c1,c2,c3,c4,c5,c6,c7,c8],_=>⟨c0,c1,c2,c3,c4,c5,c6,c7,c8,rfl⟩
theorem GX:prog.cellsOf 23=6:=by kernel_rfl
theorem Ol:prog.cellsOf 25=9:=by kernel_rfl
theorem Bz:prog.cellsOf 41=5:=by kernel_rfl
theorem kk:prog.cellsOf 9=1:=by kernel_rfl
theorem Rl:prog.cellsOf 3=1:=by kernel_rfl
theorem DE:prog.cellsOf 4=1:=by kernel_rfl
theorem Ly:prog.cellsOf 29=1:=by kernel_rfl
theorem aa2{n:Nat}{cs:List Value}{x:DataW H × List MemPlace}(h:DataW.trod enc prog w base jP held n 23 cs=some x):∃v:cK,cs=[.string (bs v.e0),.string (bs v.e1),.string (bs v.e2),.string (bs v.e3),.string (bs v.e4),.string (bs v.e5)]:=by
 obtain⟨ys,n',hn,hx,fH,zJ,hf⟩:=DataW.trod_struct underlying23 h;rw[GX]at fH;obtain⟨c0,c1,c2,c3,c4,c5,rfl⟩:=ak5 fH;have g0:=(hf 0 _ rfl).trans (aB (by rw[zJ];simp));have g0:DataW.trod enc prog w base jP held n' 9 (List.take (prog.cellsOf 9) [c0,c1,c2,c3,c4,c5])=some _:=g0;have g1:=(hf 1 _ rfl).trans (aB (by rw[zJ];simp));have g1:DataW.trod enc prog w base jP held n' 9 (List.take (prog.cellsOf 9) [c1,c2,c3,c4,c5])=some _:=g1;have g2:=(hf 2 _ rfl).trans (aB (by rw[zJ];simp));have g2:DataW.trod enc prog w base jP held n' 9 (List.take (prog.cellsOf 9) [c2,c3,c4,c5])=some _:=g2;have g3:=(hf 3 _ rfl).trans (aB (by rw[zJ];simp));have g3:DataW.trod enc prog w base jP held n' 9 (List.take (prog.cellsOf 9) [c3,c4,c5])=some _:=g3;have g4:=(hf 4 _ rfl).trans (aB (by rw[zJ];simp));have g4:DataW.trod enc prog w base jP held n' 9 (List.take (prog.cellsOf 9) [c4,c5])=some _:=g4;have g5:=(hf 5 _ rfl).trans (aB (by rw[zJ];simp));have g5:DataW.trod enc prog w base jP held n' 9 (List.take (prog.cellsOf 9) [c5])=some _:=g5;rw[kk]at g0;rw[kk]at g1;rw[kk]at g2;rw[kk]at g3;rw[kk]at g4;rw[kk]at g5;obtain⟨s0,e0,_⟩:=DataW.trod_string underlying9 g0;obtain⟨s1,e1,_⟩:=DataW.trod_string underlying9 g1;obtain⟨s2,e2,_⟩:=DataW.trod_string underlying9 g2;obtain⟨s3,e3,_⟩:=DataW.trod_string underlying9 g3;obtain⟨s4,e4,_⟩:=DataW.trod_string underlying9 g4;obtain⟨s5,e5,_⟩:=DataW.trod_string underlying9 g5;simp only[List.take_succ_cons,List.take_zero,List.cons.injEq,and_true]at e0 e1 e2 e3 e4 e5;subst e0 e1 e2 e3 e4 e5;exact⟨⟨L s0,L s1,L s2,L s3,L s4,L s5⟩,by simp only[qo]⟩
theorem Xj{n:Nat}{cs:List Value}{x:DataW H × List MemPlace}(h:DataW.trod enc prog w base jP held n 25 cs=some x):∃(v:cK) (b s:Bt) (q:Bool),Value.agg cs.toArray=nJ v b s q:=by
 obtain⟨ys,n',hn,hx,fH,zJ,hf⟩:=DataW.trod_struct underlying25 h;rw[Ol]at fH;obtain⟨c0,c1,c2,c3,c4,c5,c6,c7,c8,rfl⟩:=ak6 fH;have g0:=(hf 0 _ rfl).trans (aB (by rw[zJ];simp));have g0:DataW.trod enc prog w base jP held n' 23 (List.take (prog.cellsOf 23) [c0,c1,c2,c3,c4,c5,c6,c7,c8])=some _:=g0;have g1:=(hf 1 _ rfl).trans (aB (by rw[zJ];simp));have g1:DataW.trod enc prog w base jP held n' 9 (List.take (prog.cellsOf 9) [c6,c7,c8])=some _:=g1;have g2:=(hf 2 _ rfl).trans (aB (by rw[zJ];simp));have g2:DataW.trod enc prog w base jP held n' 9 (List.take (prog.cellsOf 9) [c7,c8])=some _:=g2;have g3:=(hf 3 _ rfl).trans (aB (by rw[zJ];simp));have g3:DataW.trod enc prog w base jP held n' 4 (List.take (prog.cellsOf 4) [c8])=some _:=g3;rw[GX]at g0;rw[kk]at g1;rw[kk]at g2;rw[DE]at g3;obtain⟨v0,e0⟩:=aa2 g0;obtain⟨s1,e1,_⟩:=DataW.trod_string underlying9 g1;obtain⟨s2,e2,_⟩:=DataW.trod_string underlying9 g2;obtain⟨b3,e3,_⟩:=DataW.trod_bool underlying4 g3;simp only[List.take_succ_cons,List.take_zero,List.cons.injEq,and_true]at e0 e1 e2 e3;obtain⟨rfl,rfl,rfl,rfl,rfl,rfl⟩:=e0;subst e1 e2 e3;exact⟨v0,L s1,L s2,b3,by simp only[nJ,qo]⟩
theorem Ul{n:Nat}{cs:List Value}{x:DataW H × List MemPlace}(h:DataW.trod enc prog w base jP held n 41 cs=some x):∃r:gw,Value.agg cs.toArray=aa1 r:=by
 obtain⟨ys,n',hn,hx,fH,zJ,hf⟩:=DataW.trod_struct underlying41 h;rw[Bz]at fH;obtain⟨c0,c1,c2,c3,c4,rfl⟩:=ak4 fH;have g0:=(hf 0 _ rfl).trans (aB (by rw[zJ];simp));have g0:DataW.trod enc prog w base jP held n' 9 (List.take (prog.cellsOf 9) [c0,c1,c2,c3,c4])=some _:=g0;have g1:=(hf 1 _ rfl).trans (aB (by rw[zJ];simp));have g1:DataW.trod enc prog w base jP held n' 3 (List.take (prog.cellsOf 3) [c1,c2,c3,c4])=some _:=g1;have g2:=(hf 2 _ rfl).trans (aB (by rw[zJ];simp));have g2:DataW.trod enc prog w base jP held n' 4 (List.take (prog.cellsOf 4) [c2,c3,c4])=some _:=g2;have g3:=(hf 3 _ rfl).trans (aB (by rw[zJ];simp));have g3:DataW.trod enc prog w base jP held n' 9 (List.take (prog.cellsOf 9) [c3,c4])=some _:=g3;have g4:=(hf 4 _ rfl).trans (aB (by rw[zJ];simp));have g4:DataW.trod enc prog w base jP held n' 29 (List.take (prog.cellsOf 29) [c4])=some _:=g4;rw[kk]at g0;rw[Rl]at g1;rw[DE]at g2;rw[kk]at g3;rw[Ly]at g4;obtain⟨s0,e0,_⟩:=DataW.trod_string underlying9 g0;obtain⟨k1,e1,_⟩:=DataW.trod_int underlying3 g1;obtain⟨b2,e2,_⟩:=DataW.trod_bool underlying4 g2;obtain⟨s3,e3,_⟩:=DataW.trod_string underlying9 g3;obtain⟨k4,e4,_⟩:=DataW.trod_int underlying29 g4;simp only[List.take_succ_cons,List.take_zero,List.cons.injEq,and_true]at e0 e1 e2 e3 e4;subst e0 e1 e2 e3 e4;exact⟨⟨L s0,k1,b2,L s3,k4⟩,by simp only[aa1,qo]⟩
theorem Rm{r:Reach}{b0:Nat}{v:Value}{d:DataW H}{ps:List MemPlace}(jj:Value.okWide prog w r b0 25 v)(hd:DataW.Trod enc prog w base jP held 25 v d ps):
 ∃(e:cK) (b s:Bt) (q:Bool),v=nJ e b s q:=by
 obtain⟨cs,rfl,-⟩:=okWide_struct underlying25 jj;obtain⟨fuel,hf⟩:=hd;have hf2:DataW.trod enc prog w base jP held fuel 25 cs.toList=some (d,ps):=hf;obtain⟨e,b,s,q,h⟩:=Xj hf2;exact⟨e,b,s,q,by rw[<-h,Array.toArray_toList]⟩
end
end Go.Proofs.YtejafaaihodehaaGreatDoor
namespace Go.Proofs.YtejafaaihodehaaGreatDoor
open Go Go.RowKit Tryz
theorem DF{w:World}{F:Nat->Prop}{r:gw}{cs:List Value}(h:GR w F r.gv cs):cs=[.string (bs r.jK),.int .i64 r.code,.bool r.eU,.string (bs r.body),.int .i64 r.bad]:=by
 obtain⟨a0,b0,rfl,h0,h⟩:=cd.1 (nN.1 h);obtain⟨a1,b1,rfl,h1,h⟩:=cd.1 h;obtain⟨a2,b2,rfl,h2,h⟩:=cd.1 h;obtain⟨a3,b3,rfl,h3,h⟩:=cd.1 h;obtain⟨a4,b4,rfl,h4,h⟩:=cd.1 h;rw[eQ.1 h0,lK.1 h1,sr.1 h2,eQ.1 h3,lK.1 h4,ma.1 h];rfl
theorem GY{w:World}{F:Nat->Prop}(r:gw):GR w F r.gv [.string (bs r.jK),.int .i64 r.code,.bool r.eU,.string (bs r.body),.int .i64 r.bad]:=
 nN.2 (cd.2 ⟨[_],_,rfl,eQ.2 rfl,cd.2 ⟨[_],_,rfl,lK.2 rfl,cd.2 ⟨[_],_,rfl,sr.2 rfl,cd.2 ⟨[_],_,rfl,eQ.2 rfl,cd.2 ⟨[_],[],rfl,lK.2 rfl,ma.2 rfl⟩⟩⟩⟩⟩)
theorem Om{w:World}{base:Nat}{e:TypeId}{G:Nat->Prop}{A:Option Addr}{n c k:Nat}{l:List gw}{t:gw}(h:b8 w base e 5 G (.slice A n c) (l.map gw.gv))(hn:n=l.length)(hk:l[k]?=some t):
 ∃g,A=some ⟨g,0,none⟩/\n<=c/\c<=maxLen/\base<=g/\g<w.heap.size/\w.cell? ⟨g,k*5,none⟩=some (.string (bs t.jK))/\w.cell? ⟨g,k*5+1,none⟩=some (.int .i64 t.code)/\w.cell? ⟨g,k*5+2,none⟩=some (.bool t.eU)/\
  w.cell? ⟨g,k*5+3,none⟩=some (.string (bs t.body))/\w.cell? ⟨g,k*5+4,none⟩=some (.int .i64 t.bad)/\∀j,w.frozen? ⟨g,j,none⟩=false:=by
 subst hn;obtain⟨xs,hr,hg⟩:=h;rw[ah]at hr;have tW:=(List.getElem?_eq_some_iff.1 hk).1;have rB:=hr;rcases hr.2 with⟨_,h0⟩|⟨g,cap,S7,hv,hb,hh,hn,hm,_⟩
 ·omega
 ·injection hv with e1 e2 e3
  subst e1 e3;obtain⟨cs,h1,h2,h3⟩:=hg.at_ k (by simpa using tW);have e:(l.map gw.gv)[k]'(by simpa using tW)=t.gv:=by
   rw[List.getElem_map];rw[aB tW]at hk;rw[ar hk]
  rw[e]at h1;obtain rfl:=DF h1;have bW:=(rB.lt g rfl);refine⟨g,rfl,hn,hm,bW.1,bW.2,?_,?_,?_,?_,?_,fun j=>rB.frozenAt j⟩
  ·rw[rB.cellAt _ (by omega)];exact h3 0 (by omega)
  ·rw[rB.cellAt _ (by omega)];exact h3 1 (by omega)
  ·rw[rB.cellAt _ (by omega)];exact h3 2 (by omega)
  ·rw[rB.cellAt _ (by omega)];exact h3 3 (by omega)
  ·rw[rB.cellAt _ (by omega)];exact h3 4 (by omega)
def sO(W:World)(g o:Nat)(c0 c3:Value):World:=(W.setCell ⟨g,o,none⟩ c0).setCell ⟨g,o+3,none⟩ c3
theorem Lz{w:World}{base:Nat}{e:TypeId}{G:Nat->Prop}{g n c i:Nat}{l:List gw}{t:gw}(h:b8 w base e 5 G (.slice (some ⟨g,0,none⟩) n c) (l.map gw.gv))(hn:n=l.length)(hk:l[i]?=some t)(u b:Bt):
 b8 (sO w g (i*5) (.string (bs u)) (.string (bs b))) base e 5 G (.slice (some ⟨g,0,none⟩) n c) ((l.set i ⟨u,t.code,t.eU,b,t.bad⟩).map gw.gv)/\w.grownBy (sO w g (i*5) (.string (bs u)) (.string (bs b))) (some g):=by
 subst hn;have hi:=(List.getElem?_eq_some_iff.1 hk).1;obtain⟨xs,hr,hg⟩:=h;rw[ah]at hr;have e0:l.map gw.gv=(l.take i).map gw.gv++(t.gv::(l.drop (i+1)).map gw.gv):=by
  rw[<-List.map_cons,<-aK];congr 1;have:t=l[i]:=by rw[aB hi]at hk;exact(ar hk).symm
  rw[this,<-aE hi,bt]
 rw[e0]at hg;obtain⟨a,b',rfl,h1,h2⟩:=fW.split hg;obtain⟨cs,b2,rfl,h3,h4,h5⟩:=gF.1 h2;obtain rfl:=DF h4;have ha:a.length=i*5:=by rw[h1.length,ah,ay,Nat.min_eq_left (by omega)]
 obtain⟨r0,g0⟩:=hr.stored (i*5) (.string (bs u));obtain⟨r1,g1⟩:=r0.stored (i*5+3) (.string (bs b));have cO:w.grownBy (sO w g (i*5) (.string (bs u)) (.string (bs b))) (some g):=bU g0 g1;refine⟨⟨a++([.string (bs u),.int .i64 t.code,.bool t.eU,.string (bs b),.int .i64 t.bad]++b2),?_,?_⟩,cO⟩
 ·have e1:((a++([Value.string (bs t.jK),Value.int .i64 t.code,Value.bool t.eU,Value.string (bs t.body),Value.int .i64 t.bad]++b2)).set (i*5) (.string (bs u))).set (i*5+3) (.string (bs b))=a++([Value.string (bs u),Value.int .i64 t.code,Value.bool t.eU,Value.string (bs b),Value.int .i64 t.bad]++b2):=by
   rw[<-ha];simp
  rw[e1]at r1;rw[ah,List.length_set];exact r1
 ·have e2:(l.set i ⟨u,t.code,t.eU,b,t.bad⟩).map gw.gv=(l.take i).map gw.gv++(gw.gv ⟨u,t.code,t.eU,b,t.bad⟩::(l.drop (i+1)).map gw.gv):=by
   rw[List.set_eq_take_append_cons_drop,ae hi,aK,List.map_cons]
  rw[e2];have key:fW w (fun k=>G k/\some k≠some g) 5 ((l.take i).map gw.gv++(gw.gv ⟨u,t.code,t.eU,b,t.bad⟩::(l.drop (i+1)).map gw.gv)) (a++([.string (bs u),.int .i64 t.code,.bool t.eU,.string (bs b),.int .i64 t.bad]++b2)):=
   fW.append (gF.2 ⟨_,_,rfl,rfl,GY ⟨u,t.code,t.eU,b,t.bad⟩,h5⟩) h1
  exact fW.mono (fun _ h=>h) (fun k hk bW=>cO.block k bW hk.2) 5 _ _ key
theorem On{α:Type}(f:α->α)(l:List α)(k:Nat)(h:k<l.length):(l.take (k+1)).map f++l.drop (k+1)=((l.take k).map f++l.drop k).set k (f l[k]):=by
 have hl:((l.take k).map f).length=k:=by rw[ah,ay];omega
 have e:=aE h;rw[List.set_append_right _ _ (by omega),hl,Nat.sub_self,e,List.set_cons_zero,aC h,aK,aN];rfl
theorem Um{α:Type}(f:α->α)(l:List α)(k:Nat)(h:k<l.length):((l.take k).map f++l.drop k)[k]?=some l[k]:=by
 have hl:((l.take k).map f).length=k:=by rw[ah,ay];omega
 rw[List.getElem?_append_right (by omega),hl,Nat.sub_self];simp[h]
theorem GZ(s:Bt)(n tn:Nat)(h:tn=min s.length n):(bs s).extract 0 tn=bs (s.take n):=by
 rw[gW,bm];congr 1;rcases Nat.le_total s.length n with h1|h1
 ·rw[h,Nat.min_eq_left h1,aM,aO h1]
 ·rw[h,Nat.min_eq_right h1]
def uP(r:gw):gw:=⟨r.jK.take 500,r.code,r.eU,r.body.take 1500,r.bad⟩
def tt(l:List gw):List gw:=(l.take 12).map uP
def yU(F:Nat->Prop)(l:List gw)(w:World)(e:Ending)(w':World):Prop:=
 ∃A c,e=.returned (.slice A (tt l).length c)/\Hy (b8 w' w.heap.size 41 5 (fun g=>F g/\g<w.heap.size) (.slice A (tt l).length c) ((tt l).map gw.gv))/\Below w.heap.size w w'
theorem ak7:kJ prog 26 41 5 56:=by
 obtain⟨i0,hi,zR,rq,vF⟩:=info_parts (show(prog.info? 41).map (fun i=>(i.zero,i.size,i.bytes))=some (some (.agg #[.string (bs []),.int .i64 0,.bool false,.string (bs []),.int .i64 0]),5,56) by kernel_rfl);exact⟨i0,_,underlying26,hi,zR,rq,vF,rfl,by omega⟩
theorem Oo(l:List gw)(v:Value)(F:Nat->Prop)(w:World)(hv:GR w F (.row 5 (l.map gw.gv)) [v]):
 Calls prog 5 #[v] w (yU F l w):=by
 have hSP:∀(A:Option Addr) (c:Nat) (w':World),b8 w' w.heap.size 41 5 (fun g=>F g/\g<w.heap.size) (.slice A (tt l).length c) ((tt l).map gw.gv)->Below w.heap.size w w'->yU F l w (.returned (.slice A (tt l).length c)) w':=fun _ _ _ h1 h2=>⟨_,_,rfl,bD h1,h2⟩;have HSP:=bD hSP;clear hSP;generalize yU F l w=SP at*;obtain⟨A,c,rfl,tC⟩:=pC hv;have zQ:l.length<=c/\c<=maxLen:=⟨tC.1,tC.2.1⟩;obtain⟨zQ,mz⟩:=zQ;have hl:l.length<=maxLen:=au zQ mz;unfold maxLen at hl mz;have WV:=Kw (GR.du _ _ hv) (min l.length 12) (by rw[ah];omega);rw[<-List.map_take]at WV;have hm:l.take (min l.length 12)=l.take 12:=by
  rcases Nat.le_total l.length 12 with h|h
  ·rw[Nat.min_eq_left h,aM,aO h]
  ·rw[Nat.min_eq_right h]
 rw[hm]at WV;have YO:Hy (tt l=(l.take 12).map uP):=rfl;have IK:(l.take 12).length=min l.length 12:=by rw[ay,Nat.min_comm]
 obtain⟨M,hM⟩:∃M,M=l.take 12:=⟨_,rfl⟩;rw[<-hM]at WV YO IK;have Lf:=bD IK;have HGT:=bD WV;have HFL:Hy ((tt l).length=M.length):=by rw[Hy,YO.o,ah]
 generalize tt l=SF at*;clear hv hM hm WV IK tC;go_enter func5,ntmps5;go_upto_region 1 with(fail)
 go_cut [0]from 5 to 12 (fun v wx=>∃A1 c1,v=.slice A1 M.length c1/\Hy (b8 wx w.heap.size 41 5 (fun g=>F g/\g<w.heap.size) v (M.map gw.gv))/\Hy (Below w.heap.size w wx))
 case first=>
  have dG:Below w.heap.size w (w.alloc (.cells #[] 41)):=cU _ _;have bZ:b8 (w.alloc (.cells #[] 41)) w.heap.size 41 5 (fun g=>F g/\g<w.heap.size) (.slice (some ⟨w.heap.size,0,none⟩) 0 0) []:=
   ⟨[],World.ownsRow_lit w #[] 0 (dv _) (by simp[maxLen]) (by simp),jt.2 rfl⟩
  obtain⟨news,hA⟩:=tm.IE (bytes:=56) bZ HGT.o dG (fun k hk bW=>⟨hk,fun e=>by have e:k=w.heap.size:=ar e;omega⟩) (by rw[ah,Lf.o];simp;omega) (by omega) dG.size;simp only[aD,ah,Nat.zero_add]at hA;have hJ:=bD dG;rw[<-Lf.o]at hA;have Yn:min (l.length:Int) 12=(M.length:Int):=by have:=Lf.o;omega
  have tI:(0:Int)<=(M.length:Int):=by omega
  have M0:(M.length:Int)<=(c:Int):=by have:=Lf.o;omega
  have HA:=bD hA;clear hA dG bZ;go_wp2_with (at_builtin;go_loud (refine HA.o.plain rfl _ _ _ rfl ak7 rfl rfl ?_);intro A5 c5 w5 bZ cO fG;have HO:=bD bZ;have HG:=bD cO;clear bZ cO fG);go_meet
  case rel=>exact⟨A5,c5,rfl,by have h:=HO.o;rw[List.nil_append]at h;exact h,hJ.o.trans (bN HG.o hJ.o.size (fun k hk=>by have hk:w.heap.size=k:=ar hk;omega))⟩
 case rest=>
  obtain⟨A1,c1,rfl,SO,hJ⟩:=hcut;have hMl:M.length<=12:=by rw[Lf.o];omega
  clear HGT;go_wp2_with fail;go_loopw [14] (fun i wr=>∃k:Nat,k<=M.length/\i=.int .i64 k/\b8 wr w.heap.size 41 5 (fun g=>F g/\g<w.heap.size) (.slice A1 M.length c1) (((M.take k).map uP++M.drop k).map gw.gv)/\Hy (Below w.heap.size w wr))
   (fun i wr=>M.length-(intOf i).toNat)
  case atStart=>exact⟨0,ax _,rfl,by simpa using SO.o,hJ⟩
  case round=>
   obtain⟨k,hk,rfl,ho,HB⟩:=hrel;by_cases bW:k<M.length
   ·have hPl:((M.take k).map uP++M.drop k).length=M.length:=by rw[af,ah,ay,aj];omega
    have mJ:=On uP M k bW;have qy:=Um uP M k bW;obtain⟨g,rfl,aD6,av0,hgb,TE,t0,t1,t2,t3,t4,W4⟩:=Om ho hPl.symm qy;generalize M[k]=t at*;unfold maxLen at av0;have sk:=bD mJ;have WU:=bD qy;have HO:=bD ho;have Fi:=bD hPl;have HFZ:=bD W4;have nE:(0:Int)<=(k:Int):=by omega
    have fA:(k:Int)<(M.length:Int):=by omega
    clear mJ qy ho hPl W4 SO hJ;go_wp2_with fail;have cg:Below wr.heap.size wr (wr.alloc (.cells #[.string (bs t.jK),.int .i64 t.code,.bool t.eU,.string (bs t.body),.int .i64 t.bad] 41)):=cU _ _;have P2:=bL.new wr 41 #[.string (bs t.jK),.int .i64 t.code,.bool t.eU,.string (bs t.body),.int .i64 t.bad];obtain⟨w5,tF⟩:∃w5,w5=wr.alloc (.cells #[.string (bs t.jK),.int .i64 t.code,.bool t.eU,.string (bs t.body),.int .i64 t.bad] 41):=⟨_,rfl⟩;rw[<-tF]at cg P2|-;have x0:=P2.cell 0;have x3:=P2.cell 3;have hXg:wr.heap.size≠g:=by omega
    have kf:=bD (HB.o.trans (cg.mono HB.o.size));have KS:=bD (HO.o.below cg);have z0:w5.frozen? ⟨g,k*5,none⟩=false:=(cg.frozen (p:=⟨g,k*5,none⟩) TE).trans (HFZ.o _);have z3:w5.frozen? ⟨g,k*5+3,none⟩=false:=(cg.frozen (p:=⟨g,k*5+3,none⟩) TE).trans (HFZ.o _);have t0:w5.cell? ⟨g,k*5,none⟩=some (.string (bs t.jK)):=(cg.cell (p:=⟨g,k*5,none⟩) TE).trans t0;have t3:w5.cell? ⟨g,k*5+3,none⟩=some (.string (bs t.body)):=(cg.cell (p:=⟨g,k*5+3,none⟩) TE).trans t3;obtain⟨un,Zk⟩:∃un,un=min t.jK.length 500:=⟨_,rfl⟩;obtain⟨bn,tK⟩:∃bn,bn=min t.body.length 1500:=⟨_,rfl⟩;have yi:((bs t.jK).size:Int)=(t.jK.length:Int):=by rw[bJ]
    have wm:((bs t.body).size:Int)=(t.body.length:Int):=by rw[bJ]
    have hmu:min (t.jK.length:Int) 500=(un:Int):=by omega
    have CB:min (t.body.length:Int) 1500=(bn:Int):=by omega
    have hu0:(0:Int)<=(un:Int):=by omega
    have hu1:(un:Int)<=(t.jK.length:Int):=by omega
    have pq:(0:Int)<=(bn:Int):=by omega
    have dG:(bn:Int)<=(t.body.length:Int):=by omega
    have zG:=GZ t.jK 500 un Zk;have tp:=GZ t.body 1500 bn tK;have sl:=bD P2;have HXG:=bD hXg;have ZI:=bD tF;generalize wr.heap.size=X5 at*;clear cg P2 tF hXg Zk tK t1 t2 t4;have dh:w5.cell? ⟨X5,0,none⟩=some (.string (bs t.jK))/\w5.cell? ⟨X5,3,none⟩=some (.string (bs t.body)):=⟨sl.o.cell 0,sl.o.cell 3⟩;have sN:=bD dh;clear dh;refine aL (S:=(fun w'=>w'.cell? ⟨X5,0,none⟩=some (.string (bs t.jK))/\w'.cell? ⟨X5,3,none⟩=some (.string (bs t.body)))) (by kernel_rfl) ?_;change wpAnyH _ _ _ _ _ _ _ _ (World.drew _);refine jw 0 sN.o ?_;refine jw 1 sN.o ?_;refine jw 2 sN.o ?_;refine jw 3 sN.o ?_;refine jw 4 sN.o ?_;refine jw 5 sN.o ?_;refine jw 6 sN.o ?_;refine jw 7 sN.o ?_;refine jw 8 sN.o ?_;refine jw 9 sN.o ?_;refine jw 10 sN.o ?_;refine jw 11 sN.o ?_;refine jw 12 sN.o ?_;refine jw 13 sN.o ?_;refine jw 14 sN.o ?_;refine jw 15 sN.o ?_;refine jw 16 sN.o ?_;refine jw 17 sN.o ?_;refine jw 18 sN.o ?_;refine jw 19 sN.o ?_;refine fr 20 (fun K_ bP=>?_);go_simp;change K_ _ (w5.setCell ⟨g,k*5,none⟩ (.string (bs (t.jK.take 500)))).drew;refine bP.out _ _ (by have h:=sl.o.gf (p:=⟨g,k*5,none⟩) HXG.o (.string (bs (t.jK.take 500)));exact⟨h.cell 0,h.cell 3⟩) fun _=>?_;clear bP K_;have xY:Hy ((w5.setCell ⟨g,k*5,none⟩ (.string (bs (t.jK.take 500)))).drew.cell? ⟨X5,0,none⟩=some (.string (bs t.jK))/\(w5.setCell ⟨g,k*5,none⟩ (.string (bs (t.jK.take 500)))).drew.cell? ⟨X5,3,none⟩=some (.string (bs t.body))):=by
     have h:=sl.o.gf (p:=⟨g,k*5,none⟩) HXG.o (.string (bs (t.jK.take 500)));exact⟨h.cell 0,h.cell 3⟩
    refine jw 21 xY.o ?_;refine jw 22 xY.o ?_;refine fr 23 (fun K_ bP=>?_);go_simp;change K_ _ (sO w5 g (k*5) (.string (bs (t.jK.take 500))) (.string (bs (t.body.take 1500)))).drew;have hS7:(sO w5 g (k*5) (.string (bs (t.jK.take 500))) (.string (bs (t.body.take 1500)))).drew.cell? ⟨X5,0,none⟩=some (.string (bs t.jK))/\(sO w5 g (k*5) (.string (bs (t.jK.take 500))) (.string (bs (t.body.take 1500)))).drew.cell? ⟨X5,3,none⟩=some (.string (bs t.body)):=by
     have h:=(sl.o.gf (p:=⟨g,k*5,none⟩) HXG.o (.string (bs (t.jK.take 500)))).gf (p:=⟨g,k*5+3,none⟩) HXG.o (.string (bs (t.body.take 1500)));exact⟨h.cell 0,h.cell 3⟩
    have bZ:=Lz KS.o Fi.o.symm WU.o (t.jK.take 500) (t.body.take 1500);generalize sO w5 g (k*5) (.string (bs (t.jK.take 500))) (.string (bs (t.body.take 1500)))=w6 at*;refine bP.out _ _ hS7 fun _=>?_;clear bP K_ hS7 xY sN;refine aJ (by kernel_rfl) ?_ _;rw[show(⟨t.jK.take 500,t.code,t.eU,t.body.take 1500,t.bad⟩:gw)=uP t from rfl,<-sk.o]at bZ;have KI:=bD bZ;clear zG tp bZ;go_wp2_with fail;have mo:Below w.heap.size w w6:=kf.o.trans (bN KI.o.2 kf.o.size (fun j hj=>by have hj:g=j:=ar hj;omega));exact⟨⟨k+1,bW,by go_num,KI.o.1.below ((aF _ _).drew),mo.drew⟩,by simp[intOf];omega⟩
   ·have ln:k=M.length:=by omega
    subst ln;rw[aM,bu,List.append_nil,<-YO.o]at ho;have HOO:=bD ho;have aa3:=HFL;clear ho SO hJ;rw[Hy]at aa3;rw[<-aa3]at HOO;go_wp2_with fail
    show SP (.returned (.slice A1 M.length c1)) wr
    rw[<-aa3];exact HSP.o _ _ _ HOO.o HB.o
def Pu(s:Bt):Bool:=decide ((dC ⟨[],false⟩ s).2.2≠0)||(decide ((dC ⟨[],false⟩ s).1.rest≠[])||(dC ⟨[],false⟩ s).1.inside)
theorem Sy(s:Bt)(hs:s.length<=3000000)(w:World):Calls prog 7 #[.string (bs s)] w fun e w'=>e=.returned (.bool (Pu s))/\Below w.heap.size w w':=by
 have HC:=bD (BW (bs []) (bs s) false w (by rw[bJ,bJ];simp;omega));rw[eB,eB]at HC;have HV:Hy (Pu s=(decide ((dC ⟨[],false⟩ s).2.2≠0)||(decide ((dC ⟨[],false⟩ s).1.rest≠[])||(dC ⟨[],false⟩ s).1.inside))):=rfl;generalize Pu s=R at*;generalize dC ⟨[],false⟩ s=Z at*;obtain⟨x,o,er⟩:=Z;obtain⟨xr,xi⟩:=x;simp only at HV;go_enter func7,ntmps7;go_wp2_with fail;refine HC.o.mono ?_;rintro e w1 ⟨v,rfl,-,dG⟩;have hX:=bL.new w1 53 #[.string (bs xr),.bool xi];have cg:Below w1.heap.size w1 (w1.alloc (.cells #[.string (bs xr),.bool xi] 53)):=cU _ _;have HB:=bD (dG.trans (cg.mono dG.size));clear cg dG HC;go_upto_region 2 with(fail)
 change Code.wp _ _ _ _ (w1.alloc (.cells #[.string (bs xr),.bool xi] 53));generalize w1.alloc (.cells #[.string (bs xr),.bool xi] 53)=w2 at*;generalize w1.heap.size=X at*;have x0:=hX.cell 0;have x1:=hX.cell 1;simp at x0 x1;by_cases he:er=0
 ·subst he;by_cases hr:xr=[]
  ·obtain⟨e1,e2⟩:=fE hr;have eA:Hy (R=xi):=by rw[Hy,HV.o,hr];simp
   clear HV hr;go_wp2_with fail;go_ret;exact⟨by rw[eA.o]<;>rfl,HB.o⟩
  ·obtain⟨e1,e2⟩:=gT hr;have eA:Hy (R=true):=by rw[Hy,HV.o];simp[hr]
   clear HV hr;go_wp2_with fail;go_ret;exact⟨by rw[eA.o]<;>rfl,HB.o⟩
 ·have hb:(er !=0)=true:=by rw[aQ];exact he
  have eA:Hy (R=true):=by rw[Hy,HV.o];simp[he]
  clear HV he;go_wp2_with fail;go_ret;exact⟨by rw[eA.o]<;>rfl,HB.o⟩
theorem Sz{s:Bt}(h:Pu s=false):∃o,dC ⟨[],false⟩ s=(⟨[],false⟩,o,0):=by
 unfold Pu at h;generalize dC ⟨[],false⟩ s=z at*;obtain⟨⟨r,i⟩,o,e⟩:=z;simp only[Bool.or_eq_false_iff,decide_eq_false_iff_not,Classical.not_not]at h;obtain⟨h1,h2,h3⟩:=h;subst h1 h2 h3;exact⟨o,rfl⟩
theorem SD(D:lq)(base s t:Bt)(ho:Pu s=false)(h1:(cM s).2=0)(h2:(cM t).2=0)(h3:(cM (s++t)).2=0)(hi:Lib.contains (s++t) df=false)(he:∀r∈D.cN,r.eU=false)
 (hc:(dZ (cM s).1).length+(dZ (cM t).1).length<=20) (hs:s.length<=2000) (ht:t.length<=1000) (po:(iZ D base s true).2=0) (ha:(iZ D base s true).1.state=0)
 (hl:(iZ D base s true).1.out.length+(iZ D base t true).1.out.length<=10000):(iZ D base (s++t) true).1=(iZ D base t true).1.ia (iZ D base s true).1.out:=by
 obtain⟨o,hf⟩:=Sz ho;have hp:(fN base).2=0/\(fN base).1.mA=true:=by
  unfold iZ lB at po;split at po
  ·rename_i h;simp only[aG,aH]at h;exact⟨h.1,h.2.1⟩
  ·cases po
 have qp:∀b:Bt,b.length<=20000->iZ D base b true=(ku D base b,0):=fun b hb=>by
  unfold iZ lB;rw[ae (by simp[hp.1,hp.2,hb]),ae rfl]
 rw[qp s (by omega)]at ha hl|-;rw[qp t (by omega)]at hl|-;rw[qp (s++t) (by rw[af];omega)];exact Mm D base s t hf h1 h2 h3 (JO hi) he hc ht ha hl
end Go.Proofs.YtejafaaihodehaaGreatDoor
