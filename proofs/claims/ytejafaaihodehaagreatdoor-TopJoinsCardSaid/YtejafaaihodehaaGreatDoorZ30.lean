/- Part 30. -/
import Derived.Test.YtejafaaihodehaaGreatDoorZ23
import Derived.Shelf.Strings.BuilderK
set_option linter.all false
set_option maxRecDepth 100000
set_option maxHeartbeats 8000000
namespace Go.Proofs.YtejafaaihodehaaGreatDoor
open Go Go.RowKit Tryz
theorem P4:(prog.info? 165).map (·.size)=some 2:=by kernel_rfl
theorem Xc:liesAt prog prog.depth 165 (2/prog.cellsOf 165) 0 165 1=true:=by kernel_rfl
theorem Dv(b:Nat)(w:World)(h0:w.cell? ⟨b,0,none⟩=some (.pointer (some ⟨b,0,none⟩))):
 Calls prog 143 #[.pointer (some ⟨b,0,none⟩)] w fun e w'=>e=.returned (.tuple #[])/\w'=w:=by
 obtain⟨j,hj,_⟩:=Option.map_eq_some_iff.1 P4;have hq:∀W:World,(binOp .neq 163 (.pointer (some ⟨b,0,none⟩)) (.pointer (some ⟨b,0,none⟩))).run prog W=.ok (.bool false) W:=fun W=>Lib.run_neq_ptr_same W _ underlying163 hj;go_enter func143,ntmps143;go_wp2_with fail
 all_goals
  go_end0;exact⟨rfl,rfl⟩
theorem Ch(b:Nat)(w:World)(h0:w.cell? ⟨b,0,none⟩=some (.pointer none))(Jb:w.shape? b=some (165,2))(W4:w.frozen? ⟨b,0,none⟩=false):
 Calls prog 143 #[.pointer (some ⟨b,0,none⟩)] w fun e w'=>e=.returned (.tuple #[])/\w'=w.setCell ⟨b,0,none⟩ (.pointer (some ⟨b,0,none⟩)):=by
 obtain⟨j,hj,hjs⟩:=Option.map_eq_some_iff.1 P4;have uv:(convert 163 215 (.pointer (some ⟨b,0,none⟩))).run prog w=.ok (.pointer (some ⟨b,0,none⟩)) w:=Lib.run_to_unsafe w ⟨b,0,none⟩ underlying163 underlying215 hj (by rw[hjs];decide) Jb (Nat.zero_lt_succ 1);have nC:(convert 215 163 (.pointer (some ⟨b,0,none⟩))).run prog w=.ok (.pointer (some ⟨b,0,none⟩)) w:=Lib.run_from_unsafe w ⟨b,0,none⟩ underlying215 underlying163 hj Jb Xc;have hc3:(callFunc 167 #[.pointer (some ⟨b,0,none⟩)]).run prog w=.ok (.value (.pointer (some ⟨b,0,none⟩))) w:=by
  rw[run_callFunc_extern func167 (by kernel_rfl) (by kernel_rfl) (by kernel_rfl) (e:=Extern.AbiNoEscape.same) (by kernel_rfl),Lib.run_noEscape];rfl
 go_enter func143,ntmps143;go_wp2_with fail
 all_goals
  go_end0;exact⟨rfl,rfl⟩
def SW(B b:Nat)(l:Bt)(w:World):Prop:=Lib.IsBuilder 165 5 B b (Lib.byteCells l) w
theorem Uc:∃i,prog.info? 5=some i/\i.zero=some (.int .u8 0)/\i.size=1/\i.bytes=1:=by
 obtain⟨i0,hi,h0,h1,h2⟩:=info_parts (show(prog.info? 5).map (fun i=>(i.zero,i.size,i.bytes))=some (some (.int .u8 0),1,1) by kernel_rfl);exact⟨i0,hi,h0,h1,h2⟩
theorem Ci(B b:Nat)(l:Bt)(w:World)(h:SW B b l w):
 Calls prog 143 #[.pointer (some ⟨b,0,none⟩)] w fun e w'=>e=.returned (.tuple #[])/\(Lib.BuilderAt 165 5 B b (.pointer (some ⟨b,0,none⟩)) (Lib.byteCells l) w'/\Below B w w'):=by
 rcases h with h|h
 ·refine(Ch b w h.cell0 h.shape h.frozen0).mono ?_;rintro e w' ⟨rfl,rfl⟩;exact⟨rfl,h.used _,(aF B w).setCell (p:=⟨b,0,none⟩) h.1 _⟩
 ·refine(Dv b w h.cell0).mono ?_;rintro e w' ⟨rfl,rfl⟩;exact⟨rfl,h,aF B _⟩
theorem kS(B b:Nat)(l s:Bt)(w:World)(h:SW B b l w)(fH:l.length+s.length<=140737488355328)(Wc:B<=w.heap.size):
 Calls prog 108 #[.pointer (some ⟨b,0,none⟩),.string (bs s)] w fun e w'=>e=.returned (.tuple #[.int .i64 s.length,.nilIface])/\(SW B b (l++s) w'/\Below B w w'):=by
 obtain⟨i0,hi,zR,rq,vF⟩:=Uc;have hss:(bs s).size=s.length:=bJ s;have wv:(Lib.byteCells l).length=l.length:=Lib.byteCells_length l;go_enter func108,ntmps108;go_wp2_with fail;refine(Ci B b l w h).mono ?_;rintro e w1 ⟨rfl,h1,dG⟩;obtain⟨hB,v,Oe,bZ,db⟩:=h1;have c0:w1.cell? ⟨b,0,none⟩=some (.pointer (some ⟨b,0,none⟩)):=by rw[Lib.cell_of_heap Oe];rfl
 have c1:w1.cell? ⟨b,1,none⟩=some v:=by rw[Lib.cell_of_heap Oe];rfl
 go_wp2_with (at_builtin;refine Lib.wpList_append_own_string _ rfl _ _ 135 9 rfl B 5 i0 underlying135 underlying9 hi zR rq vF _ _ _ rfl bZ (bs s) rfl ?c3 ?c4 ?c5 ?_)
 case c3=>unfold maxLen;omega
 case c4=>omega
 case c5=>have:=dG.size;omega
 intro v' w2 KA Ud _;have bW:b<w1.heap.size:=by
  rcases Nat.lt_or_ge b w1.heap.size with h'|h'
  ·exact h'
  ·simp[Array.getElem?_eq_none h']at Oe
 have cu:w2.heap[b]?=some (.cells #[.pointer (some ⟨b,0,none⟩),v] 165 (0,0)):=by
  rw[Ud.block b bW (fun e=>db e.symm)];exact Oe
 have d0:w2.cell? ⟨b,0,none⟩=some (.pointer (some ⟨b,0,none⟩)):=by rw[Lib.cell_of_heap cu];rfl
 have d1:w2.cell? ⟨b,1,none⟩=some v:=by rw[Lib.cell_of_heap cu];rfl
 have f1:w2.frozen? ⟨b,1,none⟩=false:=Lib.frozen_of_heap cu 1;obtain⟨ao,n',cap,rfl⟩:∃ao n' cap,v'=.slice ao n' cap:=by
  rcases KA.2 with⟨hv,_⟩|⟨g,cap,S7,hv,_⟩
  ·exact⟨_,_,_,hv⟩
  ·exact⟨_,_,_,hv⟩
 have HO:=bD KA;have wB:=bD dG;have HG:=bD Ud;have tU:=bD bZ;have HH2:=bD cu;clear KA dG Ud bZ cu Oe;go_wp2_with fail;go_ret2;refine⟨?_,.inr ?_,?_⟩
 ·rfl
 ·have e:Lib.byteCells (l++s)=Lib.byteCells l++Lib.strCells (bs s):=by
   rw[Lib.strCells_eq]
   show Lib.byteCells (l++s)=Lib.byteCells l++Lib.byteCells (bs s).data.toList
   have e2:(bs s).data.toList=s:=rfl;rw[e2];simp[Lib.byteCells]
  rw[e];exact Lib.BuilderAt.put (T:=165) (e:=5) hB HH2.o (bs':=Lib.byteCells l++Lib.strCells (bs s)) (by rw[af,Lib.strCells_length,wv,hss];exact HO.o) (by decide)
 ·exact(wB.o.grown HG.o (by have:=wB.o.size;omega) (fun k hk=>(tU.o.lt k hk).1)).setCell (p:=⟨b,1,none⟩) hB _
theorem SW.new(w:World):SW w.heap.size w.heap.size [] (w.alloc (.cells #[.pointer none,.slice none 0 0] 165)):=
 .inl ⟨dv _,.slice none 0 0,heap_alloc_new w _,World.ownsRow_nil _ _ _ _,fun e=>by cases e⟩
theorem SW.below{B b:Nat}{l:Bt}{w w':World}(h:SW B b l w)(hb:Below w.heap.size w w'):SW B b l w':=by
 have key:∀p:Value,Lib.BuilderAt 165 5 B b p (Lib.byteCells l) w->Lib.BuilderAt 165 5 B b p (Lib.byteCells l) w':=by
  intro p h;have bW:=h.lt;obtain⟨hB,v,hk,ho,db⟩:=h;exact⟨hB,v,(hb.block b bW).trans hk,ho.kept (eR hb none) (by cases v.ownBlock<;>simp),db⟩
 rcases h with h|h
 ·exact .inl (key _ h)
 ·exact .inr (key _ h)
theorem Rc(v:cK)(s:Bt)(hs:s.length<=100000)(hi:Lib.index s [36,40]=-1)(w:World)(hg:eK w):
 Calls prog 70 #[v.val,.string (bs s)] w fun e w'=>e=.returned (.string (bs s))/\Below w.heap.size w w':=by
 have cg:Below w.heap.size w (w.alloc (.cells #[.string (bs v.e0),.string (bs v.e1),.string (bs v.e2),.string (bs v.e3),.string (bs v.e4),.string (bs v.e5)] 23)):=cU _ _;have Of:=SW.new (w.alloc (.cells #[.string (bs v.e0),.string (bs v.e1),.string (bs v.e2),.string (bs v.e3),.string (bs v.e4),.string (bs v.e5)] 23));have dG:=cg.alloc cg.size (.cells #[.pointer none,.slice none 0 0] 165);have mn:=hg.below dG;rw[size_alloc]at Of;have Jc:=bD Of;have HB:=bD dG;have HG:=bD mn;have lQ:=bJ s;have HI:=bD hi;clear cg Of dG mn hg hi;simp only[cK.val];go_enter func70,ntmps70;go_wp2_with fail;obtain⟨w1,jz⟩:∃w1,w1=(w.alloc (.cells #[.string (bs v.e0),.string (bs v.e1),.string (bs v.e2),.string (bs v.e3),.string (bs v.e4),.string (bs v.e5)] 23)).alloc (.cells #[.pointer none,.slice none 0 0] 165):=⟨_,rfl⟩;rw[<-jz]at Jc HB HG|-;clear jz;go_loopw [1] (fun sv wr=>sv=.string (bs s)/\wr=w1) (fun _ _=>0)
 case atStart=>exact⟨rfl,rfl⟩
 case round=>
  obtain⟨rfl,ZG⟩:=hrel;have ZG:=ZG.symm;subst ZG;by_cases h0:s=[]
  ·have e1:(bs s).toList=[]:=by rw[bQ];exact h0
   have e2:(bs s).toList.isEmpty=true:=by rw[e1];rfl
   have As:Hy (SW (w.heap.size+1) (w.heap.size+1) s w1):=by rw[Hy,h0];exact Jc.o
   clear h0 Jc;go_wp2_with fail;refine(Builder_String_any (w.heap.size+1) (w.heap.size+1) s w1 As.o (by have:=HB.o.size;have:=(As.o);rcases this with h|h<;>exact Nat.le_of_lt h.lt)).mono ?_;rintro e w5 ⟨rfl,tF⟩;have ZI:=bD (HB.o.trans (tF.mono (by omega)));clear tF;go_wp2_with fail;go_ret;exact⟨rfl,ZI.o⟩
  ·have e1:¬(bs s).toList=[]:=by rw[bQ];exact h0
   have e2:(bs s).toList.isEmpty=false:=by rw[bQ];cases s with|nil=>exact aX rfl h0|cons _ _=>rfl
   obtain⟨m,hm⟩:=HG.o.1;have YG:=bD (strings_Index (bs s) ⟨#[36,40]⟩ m w1 (by omega) hm);rw[ga,show(⟨#[36,40]⟩:ByteArray).data.toList=[36,40]from rfl,HI.o]at YG;have aD3:(bs s).extract 0 s.length=bs s:=by rw[qz,aM]
   have aD4:(bs s).extract s.length s.length=bs []:=by rw[gW,aM,bu]
   have bW:w.heap.size+1<=w1.heap.size:=by rcases Jc.o with h|h<;>exact Nat.le_of_lt h.lt
   have Fs:=bD bW;have n1:(bs ([]:Bt)).toList=[]:=by rw[bQ]
   have n2:(bs ([]:Bt)).toList.isEmpty=true:=by rw[n1];rfl
   clear h0 hm bW;go_wp2_with fail;refine YG.o.mono ?_;rintro e w2 ⟨rfl,oM⟩;have oM:=oM.symm;subst oM;go_wp2_with fail;refine(kS (w.heap.size+1) (w.heap.size+1) [] s w1 Jc.o (by simp;omega) Fs.o).mono ?_;rintro e w7 ⟨rfl,lH,Cx⟩;rw[List.nil_append]at lH;have Iw:=bD lH;have HW7:=bD (HB.o.trans (Cx.mono (by omega)));have Lo:Hy (w.heap.size+1<=w7.heap.size):=au Fs.o Cx.size;clear lH Cx;go_wp2_with fail;refine(Builder_String_any (w.heap.size+1) (w.heap.size+1) s w7 Iw.o Lo.o).mono ?_;rintro e w8 ⟨rfl,YH⟩;have HW8:=bD (HW7.o.trans (YH.mono (by omega)));clear YH;go_wp2_with fail;go_ret;exact⟨rfl,HW8.o⟩
def rL(c:UInt8):Bool:=(decide (65<=c.toNat)&&decide (c.toNat<=90))||c.toNat==95
def nc(bad:Bt)(c:UInt8):Bool:=decide (Lib.indexByte bad c<0)
theorem Up(p:UInt8->Bool):∀l:Bt,(l.takeWhile p).length<=l.length
 |[]=>by simp
 |c::l=>by
  rw[List.takeWhile_cons];split
  ·simp only[ak];have:=Up p l;omega
  ·simp
theorem YQ(p:UInt8->Bool):∀(l:Bt) (k:Nat),k<(l.takeWhile p).length->∃h:k<l.length,p (l[k]'h)=true
 |[],k,h=>by simp at h
 |c::l,0,h=>by
  refine⟨by simp,?_⟩;rw[List.takeWhile_cons]at h;split at h
  ·assumption
  ·simp at h
 |c::l,k+1,h=>by
  rw[List.takeWhile_cons]at h;split at h
  ·obtain⟨h1,h2⟩:=YQ p l k (by simpa using h);exact⟨by simp;omega,by simpa using h2⟩
  ·simp at h
theorem Uq(p:UInt8->Bool):∀(l:Bt) (h:(l.takeWhile p).length<l.length),p (l[(l.takeWhile p).length]'h)=false
 |[],h=>by simp at h
 |c::l,h=>by
  cases hc:p c with
  |true=>
   have e:(c::l).takeWhile p=c::l.takeWhile p:=by rw[List.takeWhile_cons,ae hc]
   simp only[e,ak,List.getElem_cons_succ];exact Uq p l _
  |false=>
   have e:(c::l).takeWhile p=[]:=by rw[List.takeWhile_cons,aa (by rw[hc];decide)]
   simp only[e,aD,List.getElem_cons_zero];exact hc
theorem LB(p:UInt8->Bool)(s:ByteArray):((L s).takeWhile p).length<=s.size/\(∀k (hk:k<s.size),k<((L s).takeWhile p).length->p (s[k]'hk)=true)/\(∀hk:((L s).takeWhile p).length<s.size,p (s[((L s).takeWhile p).length]'hk)=false):=by
 have mC:=cm s;refine⟨by rw[mC];exact Up p _,fun k hk hkN=>?_,fun hk=>?_⟩
 ·obtain⟨h1,h2⟩:=YQ p (L s) k hkN;rw[dP s k hk];exact h2
 ·rw[dP s _ hk];exact Uq p (L s) _
theorem FP(c:UInt8)(w:World):Calls prog 147 #[.int .u8 c.toNat] w fun e w'=>e=.returned (.bool (rL c))/\w=w':=by
 have HH:Hy (rL c=((decide (65<=c.toNat)&&decide (c.toNat<=90))||c.toNat==95)):=rfl;generalize rL c=H at*;generalize c.toNat=n at*;go_enter func147,ntmps147;go_wp2_with fail
 all_goals
  go_ret;refine⟨cH ?_,rfl⟩;rw[HH.o];clear HH;rw[bj];simp
  try omega
theorem Ot(bad:ByteArray)(c:UInt8)(g:Nat)(w:World)(hc:w.cell? ⟨g,0,none⟩=some (.string bad)):
 Calls prog 169 #[.int .u8 c.toNat,.pointer (some ⟨g,0,none⟩)] w fun e w'=>e=.returned (.bool (nc (L bad) c))/\w=w':=by
 have HC:=bD (strings_IndexByte bad (c.toNat:Int) w);have Cv:((c.toNat:Int)).toNat.toUInt8=c:=by simp
 rw[Cv]at HC;have HH:Hy (nc (L bad) c=decide (Lib.indexByte bad.data.toList c<0)):=rfl;generalize nc (L bad) c=H at*;generalize Lib.indexByte bad.data.toList c=z at*;generalize c.toNat=n at*;clear Cv;by_cases hz:z<0
 ·have HX:Hy (H=true):=by rw[Hy,HH.o,aS hz]
  go_enter func169,ntmps169;go_wp2_with fail;refine HC.o.mono ?_;rintro e w2 ⟨rfl,rfl⟩;go_wp2_with fail;go_ret;exact⟨cH HX.o.symm,rfl⟩
 ·have HX:Hy (H=false):=by rw[Hy,HH.o,aT hz]
  go_enter func169,ntmps169;go_wp2_with fail;refine HC.o.mono ?_;rintro e w2 ⟨rfl,rfl⟩;go_wp2_with fail;go_ret;exact⟨cH (by rw[HX.o];simp;omega),rfl⟩
theorem tu(s:ByteArray)(hs:s.size<=1000000)(w:World):Calls prog 146 #[.string s,.func (.func 147) #[] #[]] w fun e w'=>e=.returned (.int .i64 ((L s).takeWhile (rL)).length)/\w=w':=by
 obtain⟨hNl,hT,hE⟩:=LB (rL) s;have HT:=bD hT;have HE:=bD hE;clear hT hE;generalize((L s).takeWhile (rL)).length=N at*;go_enter func146,ntmps146;go_wp2_with fail;go_loopw [5] (fun i wr=>∃k:Nat,k<=N/\i=.int .i64 k/\w=wr) (fun i wr=>N-(intOf i).toNat)
 case atStart=>exact⟨0,ax _,rfl,rfl⟩
 case round=>
  obtain⟨k,hk,rfl,hwr⟩:=hrel;subst hwr;have h0:(0:Int)<=(k:Int):=by omega
  by_cases bW:k<s.size
  ·have h1:(k:Int)<(s.size:Int):=by omega
   have HC:=bD (FP (s[k]'bW) w);by_cases hkN:k<N
   ·rw[HT.o k bW hkN]at HC;go_wp2_with fail;refine HC.o.mono ?_;rintro e w2 ⟨rfl,rfl⟩;go_wp2_with fail;exact⟨⟨k+1,hkN,by go_num,trivial⟩,by simp[intOf];omega⟩
   ·obtain rfl:k=N:=by omega
    rw[HE.o bW]at HC;go_wp2_with fail;refine HC.o.mono ?_;rintro e w2 ⟨rfl,rfl⟩;go_wp2_with fail;go_ret;exact⟨rfl,rfl⟩
  ·have h1:¬(k:Int)<(s.size:Int):=by omega
   obtain rfl:k=N:=by omega
   go_wp2_with fail;go_ret;exact⟨rfl,rfl⟩
theorem sQ(s:ByteArray)(hs:s.size<=1000000)(bad:ByteArray)(g:Nat)(w:World)(hc:w.cell? ⟨g,0,none⟩=some (.string bad)):Calls prog 146 #[.string s,.func (.func 169) #[] #[.pointer (some ⟨g,0,none⟩)]] w fun e w'=>e=.returned (.int .i64 ((L s).takeWhile (nc (L bad))).length)/\w=w':=by
 obtain⟨hNl,hT,hE⟩:=LB (nc (L bad)) s;have HT:=bD hT;have HE:=bD hE;clear hT hE;generalize((L s).takeWhile (nc (L bad))).length=N at*;go_enter func146,ntmps146;go_wp2_with fail;go_loopw [5] (fun i wr=>∃k:Nat,k<=N/\i=.int .i64 k/\w=wr) (fun i wr=>N-(intOf i).toNat)
 case atStart=>exact⟨0,ax _,rfl,rfl⟩
 case round=>
  obtain⟨k,hk,rfl,hwr⟩:=hrel;subst hwr;have h0:(0:Int)<=(k:Int):=by omega
  by_cases bW:k<s.size
  ·have h1:(k:Int)<(s.size:Int):=by omega
   have HC:=bD (Ot bad (s[k]'bW) g w hc);by_cases hkN:k<N
   ·rw[HT.o k bW hkN]at HC;go_wp2_with fail;refine HC.o.mono ?_;rintro e w2 ⟨rfl,rfl⟩;go_wp2_with fail;exact⟨⟨k+1,hkN,by go_num,trivial⟩,by simp[intOf];omega⟩
   ·obtain rfl:k=N:=by omega
    rw[HE.o bW]at HC;go_wp2_with fail;refine HC.o.mono ?_;rintro e w2 ⟨rfl,rfl⟩;go_wp2_with fail;go_ret;exact⟨rfl,rfl⟩
  ·have h1:¬(k:Int)<(s.size:Int):=by omega
   obtain rfl:k=N:=by omega
   go_wp2_with fail;go_ret;exact⟨rfl,rfl⟩
end Go.Proofs.YtejafaaihodehaaGreatDoor
