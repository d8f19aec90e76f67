/- The row of DeltaBack, proved: the law of reach/reachlaw16 says true of every two configurations that it reads, and what it read reads as it did; in worlds in which the package variables of the card stand as the program's text lays them. -/
import Derived.Test.YtgfgoaeaicefcaaGreatDoorQE3
import Derived.Test.YtgfgoaeaicefcaaGreatDoorRows
import Derived.PinnedBridge
import Derived.Shelf.Vars
import Derived.HandedShaped
import Derived.LaidOnce
import Derived.SevenTiedAt
import Derived.Test.YtgfgoaeaicefcaaGreatDoorCards
import Derived.LaidMore
import Derived.Lay
import Derived.Test.YtgfgoaeaicefcaaGreatDoorQT
import Derived.Test.YtgfgoaeaicefcaaGreatDoorQV
import Derived.Test.YtgfgoaeaicefcaaGreatDoorQW
import Derived.Test.YtgfgoaeaicefcaaGreatDoorQX
import Derived.Test.YtgfgoaeaicefcaaGreatDoorQY
set_option maxHeartbeats 16000000
set_option maxRecDepth 100000
set_option linter.all false
namespace Go.Proofs.YtgfgoaeaicefcaaGreatDoor
open Go.Lib Go.RowKit
variable {cs:List Value}{n jm jl:Nat}{t e:TypeId}{v a b c:Value}{held:Bool}
section
variable {P:Program} {w:Wq}
theorem uN {H:Type}{enc:TypeId×Value->H}{x:Nat->Bool}{bs:List (List UInt8)}{p:List MemPlace}(ht:P.underlying t=some (.array n e))(r:P.underlying e=some .string)(o:P.cellsOf e=1)(q:P.cellsOf t=n)(h:DataW.trod enc P w jl x held jm t cs=some (.agg (bs.map λb=>.lit (.string b)),p)):cs=bs.map λb=>Value.string ⟨b.toArray⟩:=by
 obtain⟨xs,m,_,l,u,z,y⟩:=DataW.trod_array ht h;have f:(xs.map (·.1))=bs.map λb=>(.lit (.string b):DataW H):=(DataW.agg.inj (Prod.mk.inj l).1).symm;have A:bs.length=n:=by have:=congrArg List.length f;simp at this;omega
 rw[q]at u;refine j9 λi=>?_;by_cases hi:i<n
 .have g:=y i hi;rw[o,gr,aF (by omega)]at g;obtain⟨s,j,k,_⟩:=DataW.trod_string r g;have d:(xs.map (·.1))[i]?=(bs.map λb=>(.lit (.string b):DataW H))[i]?:=by rw[f]
  rw[aq,aq,aF (by omega:i<xs.length),aF (by omega:i<bs.length),k]at d;simp only[jk,j8,DataW.lit.injEq,Lit.string.injEq]at d;have h0:((cs.drop i).take 1)[0]?=some (.string s):=by rw[j];rfl
  simp at h0;rw[h0,aq,aF (by omega:i<bs.length),<-d];rfl
 .rw[dL (by omega),dL (by simp;omega)]
theorem zI {H:Type}{enc:TypeId×Value->H}{g:Nat->Bool}{ms:Array (String×TypeId)}{x:DataW H×List MemPlace}(ht:P.underlying t=some (.interface ms))(h:DataW.trod enc P w jl g held jm t cs=some x):∃d,cs=[d]/\(d=.nilIface\/∃i f,d=.iface i f):=by cases jm with|zero=>simp[DataW.trod]at h|succ m=>unfold DataW.trod at h;rw[ht]at h;split at h<;>simp_all
theorem CC {n:String}{g:Nat}{cs:Array Value}(f:P.globalNamed n=some g)(h:w.var? P n=some cs):∃t d,w.heap[g]?=some (.cells cs t d):=by
 unfold World.var? at h;rw[f]at h;simp only[Option.bind_some]at h;split at h
 .rename_i c t d i;exact⟨t,d,by rw[i,dV h]⟩
 .cases h
theorem yb {H:Type}{enc:TypeId×Value->H}{L:Nat->Bool}{k:Nat}{fs:Array Field}{bs:List (List Bool)}{p:List MemPlace}(ht:P.underlying t=some (.array n e))(K:P.underlying e=some (.struct fs))(R:fs.size=k)(hf:∀(j:Nat)(f:Field),fs[j]?=some f->f.offset=j/\P.cellsOf f.type=1/\P.underlying f.type=some .bool)(J:P.cellsOf e=k)(O:P.cellsOf t=n*k)(I:∀r∈bs,r.length=k)(h:DataW.trod enc P w jl L held jm t cs=some (.agg (bs.map λr=>.agg (r.map λb=>.lit (.bool b))),p)):∀(i j:Nat)(r:List Bool)(b:Bool),bs[i]?=some r->r[j]?=some b->cs[i*k+j]?=some (.bool b):=by
 obtain⟨xs,m,_,C,S,T,M⟩:=DataW.trod_array ht h;have o:(xs.map (·.1))=bs.map λr=>(.agg (r.map λb=>.lit (.bool b)):DataW H):=(DataW.agg.inj (Prod.mk.inj C).1).symm;have X:bs.length=n:=by have:=congrArg List.length o;simp at this;omega
 intro i j r b hr z;have hi:i<n:=by have:=(List.getElem?_eq_some_iff.1 hr).1;omega
 have x:=M i hi;rw[J,aF (by omega)]at x;obtain⟨d,V,_,D,W,U,N⟩:=IM K x;have q:(xs.map (·.1))[i]?=some (.agg (r.map λb=>.lit (.bool b))):=by rw[o,aq,hr];rfl
 rw[aq,aF (by omega:i<xs.length)]at q;have s:(xs[i]'(by omega)).1=.agg (r.map λb=>.lit (.bool b)):=by injection q
 rw[D]at s;have A:d.map (·.1)=r.map λb=>(.lit (.bool b):DataW H):=DataW.agg.inj s;have Q:j<k:=by have:=(List.getElem?_eq_some_iff.1 z).1;have:=I r (aE hr);omega
 obtain⟨E,F,G⟩:=hf j fs[j] (lR (by omega));have y:=N j fs[j] (lR (by omega));rw[E,F,aF (by omega:j<d.length)]at y;obtain⟨l,h1,h2⟩:=DataW.trod_bool G y;have u:(d.map (·.1))[j]?=some (.lit (.bool b)):=by rw[A,aq,z];rfl
 rw[aq,aF (by omega:j<d.length)]at u;have g:(d[j]'(by omega)).1=.lit (.bool b):=by injection u
 rw[h2]at g;have B:l=b:=by injection g with g;injection g
 subst B;have h0:((((cs.drop (i*k)).take k).drop j).take 1)[0]?=some (.bool l):=by rw[h1];rfl
 rw[N6 (by omega),fZ,N6 (by omega),fZ]at h0;simpa using h0
end
theorem LY:U8Extra Tryz.prog Tryz.lays260_ren where
 n3:=by kernel_rfl
 n4:=by kernel_rfl
 y3:=by kernel_rfl
 y4:=by kernel_rfl
 c5:=by kernel_rfl
 c119:=by kernel_rfl
 c138:=by kernel_rfl
theorem EB:WhiteExtra Tryz.prog Tryz.lays199_ren where
 n6:=by kernel_rfl
 y6:=by kernel_rfl
 c3:=by kernel_rfl
 c49:=by kernel_rfl
 c193:=by kernel_rfl
 c194:=by kernel_rfl
 c196:=by kernel_rfl
 c198:=by kernel_rfl
def Id:List (List Bool):=[[false,false,false,false],[true,false,false,false],[true,false,true,false],[true,true,false,false],[false,false,false,true]]
theorem Ix {W:Wq}{n:String}{g m:Nat}{k:IntKind}{d:List Int}(r:VarReads Tryz.prog W n (tabData k d))(j:Tryz.prog.globalNamed n=some g)(l:(Tryz.prog.globals[g]?).map (·.type)=some t)(h1:Tryz.prog.underlying t=some (.array m e))(h2:Tryz.prog.underlying e=some (.int k))(h3:Tryz.prog.cellsOf e=1)(f:Tryz.prog.cellsOf t=m):TabIs Tryz.prog W n k d:=by obtain⟨s,u,cs,jm,p,i,ht,o,h⟩:=r;obtain rfl:=dV (j.symm.t i);obtain rfl:=dV (l.symm.t ht);have q:=cells_of_tab h1 h2 h3 f h;unfold TabIs;rw[o,<-q]
theorem KR {W:Wq}(i:laidMetH Tryz.prog Rows.deltaBackRow.laid W)(E:W.ShapedOpen Tryz.prog):gu W:=by
 rw[MakeChecks.laidMetH_plain _ _ _ (by kernel_rfl)]at i;have F:VarReads Tryz.prog W "unicode/utf8.first" firstData:=by rw[<-Pinned.utf8First_eq];exact laidMet.reads i (by simp[Rows.deltaBackRow,Rows.laid_unicode_utf8_first])
 have G:VarReads Tryz.prog W "unicode/utf8.acceptRanges" acceptData:=by rw[show acceptData=Rows.laid_unicode_utf8_acceptRanges from by kernel_rfl];exact laidMet.reads i (by simp[Rows.deltaBackRow])
 have I:VarReads Tryz.prog W "unicode.White_Space" whiteData:=by rw[show whiteData=Rows.laid_unicode_White_Space from by kernel_rfl];exact laidMet.reads i (by simp[Rows.deltaBackRow])
 have J:VarReads Tryz.prog W "strings.asciiSpace" (tabData .u8 asciiSpaceTab):=by rw[show tabData .u8 asciiSpaceTab=Rows.laid_strings_asciiSpace from by kernel_rfl];exact laidMet.reads i (by simp[Rows.deltaBackRow])
 have L:VarReads Tryz.prog W "internal/strconv.uint64pow10" (tabData .u64 pow10Tab):=by rw[show tabData .u64 pow10Tab=Rows.laid_internal_strconv_uint64pow10 from by kernel_rfl];exact laidMet.reads i (by simp[Rows.deltaBackRow])
 have rs:VarReads Tryz.prog W "reach/scan.signs" Rows.laid_reach_scan_signs:=laidMet.reads i (by simp[Rows.deltaBackRow]);have M:VarReads Tryz.prog W "reach/field.used" Rows.laid_reach_field_used:=laidMet.reads i (by simp[Rows.deltaBackRow]);have K:VarReads Tryz.prog W "strconv.ErrSyntax" Rows.laid_strconv_ErrSyntax:=laidMet.reads i (by simp[Rows.deltaBackRow]);refine⟨?_,?_,utf8Tabs_of_reads Tryz.lays260 LY F G,?_,?_,Ix L (g:=3) (t:=335) (e:=275) (by kernel_rfl) (by kernel_rfl) Tryz.underlying335 Tryz.underlying275 (by kernel_rfl) (by kernel_rfl),Ix J (g:=0) (t:=188) (e:=5) (by kernel_rfl) (by kernel_rfl) Tryz.underlying188 Tryz.underlying5 (by kernel_rfl) (by kernel_rfl),whiteTab_of_reads Tryz.lays199 EB I⟩
 .exact cell_of_shapedOpen_int (t:=3) (zero:=#[I6 0]) E (by decide+kernel) (by kernel_rfl) rfl (by kernel_rfl) (by kernel_rfl) Tryz.underlying3
 .obtain⟨g,t,cs,jm,p,l,ht,s,o⟩:=K;obtain rfl:=dV ((show Tryz.prog.globalNamed "strconv.ErrSyntax" =some 10 by kernel_rfl).symm.t l);obtain rfl:=dV ((show(Tryz.prog.globals[10]?).map (·.type)=some 223 by kernel_rfl).symm.t ht);obtain⟨A,C,D⟩:=zI Tryz.underlying223 o;refine⟨A,?_,D⟩;rw[World.var?_cell l s 0,<-Array.getElem?_toList,C];rfl
 .obtain⟨g,t,cs,jm,p,l,ht,s,o⟩:=rs;obtain rfl:=dV ((show Tryz.prog.globalNamed "reach/scan.signs" =some 2 by kernel_rfl).symm.t l);obtain rfl:=dV ((show(Tryz.prog.globals[2]?).map (·.type)=some 252 by kernel_rfl).symm.t ht);have y:=uN (bs:=gx.map λb=>b.data.toList) Tryz.underlying252 Tryz.underlying9 (by kernel_rfl) (by kernel_rfl) (p:=p) (by rw[o];rfl);obtain⟨ty,u,x⟩:=CC l s;refine⟨ty,u,x.t ?_⟩;have:cs=Ax:=by apply Array.toList_inj.1;rw[y];rfl
  rw[this]
 .obtain⟨g,t,cs,jm,p,l,ht,s,o⟩:=M;obtain rfl:=dV ((show Tryz.prog.globalNamed "reach/field.used" =some 7 by kernel_rfl).symm.t l);obtain rfl:=dV ((show(Tryz.prog.globals[7]?).map (·.type)=some 356 by kernel_rfl).symm.t ht);have y:=yb (bs:=Id) (k:=4) (p:=p) Tryz.underlying356 Tryz.underlying355 rfl (λj f d=>by match j,d with|0,d=>injection d with d;subst d;exact⟨rfl,by kernel_rfl,Tryz.underlying4⟩|1,d=>injection d with d;subst d;exact⟨rfl,by kernel_rfl,Tryz.underlying4⟩|2,d=>injection d with d;subst d;exact⟨rfl,by kernel_rfl,Tryz.underlying4⟩|3,d=>injection d with d;subst d;exact⟨rfl,by kernel_rfl,Tryz.underlying4⟩|j+4,d=>simp at d) (by kernel_rfl) (by kernel_rfl) (by decide) (by rw[o];rfl);have z:cs.toList.length=20:=by obtain⟨xs,m,_,_,z,_⟩:=DataW.trod_array Tryz.underlying356 o;exact z.t (by kernel_rfl)
  obtain⟨ty,u,x⟩:=CC l s;refine⟨ty,u,x.t ?_⟩;have:cs=FV:=by
   apply Array.toList_inj.1;apply j9;intro q;by_cases hq:q<20
   .have hr:∃r b,Id[q/4]?=some r/\r[q%4]?=some b/\FV.toList[q]?=some (.bool b):=by
     have B:∀q:Fin 20,(Id[q.val/4]?).bind (λr=>r[q.val%4]?)=rR[q.val]?:=by decide
     have h:=B ⟨q,hq⟩;have h3:rR[q]?=some (rR[q]'hq):=aF hq;rw[h3,Option.bind_eq_some_iff]at h;obtain⟨r,h1,h2⟩:=h;refine⟨r,_,h1,h2,?_⟩;show(rR.map Value.bool)[q]?=_;rw[aq,h3];rfl
    obtain⟨r,b,h1,h2,h3⟩:=hr;have:=y (q/4) (q%4) r b h1 h2;rw[show q/4*4+q%4=q by omega]at this;rw[this,h3]
   .rw[dL (by omega),dL (by show 20<=q;omega)]
  rw[this]
end Go.Proofs.YtgfgoaeaicefcaaGreatDoor
namespace Go.Proofs.YtgfgoaeaicefcaaGreatDoor
open Go.Joins Go.ChangeShapes Go.WideShapes Go.RowKit Go.Deep
variable {cs:List Value}{n jm jl:Nat}{t e:TypeId}{v a b c:Value}{held:Bool}
theorem zo {α:Type}{Q:Nat->α->Prop}:∀(n:Nat),(∀i,i<n->∃y,Q i y)->∃l:List α,l.length=n/\∀i y,l[i]?=some y->Q i y
 |0,_=>⟨[],rfl,λi y h=>by simp at h⟩|n+1,h=>by
  obtain⟨l,f,g⟩:=zo n λi hi=>h i (by omega);obtain⟨y,j⟩:=h n (by omega);refine⟨l++[y],by simp[f],λi z d=>?_⟩;by_cases hi:i<n
  .exact g i z (by rwa[ee (by omega)]at d)
  .rw[dy (by omega)]at d;have k:i-l.length=0:=by have:=(List.getElem?_eq_some_iff.1 d).1;simp at this;omega
   have m:i=n:=by have:=(List.getElem?_eq_some_iff.1 d).1;simp at this;omega
   rw[k]at d;simp at d;subst d m;exact j
theorem rf (size:Nat):∀(cs:List (List Value)),(∀c∈cs,c.length=size)->∀(j:Nat)(u:Value),cs.flatten[j]?=some u->∃i r c,j=i*size+r/\r<size/\cs[i]?=some c/\c[r]?=some u
 |[],_,j,u,h=>by simp at h|d::cs,hs,j,u,h=>by
  have k:d.length=size:=hs d (by simp);rw[dh]at h;by_cases hj:j<d.length
  .rw[ee hj]at h;exact⟨0,j,d,by simp,by omega,rfl,h⟩
  .rw[dy (by omega)]at h;obtain⟨i,r,c,h1,h2,h3,f⟩:=rf size cs (λc g=>hs c (by simp[g])) _ u h;exact⟨i+1,r,c,by rw[Dq];omega,h2,by simpa using h3,f⟩
section
variable {H:Type} {enc:TypeId×Value→H} {P:Program} {w:Wq} {jl:Nat} {spare:Nat→Bool} {held:Bool}
theorem pd {k:Nat}:∀{l:List (DataW H)}{d:DataW H},d∈l->k∈d.weights P e->k∈DataW.weightsAll P e l
 |[],_,h,_=>by simp at h|d0::l,d,h,hk=>by
  simp only[DataW.weightsAll,jn];rcases List.mem_cons.1 h with rfl|h
  .exact Or.inl hk
  .exact Or.inr (pd h hk)
theorem gd {α:Type}{size:Nat}{R:Wq->Nat->List Value->α->Prop}{Pr:α->Prop}{x:DataW H×List MemPlace}(ht:P.underlying t=some (.slice e))(hC:P.cellsOf e=size)(M:0<size)(Y:0<P.bytesOf e)(h:DataW.trod enc P w jl spare held jm t cs=some x)(L:∀k∈x.1.weights P t,k<=reachBytes)(el:∀(B:List Value)(y:DataW H×List MemPlace)(n:Nat),DataW.trod enc P w jl spare held n e B=some y->(∀k∈y.1.weights P e,k<=reachBytes)->B.length=size->∃a:α,R w w.heap.size B a/\Pr a):∃(v:Value)(l:List α),cs=[v]/\aX size R w w.heap.size v l/\l.length*P.bytesOf e<=reachBytes/\∀a∈l,Pr a:=by
 rcases open_slice ht h with⟨rfl,rfl⟩|⟨a,len,cap,m,n,D,V,rfl,hb,hl,hm,zm,rfl,hi⟩
 .refine⟨_,[],rfl,⟨[],rfl,by simp,⟨none,0,rfl,al _,⟨by omega,by simp⟩,by simp,λh=>absurd h (by simp)⟩,λi c x h=>by simp at h⟩,by simp,by simp⟩
 .have hlm:len<=m:=by rw[zm];split<;>omega
  have q9:len*P.bytesOf e<=reachBytes:=by have:=L (((List.range len).map D).length*P.bytesOf e+(((List.range (m-len)).map λj=>D (len+j)).length)*P.bytesOf e) (by simp[DataW.weights,ht,jU]);simp at this;omega
  have ql:len<=140737488355328:=by have h1:len*1<=len*P.bytesOf e:=pW _ Y;have h2:reachBytes=140737488351232:=rfl;omega
  obtain⟨q,I,p⟩:=zo (α:=List Value×α) (Q:=λi y=>y.1.length=size/\(∀j,j<size->w.cell? ((a.add (i*size)).add j)=y.1[j]?)/\R w w.heap.size y.1 y.2/\Pr y.2) len λi vy=>by obtain⟨B,g,v9⟩:=hi i (by omega);rw[hC]at g;obtain⟨_,N,zb⟩:=World.cells?_some g;obtain⟨x,zf,vm⟩:=el B (D i,V i) n v9 (λk hk=>L k (by simp only[DataW.weights,ht,dN,jn];exact Or.inr (Or.inl (pd (d:=D i) (by simp;exact⟨i,vy,rfl⟩) hk)))) N;exact⟨(B,x),N,zb,zf,vm⟩
  have K:∀y∈q,∃i,q[i]?=some y:=λy o=>List.mem_iff_getElem?.1 o;have S:∀c∈q.map (·.1),c.length=size:=by intro c g;obtain⟨y,o,rfl⟩:=List.mem_map.1 g;obtain⟨i,E⟩:=K y o;exact(p i y E).1
  refine⟨_,q.map (·.2),rfl,⟨q.map (·.1),by simp,S,?_,?_⟩,by simpa[I]using q9,?_⟩
  .refine⟨some a,cap,by simp[I],by simpa[I]using hl,by simpa[I]using⟨hm,ql⟩,?_,λO=>?_⟩
   .rw[List.length_flatten,eh];have:∀l:List (List Value×α),(∀y∈l,y.1.length=size)->(l.map (List.length∘(·.1))).sum=l.length*size:=by intro l;induction l with|nil=>simp|cons y l ih=>intro G;have h1:=ih λz hz=>G z (by simp[hz]);have h2:=G y (by simp);simp only[bP,List.sum_cons,aD,Function.comp,Dq]at h1⊢;rw[h1,h2];omega
    rw[this q λy o=>by obtain⟨i,E⟩:=K y o;exact(p i y E).1];simp
   .simp only[aa]at O;obtain⟨F,U⟩:∃F,q[0]?=some F:=⟨_,aF O⟩;obtain⟨b,off,C⟩:=a;have f:=(p 0 F U).2.1 0 M;have X:∃u,F.1[0]?=some u:=⟨_,aF (by rw[(p 0 F U).1];exact M)⟩;obtain⟨u0,zk⟩:=X;rw[zk]at f;have f:w.cell? ⟨b,off,C⟩=some u0:=by
     have W:((⟨b,off,C⟩:Addr).add (0*size)).add 0=⟨b,off,C⟩:=by simp[Addr.add]
     rw[W]at f;exact f
    have qw:C=none:=by
     unfold World.cell? at f;split at f
     .cases C with|none=>rfl|some s=>simp at f
     .cases f
    have q2:b<w.heap.size:=by
     unfold World.cell? at f;split at f
     .rename_i G;exact(Array.getElem?_eq_some_iff.1 G).1
     .cases f
    subst qw;refine⟨b,off,rfl,q2,λj u Z=>?_⟩;obtain⟨i,r,c,rfl,hr,T,vo⟩:=rf size _ S j u Z;rw[aq]at T;obtain⟨y,J,rfl⟩:=Option.map_eq_some_iff.1 T;have:=(p i y J).2.1 r hr;rw[vo]at this;rw[show(((⟨b,off,none⟩:Addr).add (i*size)).add r)=⟨b,off+i*size+r,none⟩by simp only[Addr.add];split<;>split<;>simp_all]at this;rw[<-eM];exact this
  .intro i c x g A;rw[aq]at g A;obtain⟨y,J,rfl⟩:=Option.map_eq_some_iff.1 g;rw[J]at A;simp at A;subst A;exact(p i y J).2.2.1
  .intro x A;obtain⟨y,o,rfl⟩:=List.mem_map.1 A;obtain⟨i,E⟩:=K y o;exact(p i y E).2.2.2
theorem gZ {fs:Array Field}(l:P.underlying e=some (.struct fs))(q:oneCellFields P fs=true){y:DataW H×List MemPlace}(h:DataW.trod enc P w jl spare held n e cs=some y)(r:∀k∈y.1.weights P e,k<=reachBytes)(B:cs.length=fs.size):∀(j:Nat)(f:Field),fs[j]?=some f->∃(v:Value)(m:Nat)(z:DataW H×List MemPlace),cs[j]?=some v/\DataW.trod enc P w jl spare held m f.type [v]=some z/\∀k∈z.1.weights P f.type,k<=reachBytes:=by
 obtain⟨i,u,_,s,_,C,hf⟩:=IM l h;intro j f d;obtain⟨p,g⟩:=hone_of q j f d;have A:j<fs.size:=(Array.getElem?_eq_some_iff.1 d).1;have h1:=hf j f d;rw[p,g]at h1;have x:(cs.drop j).take 1=[cs[j]'(by omega)]:=by rw[Nf (by omega)];rfl
 rw[x]at h1;have o:i[j]?=some (i[j]'(by omega)):=aF (by omega);refine⟨_,u,_,aF (by omega),h1.t o,λk g=>r k ?_⟩;rw[show y.1=.agg (i.map (·.1))from by rw[s]];simp only[DataW.weights,l];exact nx (j:=j) (t:=f.type) (by simp[d]) (by rw[aq,o];rfl) k g
theorem iY (ht:P.underlying t=some .string){z:DataW H×List MemPlace}(h:DataW.trod enc P w jl spare held n t [v]=some z)(d:∀k∈z.1.weights P t,k<=reachBytes):∃s:Wz,v=.string s/\s.size<=140737488355328:=by
 obtain⟨s,h1,h2,_⟩:=DataW.trod_string ht h;refine⟨s,by simpa using h1,?_⟩;have:=d s.data.toList.length (by rw[h2];simp[DataW.weights]);have h3:reachBytes=140737488351232:=rfl;have f:s.data.toList.length=s.size:=by simp
 omega
theorem xf (ht:P.underlying t=some .bool){z:DataW H×List MemPlace}(h:DataW.trod enc P w jl spare held n t [v]=some z):∃b:Bool,v=.bool b:=by obtain⟨s,h1,_⟩:=DataW.trod_bool ht h;exact⟨s,by simpa using h1⟩
end
section
variable {H:Type} {enc:TypeId×Value→H} {w:Wq} {jl:Nat} {spare:Nat→Bool} {held:Bool}
theorem ip (ht:Tryz.prog.underlying t=some (.int .i64)){z:DataW H×List MemPlace}(h:DataW.trod enc Tryz.prog w jl spare held n t [v]=some z):∃i:Int,v=.int .i64 i/\QK i:=by obtain⟨s,h1,_,h3⟩:=DataW.trod_int ht h;refine⟨s,by simpa using h1,?_⟩;simp[Lit.wf,IntKind.min,IntKind.max,IntKind.signed,IntKind.bits]at h3;exact⟨by omega,by omega⟩
theorem mQ {z:DataW H×List MemPlace}(h:DataW.trod enc Tryz.prog w jl spare held n 29 [v]=some z)(d:∀k∈z.1.weights Tryz.prog 29,k<=reachBytes):∃l:List Wz,dk w w.heap.size v l:=by obtain⟨o,l,f,hs,m,_⟩:=gd (R:=FH) (Pr:=λ_=>True) (size:=1) Tryz.underlying29 (by kernel_rfl) (by omega) (dC (by kernel_rfl)) h d (λg y n h d j=>by match g,j with|[c],_=>obtain⟨i,rfl,hi⟩:=iY Tryz.underlying9 h d;exact⟨i,⟨rfl,hi⟩,trivial⟩);obtain rfl:=(fW f).1;exact⟨l,hs⟩
theorem GN (d:cs.length=2)(h0:cs[0]?=some a)(h1:cs[1]?=some b):cs=[a,b]:=by match cs,d with|[_,_],_=>simp at h0 h1;subst h0 h1;rfl
theorem ws (d:cs.length=3)(h0:cs[0]?=some a)(h1:cs[1]?=some b)(h2:cs[2]?=some c):cs=[a,b,c]:=by match cs,d with|[_,_,_],_=>simp at h0 h1 h2;subst h0 h1 h2;rfl
theorem NB {d e:Value}(g:cs.length=5)(h0:cs[0]?=some a)(h1:cs[1]?=some b)(h2:cs[2]?=some c)(h3:cs[3]?=some d)(f:cs[4]?=some e):cs=[a,b,c,d,e]:=by match cs,g with|[_,_,_,_,_],_=>simp at h0 h1 h2 h3 f;subst h0 h1 h2 h3 f;rfl
theorem Bg {d e f g:Value}(k:cs.length=7)(h0:cs[0]?=some a)(h1:cs[1]?=some b)(h2:cs[2]?=some c)(h3:cs[3]?=some d)(h:cs[4]?=some e)(i:cs[5]?=some f)(j:cs[6]?=some g):cs=[a,b,c,d,e,f,g]:=by match cs,k with|[_,_,_,_,_,_,_],_=>simp at h0 h1 h2 h3 h i j;subst h0 h1 h2 h3 h i j;rfl
theorem Es {y:DataW H×List MemPlace}(h:DataW.trod enc Tryz.prog w jl spare held n 37 cs=some y)(g:∀k∈y.1.weights Tryz.prog 37,k<=reachBytes)(d:cs.length=2):∃x:dO,yj w w.heap.size cs x/\True:=by have F:=gZ Tryz.underlying37 (by kernel_rfl) h g d;obtain⟨s,p,A,f,o,w0⟩:=F 0 _ rfl;obtain⟨u,q,B,c1,t1,z⟩:=F 1 _ rfl;obtain⟨l,rfl,j⟩:=iY Tryz.underlying9 o w0;obtain⟨m,rfl,r⟩:=ip Tryz.underlying3 t1;have i:=GN d f c1;exact⟨⟨l,m⟩,⟨i,j⟩,trivial⟩
theorem I5 {y:DataW H×List MemPlace}(h:DataW.trod enc Tryz.prog w jl spare held n 127 cs=some y)(g:∀k∈y.1.weights Tryz.prog 127,k<=reachBytes)(d:cs.length=2):∃x:iV,K6 w w.heap.size cs x/\True:=by have F:=gZ Tryz.underlying127 (by kernel_rfl) h g d;obtain⟨s,p,A,f,o,w0⟩:=F 0 _ rfl;obtain⟨u,q,B,c1,t1,z⟩:=F 1 _ rfl;obtain⟨l,rfl,j⟩:=iY Tryz.underlying9 o w0;obtain⟨m,rfl,r⟩:=ip Tryz.underlying3 t1;have i:=GN d f c1;exact⟨⟨l,m⟩,⟨i,j⟩,trivial⟩
theorem zh {y:DataW H×List MemPlace}(h:DataW.trod enc Tryz.prog w jl spare held n 96 cs=some y)(g:∀k∈y.1.weights Tryz.prog 96,k<=reachBytes)(d:cs.length=3):∃x:dc,fw w w.heap.size cs x/\True:=by have F:=gZ Tryz.underlying96 (by kernel_rfl) h g d;obtain⟨C,s,I,f,p,w0⟩:=F 0 _ rfl;obtain⟨D,u,J,c1,t1,G⟩:=F 1 _ rfl;obtain⟨E,z,K,c2,q,r⟩:=F 2 _ rfl;obtain⟨l,rfl,A⟩:=ip Tryz.underlying3 p;obtain⟨m,rfl,B⟩:=ip Tryz.underlying3 t1;obtain⟨o,rfl,j⟩:=iY Tryz.underlying9 q r;have i:=ws d f c1 c2;exact⟨⟨l,m,o⟩,⟨i,j⟩,trivial⟩
theorem HM {y:DataW H×List MemPlace}(h:DataW.trod enc Tryz.prog w jl spare held n 62 cs=some y)(g:∀k∈y.1.weights Tryz.prog 62,k<=reachBytes)(d:cs.length=3):∃x:eQ,fQ w w.heap.size cs x/\True:=by have F:=gZ Tryz.underlying62 (by kernel_rfl) h g d;obtain⟨B,u,I,f,p,w0⟩:=F 0 _ rfl;obtain⟨C,z,J,c1,t1,s⟩:=F 1 _ rfl;obtain⟨D,A,K,c2,q,G⟩:=F 2 _ rfl;obtain⟨l,rfl,j⟩:=iY Tryz.underlying9 p w0;obtain⟨m,rfl,r⟩:=iY Tryz.underlying9 t1 s;obtain⟨o,rfl,E⟩:=ip Tryz.underlying3 q;have i:=ws d f c1 c2;exact⟨⟨l,m,o⟩,⟨i,j,r⟩,trivial⟩
theorem Gf {y:DataW H×List MemPlace}(h:DataW.trod enc Tryz.prog w jl spare held n 44 cs=some y)(m:∀k∈y.1.weights Tryz.prog 44,k<=reachBytes)(d:cs.length=7):∃x:eF,cs=fM x/\Sm x.field/\Sm x.pat:=by have F:=gZ Tryz.underlying44 (by kernel_rfl) h m d;obtain⟨W,N,z0,f,B,w0⟩:=F 0 _ rfl;obtain⟨X,O,z1,c1,t1,w1⟩:=F 1 _ rfl;obtain⟨Y,Q,z2,c2,C,w2⟩:=F 2 _ rfl;obtain⟨Z,R,z3,g,t3,w3⟩:=F 3 _ rfl;obtain⟨v4,S,z4,i,D,w4⟩:=F 4 _ rfl;obtain⟨v5,T,z5,j,E,w5⟩:=F 5 _ rfl;obtain⟨v6,U,z6,l,G,I⟩:=F 6 _ rfl;obtain⟨p,rfl,o⟩:=iY Tryz.underlying9 B w0;obtain⟨q,rfl,V⟩:=ip Tryz.underlying3 t1;obtain⟨r,rfl,vp⟩:=ip Tryz.underlying3 C;obtain⟨s,rfl,K⟩:=ip Tryz.underlying3 t3;obtain⟨u,rfl,L⟩:=ip Tryz.underlying3 D;obtain⟨z,rfl,M⟩:=ip Tryz.underlying3 E;obtain⟨A,rfl,J⟩:=iY Tryz.underlying9 G I;exact⟨⟨p,q,r,s,u,z,A⟩,Bg d f c1 c2 g i j l,o,J⟩
theorem uU {y:DataW H×List MemPlace}(h:DataW.trod enc Tryz.prog w jl spare held n 46 cs=some y)(o:∀k∈y.1.weights Tryz.prog 46,k<=reachBytes)(i:cs.length=8):∃x:de,yg w w.heap.size cs x/\True:=by
 obtain⟨g,f,_,q,_,l,hf⟩:=IM Tryz.underlying46 h;have l:g.length=2:=l;have A:∀k∈(g[1]'(by omega)).1.weights Tryz.prog 44,k<=reachBytes:=λk m=>o k (by rw[show y.1=.agg (g.map (·.1))from by rw[q]];simp only[DataW.weights,Tryz.underlying46];exact nx (j:=1) (t:=44) (by simp) (by rw[aq,aF (by omega)];rfl) k m);have h0:=hf 0 _ rfl;have h1:=hf 1 _ rfl;rw[aF (by omega)]at h0 h1;obtain⟨d,r,rfl⟩:∃d r,cs=d::r:=by cases cs with|nil=>simp at i|cons a b=>exact⟨a,b,rfl⟩
 have hr:r.length=7:=by simpa using i
 have u:Tryz.prog.cellsOf 3=1:=by kernel_rfl
 have z:Tryz.prog.cellsOf 44=7:=by kernel_rfl
 have h0:DataW.trod enc Tryz.prog w jl spare held f 3 (((d::r).drop 0).take (Tryz.prog.cellsOf 3))=_:=h0;have h1:DataW.trod enc Tryz.prog w jl spare held f 44 (((d::r).drop 1).take (Tryz.prog.cellsOf 44))=_:=h1;rw[u]at h0;rw[z,show(d::r).drop 1=r from rfl,ah (by omega)]at h1;obtain⟨s,rfl,_⟩:=ip Tryz.underlying3 (show DataW.trod enc Tryz.prog w jl spare held f 3 [d]=_ from h0);obtain⟨x,p,B,C⟩:=Gf h1 A hr;exact⟨⟨s,x⟩,⟨by rw[p],B,C⟩,trivial⟩
theorem HO {y:DataW H×List MemPlace}(h:DataW.trod enc Tryz.prog w jl spare held n 121 cs=some y)(f:∀k∈y.1.weights Tryz.prog 121,k<=reachBytes)(d:cs.length=3):∃x:gP,iu w w.heap.size cs x/\True:=by have F:=gZ Tryz.underlying121 (by kernel_rfl) h f d;obtain⟨D,z,J,g,q,w0⟩:=F 0 _ rfl;obtain⟨E,A,K,c1,t1,I⟩:=F 1 _ rfl;obtain⟨G,B,L,c2,r,s⟩:=F 2 _ rfl;obtain⟨m,rfl,l⟩:=iY Tryz.underlying9 q w0;obtain⟨o,rfl⟩:=xf Tryz.underlying4 t1;obtain⟨u2,p,i,h2,_,C⟩:=gd (R:=yg) (Pr:=λ_=>True) (size:=8) Tryz.underlying47 (by kernel_rfl) (by omega) (dC (by kernel_rfl)) r s λu y n h f d=>uU h f d;obtain rfl:=(fW i).1;have j:=ws d g c1 c2;exact⟨⟨m,o,p⟩,⟨_,j,l,h2⟩,trivial⟩
theorem EJ {y:DataW H×List MemPlace}(h:DataW.trod enc Tryz.prog w jl spare held n 68 cs=some y)(f:∀k∈y.1.weights Tryz.prog 68,k<=reachBytes)(d:cs.length=3):∃x:dE,da w w.heap.size cs x/\True:=by have F:=gZ Tryz.underlying68 (by kernel_rfl) h f d;obtain⟨E,A,J,g,q,w0⟩:=F 0 _ rfl;obtain⟨G,B,K,c1,t1,s⟩:=F 1 _ rfl;obtain⟨I,C,L,c2,r,u⟩:=F 2 _ rfl;obtain⟨m,rfl,l⟩:=iY Tryz.underlying9 q w0;obtain⟨o,h1⟩:=mQ t1 s;obtain⟨u2,p,i,h2,_,D⟩:=gd (R:=yg) (Pr:=λ_=>True) (size:=8) Tryz.underlying47 (by kernel_rfl) (by omega) (dC (by kernel_rfl)) r u λz y n h f d=>uU h f d;obtain rfl:=(fW i).1;have j:=ws d g c1 c2;exact⟨⟨m,o,p⟩,⟨_,_,j,l,h1,h2⟩,trivial⟩
theorem Gv {y:DataW H×List MemPlace}(h:DataW.trod enc Tryz.prog w jl spare held n 50 cs=some y)(f:∀k∈y.1.weights Tryz.prog 50,k<=reachBytes)(d:cs.length=5):∃x:db,gn w w.heap.size cs x/\QK x.prio:=by have F:=gZ Tryz.underlying50 (by kernel_rfl) h f d;obtain⟨U,L,Z,g,C,w0⟩:=F 0 _ rfl;obtain⟨V,M,z1,c1,t1,G⟩:=F 1 _ rfl;obtain⟨W,N,z2,c2,D,I⟩:=F 2 _ rfl;obtain⟨X,O,z3,i,t3,J⟩:=F 3 _ rfl;obtain⟨Y,Q,z4,j,E,K⟩:=F 4 _ rfl;obtain⟨s,rfl,r⟩:=ip Tryz.underlying3 C;obtain⟨u,h1⟩:=mQ t1 G;obtain⟨u2,z,l,h2,_,S⟩:=gd (R:=yg) (Pr:=λ_=>True) (size:=8) Tryz.underlying47 (by kernel_rfl) (by omega) (dC (by kernel_rfl)) D I λq y n h f d=>uU h f d;obtain rfl:=(fW l).1;obtain⟨u3,A,m,h3,_,T⟩:=gd (R:=K6) (Pr:=λ_=>True) (size:=2) Tryz.underlying48 (by kernel_rfl) (by omega) (dC (by kernel_rfl)) t3 J λq y n h f d=>I5 h f d;obtain rfl:=(fW m).1;obtain⟨B,o⟩:=mQ E K;have p:=NB d g c1 c2 i j;exact⟨⟨s,u,z,A,B⟩,⟨_,_,_,_,p,h1,h2,h3,o⟩,r⟩
theorem Kj {y:DataW H×List MemPlace}(h:DataW.trod enc Tryz.prog w jl spare held n 42 cs=some y)(f:∀k∈y.1.weights Tryz.prog 42,k<=reachBytes)(d:cs.length=7):∃x:ay,jB w w.heap.size cs x/\Ra x:=by have F:=gZ Tryz.underlying42 (by kernel_rfl) h f d;obtain⟨v0,m0,z0,i,O,w0⟩:=F 0 _ rfl;obtain⟨v1,m1,z1,c1,t1,V⟩:=F 1 _ rfl;obtain⟨v2,m2,z2,c2,Q,W⟩:=F 2 _ rfl;obtain⟨v3,m3,z3,j,t3,X⟩:=F 3 _ rfl;obtain⟨v4,m4,z4,l,S,Y⟩:=F 4 _ rfl;obtain⟨v5,m5,z5,m,T,Z⟩:=F 5 _ rfl;obtain⟨v6,m6,z6,o,U,w6⟩:=F 6 _ rfl;obtain⟨G,rfl,D⟩:=iY Tryz.underlying9 O w0;obtain⟨I,h1⟩:=mQ t1 V;obtain⟨J,h2⟩:=mQ Q W;obtain⟨u3,K,p,h3,_,p3⟩:=gd (R:=iu) (Pr:=λ_=>True) (size:=3) Tryz.underlying38 (by kernel_rfl) (by omega) (dC (by kernel_rfl)) t3 X λg y n h f d=>HO h f d;obtain rfl:=(fW p).1;obtain⟨u4,L,q,z,_,E⟩:=gd (R:=gn) (Pr:=λr:db=>QK r.prio) (size:=5) Tryz.underlying39 (by kernel_rfl) (by omega) (dC (by kernel_rfl)) S Y λg y n h f d=>Gv h f d;obtain rfl:=(fW q).1;obtain⟨u5,M,s,A,_,p5⟩:=gd (R:=fw) (Pr:=λ_=>True) (size:=3) Tryz.underlying40 (by kernel_rfl) (by omega) (dC (by kernel_rfl)) T Z λg y n h f d=>zh h f d;obtain rfl:=(fW s).1;obtain⟨u6,N,u,B,_,p6⟩:=gd (R:=fw) (Pr:=λ_=>True) (size:=3) Tryz.underlying40 (by kernel_rfl) (by omega) (dC (by kernel_rfl)) U w6 λg y n h f d=>zh h f d;obtain rfl:=(fW u).1;have C:=Bg d i c1 c2 j l m o;exact⟨⟨G,I,J,K,L,M,N⟩,⟨_,_,_,_,_,_,C,D,h1,h2,h3,z,A,B⟩,E⟩
theorem AN {r:Reach}{b0:Nat}{d:DataW H}{p:List MemPlace}(I:Value.okWide Tryz.prog w r b0 27 v)(h:DataW.Trod enc Tryz.prog w jl spare held 27 v d p)(g:∀k∈d.weights Tryz.prog 27,k<=reachBytes):∃c l vb vl vs,v=.agg (eO c l vb vl vs)/\fE w w.heap.size c l vb vl vs/\NY c:=by
 obtain⟨cs,rfl,M⟩:=okWide_struct Tryz.underlying27 I;obtain⟨jm,hf⟩:=h;have f:cs.toList.length=7:=by
  have G:Tryz.prog.cellsOf 27=7:=by kernel_rfl
  rw[AW,M,G]
 have F:=gZ Tryz.underlying27 (by kernel_rfl) (show DataW.trod enc Tryz.prog w jl spare held jm 27 cs.toList=some (d,p)from hf) g f;obtain⟨v0,m0,z0,m,W,w0⟩:=F 0 _ rfl;obtain⟨v1,m1,z1,c1,t1,w1⟩:=F 1 _ rfl;obtain⟨v2,m2,z2,c2,X,w2⟩:=F 2 _ rfl;obtain⟨v3,m3,z3,o,t3,w3⟩:=F 3 _ rfl;obtain⟨v4,m4,z4,q,Y,w4⟩:=F 4 _ rfl;obtain⟨v5,m5,z5,s,Z,w5⟩:=F 5 _ rfl;obtain⟨v6,m6,z6,u,t6,w6⟩:=F 6 _ rfl;obtain⟨N,rfl,J⟩:=iY Tryz.underlying9 W w0;obtain⟨u1,O,x,h1,_,p1⟩:=gd (R:=yj) (Pr:=λ_=>True) (size:=2) Tryz.underlying22 (by kernel_rfl) (by omega) (dC (by kernel_rfl)) t1 w1 λi y n h g f=>Es h g f;obtain rfl:=(fW x).1;obtain⟨Q,rfl,L⟩:=iY Tryz.underlying9 X w2;obtain⟨S,rfl⟩:=xf Tryz.underlying4 t3;obtain⟨u4,T,z,C,_,K⟩:=gd (R:=jB) (Pr:=Ra) (size:=7) Tryz.underlying23 (by kernel_rfl) (by omega) (dC (by kernel_rfl)) Y w4 λi y n h g f=>Kj h g f;obtain rfl:=(fW z).1;obtain⟨u5,U,A,D,_,p5⟩:=gd (R:=fQ) (Pr:=λ_=>True) (size:=3) Tryz.underlying24 (by kernel_rfl) (by omega) (dC (by kernel_rfl)) Z w5 λi y n h g f=>HM h g f;obtain rfl:=(fW A).1;obtain⟨u6,V,B,E,_,p6⟩:=gd (R:=da) (Pr:=λ_=>True) (size:=3) Tryz.underlying25 (by kernel_rfl) (by omega) (dC (by kernel_rfl)) t6 w6 λi y n h g f=>EJ h g f;obtain rfl:=(fW B).1;have j:=Bg f m c1 c2 o q s u;refine⟨⟨N,O,Q,S,T,U,V⟩,v1,v4,v5,v6,?_,⟨h1,C,D,E,J,L⟩,K⟩;cases cs;simp only at j;subst j;rfl
end
end Go.Proofs.YtgfgoaeaicefcaaGreatDoor
namespace Go.Proofs.YtgfgoaeaicefcaaGreatDoor
open Go
variable {cs:List Value}{n jm jl:Nat}{t e:TypeId}{v a b c:Value}{held:Bool}
theorem QY:Tryz.prog.laidByTextLater AD [.data,.data,.data,.data,.data,.data,.sentinel,.sentinel,.data,.listed] true:=Program.laidByTextLater_by_one 110 8 257 RK Qb Lf RM RN RL OJ
theorem QZ:Rows.deltaBackRow.laidByTextAt .later Tryz.pinned [.data,.pinned,.data,.data,.data,.data,.data,.sentinel,.sentinel,.data,.listed] true:=OpenClaim.laidByTextAt_pinned rfl rfl QY rfl rfl rfl rfl (λy f d=>by
 simp only[Rows.deltaBackRow,List.zip_cons_cons,List.zip_nil_right,dN,List.mem_nil_iff,jf]at f;rcases f with rfl|rfl|rfl|rfl|rfl|rfl|rfl|rfl|rfl|rfl|rfl
 .cases d
 .exact⟨Qa,by kernel_rfl⟩
 all_goals cases d) OK
end Go.Proofs.YtgfgoaeaicefcaaGreatDoor
namespace Go.Proofs.YtgfgoaeaicefcaaGreatDoor
open Go.ChangeShapes Go.WideShapes Go.ChangeAt Go.RowKit
variable {cs:List Value}{n jm jl:Nat}{t e:TypeId}{v a b c:Value}{held:Bool}
theorem El {H:Type}{enc:TypeId×Value->H}{a:Assume}{C:Checked}{os:Os}{f:FuncId}{d:Func}{s:ChangeSpec}{k:List PathCond}{g o p m:Bool}{X:Wq->Array Value->Prop}(u:∀(w w':Wq)(args:Array Value),w.heap=w'.heap->X w args->X w' args)(own:ownKnob C.prog.godebug=none)(B:os.Started)(D:C.prog.inits.idxOf? f=none)(G:C.prog.funcs[f]?=some d)(M:∃(w:Wq)(tape:Tape)(i:Input),w.os=os/\(w.forCall tape i).Shaped C.prog/\i.vars=[]/\Input.okWide C.prog (w.forCall tape i) .any w.heap.size f i/\((s.pre enc C.prog d k g (w.forCall tape i).memory i.args/\X (w.forCall tape i).memory i.args)/\sizedMet enc C.prog d (OpenSpec.ofChange s) g (w.forCall tape i).memory i.args)/\a.holds C.prog (lone (Frame.enter C.prog f i.args .normal) [] (w.forCall tape i)))(r:∀(W:Wq)(jl:Nat)(args:Array Value)(ds h:List (DataW H))(l:List MemPlace),(∀(j:Nat) t v,d.params[j]?=some t->args[j]?=some v->Value.okWide C.prog W .any jl t v)->DataW.Whole enc C.prog d.params.toList s.vars g W args.toList ds h l->k.all (PathCond.test C.prog ⟨d.params.toList,ds,s.plain.varTypes C.prog,h⟩)=true->(DataW.weightsEach C.prog (d.params.toList++s.plain.varTypes C.prog) (ds++h)).all (.<=reachBytes)=true->X W args->W.ShapedOpen C.prog->a.holds C.prog (lone (Frame.enter C.prog f args .normal) [] W)->Calls C.prog f args W λe W'=>∃v,e=.returned v/\s.post enc C.prog d g o p m W args v W'):ReturnsInHanded a C os f .any (λw args=>(s.pre enc C.prog d k g w args/\X w args)/\sizedMet enc C.prog d (OpenSpec.ofChange s) g w args) (s.post enc C.prog d g o p m):=by refine returnsInHanded_of_calls own B D M ?_;intro w tape i _ J _ L F I;obtain⟨_,_,_,N,E,_,_,_,_,A⟩:=L;have e:N=d:=dV (E.symm.t G);subst e;obtain⟨⟨⟨ds,h,l,q,x⟩,y⟩,z⟩:=F;have K:=DataW.Whole.of_heap (w':=w.forCall tape i) (by rfl) q;refine(r (w.forCall tape i) w.heap.size i.args ds h l A K x (z.weights q) (u _ _ _ (by rfl) y) J I).mono λe W' ⟨v,he,hp⟩=>?_;subst he;exact ChangeSpec.post_blind hp
theorem own:ownKnob Tryz.prog.godebug=none:=by kernel_rfl
theorem MR:laidOutB Tryz.prog=true:=by kernel_rfl
theorem uq (os:Os)(M:os.Started)(H:Type)(enc:TypeId×Value->H):ReturnsInHanded {} Tryz.checked os 3 .any (λw args=>(Rows.deltaBackSpec.pre enc Tryz.prog Tryz.f3 Rows.deltaBackRow.domain false w args/\laidMetH Tryz.prog Rows.deltaBackRow.laid w)/\sizedMet enc Tryz.prog Tryz.f3 (OpenSpec.ofChange Rows.deltaBackSpec) false w args)
   (Rows.deltaBackSpec.post enc Tryz.prog Tryz.f3 false true false false):=by
 refine El (C:=Tryz.checked) (X:=λw _=>laidMetH Tryz.prog Rows.deltaBackRow.laid w) (λ_ _ _ I h=>h.of_heap I) own M (by kernel_rfl) Tryz.func3
  (ChangeSpec.witness_shaped (enc:=enc) (C:=Tryz.checked) (os:=os) (X:=λw _=>laidMetH Tryz.prog Rows.deltaBackRow.laid w) false (World.laidAll Tryz.prog os Rows.deltaBackRow.laid) #[.agg #[.string ⟨#[]⟩,.slice none 0 0,.string ⟨#[]⟩,.bool false,.slice none 0 0,.slice none 0 0,.slice none 0 0],.agg #[.string ⟨#[]⟩,.slice none 0 0,.string ⟨#[]⟩,.bool false,.slice none 0 0,.slice none 0 0,.slice none 0 0]] 8 (World.laidAll_os _ _ _)
   (World.shaped_of_ZipB (by kernel_rfl) (by kernel_rfl)) (by kernel_rfl) (by kernel_rfl) (by kernel_rfl)
   (by rw[MakeChecks.laidMetH_plain _ _ _ (by kernel_rfl)];exact laidMet_laidAll _ (by kernel_rfl) (by kernel_rfl))) ?_;intro W jl args ds gs j2 u r _ L D O _;have l:∀(j:Nat) t v,Tryz.f3.params[j]?=some t->args[j]?=some v->Value.okWide Tryz.prog W .any jl t v:=u;have m:=r;obtain⟨p,q,hA0,E,rfl,_,_⟩:=r;have o:DataW.TrodAll enc Tryz.prog W 0 (λ_=>true) true Tryz.f3.params.toList args.toList ds p:=hA0;rw[Tryz.params3]at o l;obtain⟨T,U,A,B,p0,N,rfl,rfl,rfl,h0,h1⟩:=trodAll_two o;obtain⟨rfl,rfl⟩:=trodVars_none E;clear hA0 u;simp only[aZ]at m;have y:∀x∈p0++N,x.block<W.heap.size:=λx f=>by simpa using m.lt x f
 have s:∀(W':Wq)(v:Value)(d:DataW H)(g:List MemPlace),DataW.Trod enc Tryz.prog W 0 (λ_=>true) true 27 v d g->(∀x∈g,x.block<W.heap.size)->JJ W W'->DataW.Trod enc Tryz.prog W' 0 (λb=>decide (b<W.heap.size)) true 27 v d g:=λW' v d g h J K=>Below.trod MR (by kernel_rfl) (dC (by kernel_rfl)) h K J;have z:(DataW.weightsEach Tryz.prog [27,27] [A,B]).all (.<=reachBytes)=true:=L;obtain⟨a,V,vb,vl,vs,rfl,F,Y⟩:=AN (l 0 27 T rfl rfl) h0 λk i=>by have:=List.all_eq_true.1 z k (nx (j:=0) (t:=27) rfl rfl k i);simpa using this
 obtain⟨b,R,Q,S,us,rfl,G,Z⟩:=AN (l 1 27 U rfl rfl) h1 λk i=>by have:=List.all_eq_true.1 z k (nx (j:=1) (t:=27) rfl rfl k i);simpa using this
 refine(Jt a b V vb vl vs R Q S us W F G (KR D O) Y Z).mono λe W' ⟨he,hbw⟩=>?_;subst he;exact⟨_,rfl,⟨_,_,_,[],_,[],m,trodAll_mk1 (shut_bool Tryz.underlying4 _),trodAll_mk2 (s _ _ _ _ h0 (λx f=>y x (eI _ f)) hbw) (s _ _ _ _ h1 (λx f=>y x (jy _ f)) hbw),rfl,hbw.frame _,λh=>by cases h⟩⟩
theorem pR:Rows.DeltaBackSaid:=OpenClaim.holds_of_wide 3 Tryz.f3 rfl rfl rfl rfl rfl rfl rfl ⟨rfl,rfl,rfl,rfl,rfl⟩ rfl rfl rfl rfl rfl Mz Tryz.func3 KN Hk Hj
 (λos d H enc _=>uq os d H enc)
#print axioms pR
end Go.Proofs.YtgfgoaeaicefcaaGreatDoor
namespace Go.Proofs.YtgfgoaeaicefcaaGreatDoor
open Go
variable {cs:List Value}{n jm jl:Nat}{t e:TypeId}{v a b c:Value}{held:Bool}
theorem deltaBack_card:Rows.DeltaBackCardSaid:=Claim7.holds_tied_plain_at .later [] [.data,.pinned,.data,.data,.data,.data,.data,.sentinel,.sentinel,.data,.listed] true (true, "a8f588ec4c7b0cc4e3d5b2798a71e61db599f541d1c7aa38bcdbcad979c119e4") true pR (λ_ h=>by cases h) RW (λ_ h=>by cases h) QZ rfl ⟨rfl,rfl⟩ PN rfl
 (λf d hf i=>by obtain rfl:f=3:=dV (RX.symm.t hf)|>.symm;obtain rfl:d=Tryz.f3:=(dV (Tryz.func3.symm.t i)).symm;exact⟨PQ,λj t ht=>by
  rw[Tryz.params3]at ht;have g:t∈[27,27]:=by simpa using Array.mem_of_getElem? ht
  exact(show Tryz.prog.wantsStandIn t=false by simpa using List.all_eq_true.1 ND t g)⟩)
 PZ
#print axioms deltaBack_card
end Go.Proofs.YtgfgoaeaicefcaaGreatDoor
