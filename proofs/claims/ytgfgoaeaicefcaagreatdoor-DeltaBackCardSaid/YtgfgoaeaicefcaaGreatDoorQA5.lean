/- Part of DeltaBack. -/
import Derived.Test.YtgfgoaeaicefcaaGreatDoorQA4
set_option maxHeartbeats 16000000
set_option maxRecDepth 100000
set_option linter.all false
namespace Go.Proofs.YtgfgoaeaicefcaaGreatDoor
open Go.RowKit Tryz
variable {w:Wq}{k y:Int}{M j N:Nat}
theorem xW (b off:Nat)(i:Nat)(x:Int)(w:Wq)(hi:i<256)(d:w.cell? ⟨b,off+i/64,none⟩=some (.int .u64 x))(hf:w.frozen? ⟨b,off+i/64,none⟩=false):Calls prog 384 #[.pointer (some ⟨b,off,none⟩),I6 i] w λe w'=>e=.returned (.tuple #[])/\∃y:Int,w'=(w.setCell ⟨b,off+i/64,none⟩ (.int .u64 y)).drew:=by
 have h1:(i:Int)/64<4:=by omega
 have h2:(0:Int)<=(i:Int)/64:=by omega
 have h3:((i:Int)/64).toNat=i/64:=by omega
 have a:(0:Int)<=(i:Int)%64:=by omega
 have c:(i:Int)%64<64:=by omega
 go_enter func384,ntmps384;go_wp2_with fail;go_region;go_wp2_with fail;go_end0;exact⟨rfl,_,rfl⟩
def aj (k:Int)(f:Nat->Int):Array Value:=#[I6 k,.int .u64 (f 0),.int .u64 (f 1),.int .u64 (f 2),.int .u64 (f 3),.int .u64 (f 4),.int .u64 (f 5),.int .u64 (f 6),.int .u64 (f 7)]
def dY (w:Wq)(M:Nat)(k:Int)(f:Nat->Int):Prop:=w.heap[M]?=some (.cells (aj k f) 387 (0,0))
theorem dY.cell {f:Nat->Int}(h:dY w M k f)(j:Nat)(a:j<8):w.cell? ⟨M,1+j,none⟩=some (.int .u64 (f j)):=by have:=aA w M (1+j) _ _ (0,0) h;rw[this];match j,a with|0,_=>rfl|1,_=>rfl|2,_=>rfl|3,_=>rfl|4,_=>rfl|5,_=>rfl|6,_=>rfl|7,_=>rfl|j+8,h=>omega
theorem dY.free {f:Nat->Int}(h:dY w M k f)(i:Nat):w.frozen? ⟨M,i,none⟩=false:=by unfold dY at h;unfold World.frozen?;simp[h]
theorem dY.set {f:Nat->Int}(h:dY w M k f)(j:Nat)(a:j<8)(y:Int):dY (w.setCell ⟨M,1+j,none⟩ (.int .u64 y)).drew M k (λi=>if i=j then y else f i):=by
 have hs:(w.setCell ⟨M,1+j,none⟩ (.int .u64 y)).heap[M]?=some (.cells ((aj k f).setIfInBounds (1+j) (.int .u64 y)) 387 (0,0)):=by unfold dY at h;unfold World.setCell;simp only[ny,h];simp
 show(w.setCell ⟨M,1+j,none⟩ (.int .u64 y)).heap[M]?=_;rw[hs];match j,a with|0,_=>rfl|1,_=>rfl|2,_=>rfl|3,_=>rfl|4,_=>rfl|5,_=>rfl|6,_=>rfl|7,_=>rfl|j+8,h=>omega
theorem qQ (M r i:Nat)(k:Int)(f:Nat->Int)(w:Wq)(hi:i<256)(hr:r<=4)(h:dY w M k f):Calls prog 384 #[.pointer (some ⟨M,1+r,none⟩),I6 i] w λe w'=>e=.returned (.tuple #[])/\(∃f',dY w' M k f')/\Below M w w':=by have a:=h.cell (r+i/64) (by omega);have hf:=h.free (1+r+i/64);rw[<-eM]at a;refine(xW M (1+r) i _ w hi a hf).mono ?_;rintro e w' ⟨rfl,y,rfl⟩;have b:=h.set (r+i/64) (by omega) y;rw[<-eM]at b;exact⟨rfl,⟨_,b⟩,ar ((aB M w).setCell Jq _) 1⟩
def kI (s:Wz):Int:=if yG (bs s)then 0 else if 256<s.size then 2 else 10
def II (s:Wz)(w:Wq)(e:Ending)(w':Wq):Prop:=∃(k:Int)(f:Nat->Int),e=.returned (.tuple #[.agg (aj k f),I6 (kI s)])/\JJ w w'
theorem IG (s:Wz)(w:Wq)(hs:s.size<=9223372036854775807):Calls prog 362 #[.string s] w (II s w):=by
 have l:=Hi ((aB w.heap.size w).alloc Jq (.cells #[I6 0,.int .u64 0,.int .u64 0,.int .u64 0,.int .u64 0,.int .u64 0,.int .u64 0,.int .u64 0,.int .u64 0] 387 (0,0)));by_cases h1:256<s.size
 .have H:=Hi (show kI s=2 by unfold kI;rw[yF s (.inr h1),ax h1];rfl);have L:(s.size:Int)>256:=by omega
  clear h1;go_enter func362,ntmps362;go_wp2_with fail;refine dJ (v:=.tuple #[.agg (aj 0 λ_=>0),I6 2]) (by simp[results,results362,go_sem,aj]) rfl ?_;exact⟨_,_,by rw[H.o],l.o⟩
 by_cases h0:s.size=0
 .have H:=Hi (show kI s=10 by unfold kI;rw[yF s (.inl (by omega)),ap h1];rfl);have Q:s.toList.isEmpty=true:=by rw[ab];have:s.data.toList.length=0:=h0;rw[List.length_eq_zero_iff.1 this];rfl
  have L:¬(s.size:Int)>256:=by omega
  clear h1 h0;go_enter func362,ntmps362;go_wp2_with fail;refine dJ (v:=.tuple #[.agg (aj 0 λ_=>0),I6 10]) (by simp[results,results362,go_sem,aj]) rfl ?_;exact⟨_,_,by rw[H.o],l.o⟩
 have H:Hid (kI s=if((bs s).drop 0).all i7 then 0 else 10):=Hi (by unfold kI;rw[Hc s (by omega) h1,ap h1];rfl);have Q:=jw s h0;have L:¬(s.size:Int)>256:=by omega
 have hl:s.size<=256:=by omega
 have jn:=Hi (aB (w.heap.size+1) (w.alloc (.cells #[I6 0,.int .u64 0,.int .u64 0,.int .u64 0,.int .u64 0,.int .u64 0,.int .u64 0,.int .u64 0,.int .u64 0] 387 (0,0))));obtain⟨d,j8⟩:∃d,d=w.alloc (.cells #[I6 0,.int .u64 0,.int .u64 0,.int .u64 0,.int .u64 0,.int .u64 0,.int .u64 0,.int .u64 0,.int .u64 0] 387 (0,0)):=⟨_,rfl⟩;rw[<-j8]at l jn;have I:Hid (d.heap.size=w.heap.size+1):=Hi (by rw[j8];simp);have G:Hid (dY (d.alloc (.cells #[I6 s.size,.int .u64 0,.int .u64 0,.int .u64 0,.int .u64 0,.int .u64 0,.int .u64 0,.int .u64 0,.int .u64 0] 387 (0,0))) (w.heap.size+1) s.size λ_=>0):=Hi (by have:=aG d (.cells #[I6 s.size,.int .u64 0,.int .u64 0,.int .u64 0,.int .u64 0,.int .u64 0,.int .u64 0,.int .u64 0,.int .u64 0] 387 (0,0));rw[I.o]at this;exact this);have jk:=Hi (jn.o.alloc (by have:=I.o;omega) (.cells #[I6 s.size,.int .u64 0,.int .u64 0,.int .u64 0,.int .u64 0,.int .u64 0,.int .u64 0,.int .u64 0,.int .u64 0] 387 (0,0)));have V:Hid (d.heap[w.heap.size]?=some (.cells #[I6 0,.int .u64 0,.int .u64 0,.int .u64 0,.int .u64 0,.int .u64 0,.int .u64 0,.int .u64 0,.int .u64 0] 387 (0,0))):=Hi (by rw[j8];exact aG w _);clear h1 h0 jn;rw[j8]at G jk;go_enter func362,ntmps362;go_wp2_with fail;go_loopw [5,18] (λ_ c wr=>∃(i:Nat)(f:Nat->Int),i<=s.size/\c=I6 i/\Hid (kI s=if((bs s).drop i).all i7 then 0 else 10)/\Hid (dY wr (w.heap.size+1) s.size f)/\Hid (Below (w.heap.size+1) d wr)) (λ_ c _=>s.size-(intOf c).toNat);case atStart=>exact⟨0,_,aK _,rfl,H,G,by rw[j8];exact jk⟩
 case round=>
  obtain⟨i,f,hi,rfl,n,hC,jl⟩:=hrel;clear H G jk j8;have a:=(jl.o.block w.heap.size (by omega)).t V.o;have a:=Hi a;by_cases hlt:i<s.size
  .have b:Hid (kI s=if(i7 s[i]&&((bs s).drop (i+1)).all i7)then 0 else 10):=Hi (by rw[n.o,jh s i hlt,eC]);clear n;by_cases c1:s[i].toNat=49
   .have h:Hid (kI s=if((bs s).drop (i+1)).all i7 then 0 else 10):=Hi (by rw[b.o,show i7 s[i]=true by simp[i7,c1],az]);have r:((s[i].toNat:Int)==49)=true:=by simp[c1]
    have m:=Hi (qQ (w.heap.size+1) 4 i s.size f wr (by omega) (by omega) hC.o);clear b c1;go_wp2_with fail;refine m.o.mono ?_;rintro e O ⟨rfl,⟨p,j9⟩,jn⟩;have K:=Hi (qQ (w.heap.size+1) 0 i s.size p O (by omega) (by omega) j9);have jn:=Hi (jl.o.t jn);clear m hC a jl j9;go_wp2_with fail;refine K.o.mono ?_;rintro e w2 ⟨rfl,⟨P,t⟩,jk⟩;have jk:=Hi (jn.o.t jk);have t:=Hi t;clear K jn;go_wp2_with fail;go_roundw;case rel=>exact⟨i+1,P,by omega,by go_num,h,t,jk⟩
    case measure=>simp[intOf];omega
   by_cases c2:s[i].toNat=48
   .have h:Hid (kI s=if((bs s).drop (i+1)).all i7 then 0 else 10):=Hi (by rw[b.o,show i7 s[i]=true by simp[i7,c2],az]);have r:((s[i].toNat:Int)==49)=false:=by simp[c2]
    have J:((s[i].toNat:Int)==48)=true:=by simp[c2]
    have m:=Hi (qQ (w.heap.size+1) 0 i s.size f wr (by omega) (by omega) hC.o);clear b c1 c2;go_wp2_with fail;refine m.o.mono ?_;rintro e O ⟨rfl,⟨p,j9⟩,jn⟩;have jn:=Hi (jl.o.t jn);have j9:=Hi j9;clear m hC a jl;go_wp2_with fail;go_roundw;case rel=>exact⟨i+1,p,by omega,by go_num,h,j9,jn⟩
    case measure=>simp[intOf];omega
   by_cases c3:s[i].toNat=120
   .have h:Hid (kI s=if((bs s).drop (i+1)).all i7 then 0 else 10):=Hi (by rw[b.o,show i7 s[i]=true by simp[i7,c3],az]);have r:((s[i].toNat:Int)==49)=false:=by simp[c3]
    have J:((s[i].toNat:Int)==48)=false:=by simp[c3]
    have R:((s[i].toNat:Int)==120)=true:=by simp[c3]
    clear b c1 c2 c3;go_wp2_with fail;go_roundw;case rel=>exact⟨i+1,f,by omega,by go_num,h,hC,jl⟩
    case measure=>simp[intOf];omega
   .have o:Hid (kI s=10):=Hi (by rw[b.o,show i7 s[i]=false by simp[i7];omega];rfl);have r:((s[i].toNat:Int)==49)=false:=by simp;omega
    have J:((s[i].toNat:Int)==48)=false:=by simp;omega
    have R:((s[i].toNat:Int)==120)=false:=by simp;omega
    have u:wr.cell? ⟨w.heap.size,0,none⟩=some (I6 0):=by simpa using aA wr w.heap.size 0 _ _ (0,0) a.o
    have W:wr.frozen? ⟨w.heap.size,0,none⟩=false:=by simp[World.frozen?,a.o]
    have x:wr.cell? ⟨w.heap.size,1,none⟩=some (.int .u64 0):=by simpa using aA wr w.heap.size 1 _ _ (0,0) a.o
    have S:wr.frozen? ⟨w.heap.size,1,none⟩=false:=by simp[World.frozen?,a.o]
    have z:wr.cell? ⟨w.heap.size,2,none⟩=some (.int .u64 0):=by simpa using aA wr w.heap.size 2 _ _ (0,0) a.o
    have vs:wr.frozen? ⟨w.heap.size,2,none⟩=false:=by simp[World.frozen?,a.o]
    have A:wr.cell? ⟨w.heap.size,3,none⟩=some (.int .u64 0):=by simpa using aA wr w.heap.size 3 _ _ (0,0) a.o
    have T:wr.frozen? ⟨w.heap.size,3,none⟩=false:=by simp[World.frozen?,a.o]
    have B:wr.cell? ⟨w.heap.size,4,none⟩=some (.int .u64 0):=by simpa using aA wr w.heap.size 4 _ _ (0,0) a.o
    have zx:wr.frozen? ⟨w.heap.size,4,none⟩=false:=by simp[World.frozen?,a.o]
    have C:wr.cell? ⟨w.heap.size,5,none⟩=some (.int .u64 0):=by simpa using aA wr w.heap.size 5 _ _ (0,0) a.o
    have Y:wr.frozen? ⟨w.heap.size,5,none⟩=false:=by simp[World.frozen?,a.o]
    have D:wr.cell? ⟨w.heap.size,6,none⟩=some (.int .u64 0):=by simpa using aA wr w.heap.size 6 _ _ (0,0) a.o
    have Z:wr.frozen? ⟨w.heap.size,6,none⟩=false:=by simp[World.frozen?,a.o]
    have E:wr.cell? ⟨w.heap.size,7,none⟩=some (.int .u64 0):=by simpa using aA wr w.heap.size 7 _ _ (0,0) a.o
    have X:wr.frozen? ⟨w.heap.size,7,none⟩=false:=by simp[World.frozen?,a.o]
    have F:wr.cell? ⟨w.heap.size,8,none⟩=some (.int .u64 0):=by simpa using aA wr w.heap.size 8 _ _ (0,0) a.o
    have U:wr.frozen? ⟨w.heap.size,8,none⟩=false:=by simp[World.frozen?,a.o]
    clear b c1 c2 c3;go_wp2_with fail;have q:=l.o.t (jl.o.mono (by omega));refine dJ (v:=.tuple #[.agg (aj 0 λ_=>0),I6 10]) (by simp[results,results362,go_sem,aj,u,x,z,A,B,C,D,E,F]) rfl ?_;exact⟨_,_,by rw[o.o],(((((((((q.setCell Jq _).setCell Jq _).setCell Jq _).setCell Jq _).setCell Jq _).setCell Jq _).setCell Jq _).setCell Jq _).setCell Jq _)⟩
  .have o:Hid (kI s=0):=Hi (by rw[n.o,iL s i hlt];rfl);have u:wr.cell? ⟨w.heap.size,0,none⟩=some (I6 0):=by simpa using aA wr w.heap.size 0 _ _ (0,0) a.o
   have W:wr.frozen? ⟨w.heap.size,0,none⟩=false:=by simp[World.frozen?,a.o]
   have x:wr.cell? ⟨w.heap.size,1,none⟩=some (.int .u64 0):=by simpa using aA wr w.heap.size 1 _ _ (0,0) a.o
   have S:wr.frozen? ⟨w.heap.size,1,none⟩=false:=by simp[World.frozen?,a.o]
   have z:wr.cell? ⟨w.heap.size,2,none⟩=some (.int .u64 0):=by simpa using aA wr w.heap.size 2 _ _ (0,0) a.o
   have vs:wr.frozen? ⟨w.heap.size,2,none⟩=false:=by simp[World.frozen?,a.o]
   have A:wr.cell? ⟨w.heap.size,3,none⟩=some (.int .u64 0):=by simpa using aA wr w.heap.size 3 _ _ (0,0) a.o
   have T:wr.frozen? ⟨w.heap.size,3,none⟩=false:=by simp[World.frozen?,a.o]
   have B:wr.cell? ⟨w.heap.size,4,none⟩=some (.int .u64 0):=by simpa using aA wr w.heap.size 4 _ _ (0,0) a.o
   have zx:wr.frozen? ⟨w.heap.size,4,none⟩=false:=by simp[World.frozen?,a.o]
   have C:wr.cell? ⟨w.heap.size,5,none⟩=some (.int .u64 0):=by simpa using aA wr w.heap.size 5 _ _ (0,0) a.o
   have Y:wr.frozen? ⟨w.heap.size,5,none⟩=false:=by simp[World.frozen?,a.o]
   have D:wr.cell? ⟨w.heap.size,6,none⟩=some (.int .u64 0):=by simpa using aA wr w.heap.size 6 _ _ (0,0) a.o
   have Z:wr.frozen? ⟨w.heap.size,6,none⟩=false:=by simp[World.frozen?,a.o]
   have E:wr.cell? ⟨w.heap.size,7,none⟩=some (.int .u64 0):=by simpa using aA wr w.heap.size 7 _ _ (0,0) a.o
   have X:wr.frozen? ⟨w.heap.size,7,none⟩=false:=by simp[World.frozen?,a.o]
   have F:wr.cell? ⟨w.heap.size,8,none⟩=some (.int .u64 0):=by simpa using aA wr w.heap.size 8 _ _ (0,0) a.o
   have U:wr.frozen? ⟨w.heap.size,8,none⟩=false:=by simp[World.frozen?,a.o]
   have v0:wr.cell? ⟨w.heap.size+1,0,none⟩=some (I6 s.size):=by simpa[aj]using aA wr (w.heap.size+1) 0 _ _ (0,0) hC.o
   have v1:wr.cell? ⟨w.heap.size+1,1,none⟩=some (.int .u64 (f 0)):=hC.o.cell 0 (by omega);have v2:wr.cell? ⟨w.heap.size+1,2,none⟩=some (.int .u64 (f 1)):=hC.o.cell 1 (by omega);have v3:wr.cell? ⟨w.heap.size+1,3,none⟩=some (.int .u64 (f 2)):=hC.o.cell 2 (by omega);have v4:wr.cell? ⟨w.heap.size+1,4,none⟩=some (.int .u64 (f 3)):=hC.o.cell 3 (by omega);have v5:wr.cell? ⟨w.heap.size+1,5,none⟩=some (.int .u64 (f 4)):=hC.o.cell 4 (by omega);have v6:wr.cell? ⟨w.heap.size+1,6,none⟩=some (.int .u64 (f 5)):=hC.o.cell 5 (by omega);have v7:wr.cell? ⟨w.heap.size+1,7,none⟩=some (.int .u64 (f 6)):=hC.o.cell 6 (by omega);have v8:wr.cell? ⟨w.heap.size+1,8,none⟩=some (.int .u64 (f 7)):=hC.o.cell 7 (by omega);clear n;go_wp2_with fail;have q:=l.o.t (jl.o.mono (by omega));refine dJ (v:=.tuple #[.agg (aj s.size f),I6 0]) (by simp[results,results362,go_sem,aj,u,x,z,A,B,C,D,E,F]) rfl ?_;exact⟨_,_,by rw[o.o],(((((((((q.setCell Jq _).setCell Jq _).setCell Jq _).setCell Jq _).setCell Jq _).setCell Jq _).setCell Jq _).setCell Jq _).setCell Jq _)⟩
theorem Gx (b off:Nat)(i:Nat)(x:Int)(w:Wq)(hi:i<256)(d:w.cell? ⟨b,off+i/64,none⟩=some (.int .u64 x)):Calls prog 386 #[.pointer (some ⟨b,off,none⟩),I6 i] w λe w'=>(∃y:Bool,e=.returned (.bool y))/\w=w':=by
 have h1:(i:Int)/64<4:=by omega
 have h2:(0:Int)<=(i:Int)/64:=by omega
 have h3:((i:Int)/64).toNat=i/64:=by omega
 have a:(0:Int)<=(i:Int)%64:=by omega
 have c:(i:Int)%64<64:=by omega
 go_enter func386,ntmps386;go_wp2_with fail;go_ret;exact⟨⟨_,rfl⟩,rfl⟩
theorem mh (M r i:Nat)(k:Int)(f:Nat->Int)(w:Wq)(hi:i<256)(hr:r<=4)(h:dY w M k f):Calls prog 386 #[.pointer (some ⟨M,1+r,none⟩),I6 i] w λe w'=>(∃y:Bool,e=.returned (.bool y))/\w=w':=by have a:=h.cell (r+i/64) (by omega);rw[<-eM]at a;exact Gx M (1+r) i _ w hi a
theorem KK (k k':Int)(f f':Nat->Int)(w:Wq):Calls prog 391 #[.agg (aj k f),.agg (aj k' f')] w λe w'=>(∃y:Bool,e=.returned (.bool y))/\JJ w w':=by have a:=Hi λo b=>((aB w.heap.size w).alloc Jq o).alloc (by simp) b;simp only[aj];go_enter func391,ntmps391;go_wp2_with fail;all_goals(go_ret;exact⟨⟨_,rfl⟩,a.o _ _⟩)
def LD (k:Int)(w:Wq)(e:Ending)(w':Wq):Prop:=(∃f:Nat->Int,e=.returned (.agg (aj k f)))/\JJ w w'
theorem Nh (k:Nat)(h1:1<=k)(h2:k<=256)(w:Wq):Calls prog 363 #[I6 k] w (LD k w):=by
 have a:=Hi λo=>(aB w.heap.size w).alloc Jq o;have a1:¬(k:Int)<1:=by omega
 have b:¬(k:Int)>256:=by omega
 clear h1 h2;go_enter func363,ntmps363;go_wp2_with fail;refine dJ (v:=.agg (aj k λ_=>0)) (by simp[results,results363,go_sem,aj]) rfl ?_;exact⟨⟨_,rfl⟩,a.o _⟩
def tT (w:Wq)(M:Nat)(k:Int)(f:Nat->Int):Wq:=((((((((w.setCell ⟨M,0,none⟩ (I6 k)).setCell ⟨M,1,none⟩ (.int .u64 (f 0))).setCell ⟨M,2,none⟩ (.int .u64 (f 1))).setCell ⟨M,3,none⟩ (.int .u64 (f 2))).setCell ⟨M,4,none⟩ (.int .u64 (f 3))).setCell ⟨M,5,none⟩ (.int .u64 (f 4))).setCell ⟨M,6,none⟩ (.int .u64 (f 5))).setCell ⟨M,7,none⟩ (.int .u64 (f 6))).setCell ⟨M,8,none⟩ (.int .u64 (f 7))
theorem sE {f:Nat->Int}(h:dY w M k f)(b:Int)(a:Nat->Int):dY (tT w M b a) M b a:=by have h0:=am w M 0 _ _ (I6 b) (show w.heap[M]?=some (.cells (aj k f) _ (0,0))from h);have h1:=am _ M 1 _ _ (.int .u64 (a 0)) h0;have h2:=am _ M 2 _ _ (.int .u64 (a 1)) h1;have h3:=am _ M 3 _ _ (.int .u64 (a 2)) h2;have c:=am _ M 4 _ _ (.int .u64 (a 3)) h3;have d:=am _ M 5 _ _ (.int .u64 (a 4)) c;have e:=am _ M 6 _ _ (.int .u64 (a 5)) d;have i:=am _ M 7 _ _ (.int .u64 (a 6)) e;have l:=am _ M 8 _ _ (.int .u64 (a 7)) i;unfold dY tT;rw[l];simp[aj]
theorem sF (w:Wq)(k:Int)(f:Nat->Int)(h:N<=M):Below N w (tT w M k f):=by unfold tT;have h0:=(aB N w).setCell (p:=⟨M,0,none⟩) h (I6 k);have h1:=h0.setCell (p:=⟨M,1,none⟩) h (.int .u64 (f 0));have h2:=h1.setCell (p:=⟨M,2,none⟩) h (.int .u64 (f 1));have h3:=h2.setCell (p:=⟨M,3,none⟩) h (.int .u64 (f 2));have a:=h3.setCell (p:=⟨M,4,none⟩) h (.int .u64 (f 3));have b:=a.setCell (p:=⟨M,5,none⟩) h (.int .u64 (f 4));have c:=b.setCell (p:=⟨M,6,none⟩) h (.int .u64 (f 5));have d:=c.setCell (p:=⟨M,7,none⟩) h (.int .u64 (f 6));exact d.setCell (p:=⟨M,8,none⟩) h (.int .u64 (f 7))
structure rh (N:Nat)(k k':Int)(f':Nat->Int)(w:Wq):Prop where
 a:∃g,dY w N k g
 b:dY w (N+1) k' f'
 c:dY w (N+1+1) 0 (λ_=>0)
theorem rh.drewN {k':Int}{f':Nat->Int}(n:Nat)(h:rh N k k' f' w):rh N k k' f' (w.drewN n):=⟨h.a,h.b,h.c⟩
theorem rh.set {k':Int}{f':Nat->Int}(h:rh N k k' f' w)(j:Nat)(a:j<8)(y:Int):rh N k k' f' (w.setCell ⟨N,1+j,none⟩ (.int .u64 y)).drew:=by obtain⟨⟨g,h1⟩,h2,h3⟩:=h;exact⟨⟨_,h1.set j a y⟩,(ig w ⟨N,1+j,none⟩ (N+1) _ (by simp)).t h2,(ig w ⟨N,1+j,none⟩ (N+1+1) _ (by simp;omega)).t h3⟩
def DZ (k:Int)(w:Wq)(e:Ending)(w':Wq):Prop:=(∃(k':Int)(f:Nat->Int)(b:Bool),e=.returned (.tuple #[.agg (aj k' f),.bool b]))/\JJ w w'
theorem LB (k k':Int)(f f':Nat->Int)(w:Wq):Calls prog 385 #[.agg (aj k f),.agg (aj k' f')] w (DZ k w):=by
 obtain⟨W,h⟩:=Jj (((w.alloc (.cells (aj k f) 387)).alloc (.cells (aj k' f') 387)).alloc (.cells (aj 0 λ_=>0) 387));have X:W.heap.size=w.heap.size+3:=by rw[<-h];simp
 have C:JJ w W:=by rw[<-h];exact(((aB w.heap.size w).alloc Jq _).alloc (by simp) _).alloc (by simp;omega) _
 have z:dY W w.heap.size k f:=by rw[<-h];unfold dY;rw[dg _ _ (by simp;omega),dg _ _ (by simp)];exact aG w _
 have c1:dY W (w.heap.size+1) k' f':=by rw[<-h];unfold dY;rw[dg _ _ (by simp)];have:=aG (w.alloc (.cells (aj k f) 387)) (.cells (aj k' f') 387);simpa using this
 have c2:dY W (w.heap.size+1+1) 0 (λ_=>0):=by rw[<-h];unfold dY;have:=aG ((w.alloc (.cells (aj k f) 387)).alloc (.cells (aj k' f') 387)) (.cells (aj 0 λ_=>0) 387);simpa using this
 simp only[aj]at h⊢;go_enter func385,ntmps385;go_upto_region 1 with fail;clear h;have zk:=Hi X;have Y:w.heap.size<W.heap.size:=by omega
 have Z:w.heap.size+1<W.heap.size:=by omega
 have l2:w.heap.size+1+1<W.heap.size:=by omega
 clear X;replace C:=Hi C;obtain⟨x0,x1,x2,x3,x4,x5,x6,x7,x8⟩:=gY z;obtain⟨E,F,G,I,J,K,L,O,P⟩:=gY c1;have Q:=Hi (KK k k' f f' W);simp only[aj]at Q;replace z:=Hi z;replace c1:=Hi c1;replace c2:=Hi c2;go_upto_region 2 with(go_at_call 391;refine Q.o.mono ?_;rintro e D ⟨⟨y,rfl⟩,jk⟩;have U:=Hi (show dY D w.heap.size k f from(jk.block _ Y).t z.o);have V:=Hi (show dY D (w.heap.size+1) k' f' from(jk.block _ Z).t c1.o);have A:=Hi (show dY D (w.heap.size+1+1) 0 (λ_=>0)from(jk.block _ l2).t c2.o);have jl:=Hi (JK C.o jk);clear jk x0 x1 x2 x3 x4 x5 x6 x7 x8 E F G I J K L O P Q;cases y)
 .go_cut[5] (λb c=>b=.bool false/\Hid (dY c (w.heap.size+1+1) 0 (λ_=>0))/\Hid (JJ w c));case first=>obtain⟨l,m,o,q,r,s,t,u,x⟩:=gY A.o;have zf:=A.o.free;go_wp2_with fail;go_meet;exact⟨rfl,Hi (sE A.o 0 (λ_=>0)),Hi (jl.o.t (sF D 0 (λ_=>0) (by omega)))⟩
  case rest=>obtain⟨rfl,hC,hB⟩:=hcut;obtain⟨l,m,o,q,r,s,t,u,x⟩:=gY hC.o;go_wp2_with fail;refine dJ (v:=.tuple #[.agg (aj 0 λ_=>0),.bool false]) (by simp[results,results385,go_sem,aj,l,m,o,q,r,s,t,u,x]) rfl ?_;exact⟨⟨_,_,_,rfl⟩,hB.o⟩
 clear z c1 c2 C Y Z l2 zk;go_loopw [5,6,12] (λb _ i wr=>∃j:Nat,j<=4/\i=I6 j/\b=.bool false/\Hid (rh w.heap.size k k' f' wr)/\Hid (JJ w wr))(λ_ _ i _=>4-(intOf i).toNat);case atStart=>exact⟨0,by omega,rfl,rfl,Hi ⟨⟨f,U.o⟩,V.o,A.o⟩,jl⟩
 case round=>
  obtain⟨j,hj,rfl,rfl,T,d⟩:=hrel;clear U V A jl;by_cases hlt:j<4
  .obtain⟨g,a⟩:=T.o.a;have o0:=a.cell (4+j) (by omega);have o1:=T.o.b.cell (4+j) (by omega);have k0:=a.cell j (by omega);have B:=T.o.b.cell j (by omega);rw[<-eM,show 1+4=5 from rfl]at o0 o1;have b0:(0:Int)<=(j:Int):=by omega
   have b1:(j:Int)<4:=by omega
   clear a;go_upto_region 6 with fail;go_cut[34] (λv c=>(∃y:Bool,v=.bool y)/\Hid (∃n,c=wr.drewN n));case first=>go_quiet(fail);go_wp2_with fail;go_meet;exact⟨⟨_,rfl⟩,Hi ⟨_,rfl⟩⟩
   case rest=>
   obtain⟨⟨y,rfl⟩,R⟩:=hcut;replace T:Hid (rh w.heap.size k k' f' wc):=Hi (by obtain⟨n,rfl⟩:=R.o;exact T.o.drewN n);replace d:Hid (JJ w wc):=Hi (by obtain⟨n,rfl⟩:=R.o;exact ar d.o n);clear R o0 o1 k0 B;cases y;case true=>
    go_upto_region 7 with fail;go_cut[5] (λb c=>b=.bool false/\Hid (dY c (w.heap.size+1+1) 0 (λ_=>0))/\Hid (JJ w c));case first=>obtain⟨l,m,o,q,r,s,t,u,x⟩:=gY T.o.c;have zf:=T.o.c.free;go_wp2_with fail;go_meet;exact⟨rfl,Hi (sE T.o.c 0 (λ_=>0)),Hi (d.o.t (sF _ 0 (λ_=>0) (by omega)))⟩
    case rest=>obtain⟨rfl,hC,hB⟩:=hcut;obtain⟨l,m,o,q,r,s,t,u,x⟩:=gY hC.o;go_wp2_with fail;refine dJ (v:=.tuple #[.agg (aj 0 λ_=>0),.bool false]) (by simp[results,results385,go_sem,aj,l,m,o,q,r,s,t,u,x]) rfl ?_;exact⟨⟨_,_,_,rfl⟩,hB.o⟩
   obtain⟨wd,rfl⟩:=Jv wc;obtain⟨g2,a⟩:=T.o.a;have k0:=a.cell j (by omega);have B:=T.o.b.cell j (by omega);have S:=a.free (1+j);clear a;go_upto_region 8 with fail;go_cut[36] (λ_ c=>Hid (∃y,c=(wd.setCell ⟨w.heap.size,1+j,none⟩ (.int .u64 y)).drew));case first=>go_region;go_wp2_with fail;go_meet;exact Hi ⟨_,rfl⟩
   case rest=>
   replace T:Hid (rh w.heap.size k k' f' wc):=Hi (by obtain⟨n,rfl⟩:=hcut.o;exact T.o.set j (by omega) n);replace d:Hid (JJ w wc):=Hi (by obtain⟨n,rfl⟩:=hcut.o;exact ar (d.o.setCell (p:=⟨w.heap.size,1+j,none⟩) Jq _) 1);clear hcut k0 B S;obtain⟨we,rfl⟩:=Jv wc;obtain⟨g3,a⟩:=T.o.a;have k0:=a.cell (4+j) (by omega);have B:=T.o.b.cell (4+j) (by omega);have S:=a.free (1+(4+j));rw[<-eM,show 1+4=5 from rfl]at k0 B S;clear a;have T2:=Hi λy=>(by have:=T.o.set (4+j) (by omega) y;rwa[<-eM,show 1+4=5 from rfl]at this:rh w.heap.size k k' f' (we.setCell ⟨w.heap.size,5+j,none⟩ (.int .u64 y)).drew);have qz:=Hi λy=>ar (d.o.setCell (p:=⟨w.heap.size,5+j,none⟩) Jq (.int .u64 y)) 1;clear T d;go_wp2_with fail;go_region;go_wp2_with fail;go_roundw;case rel=>exact⟨j+1,by omega,by go_num,rfl,Hi (T2.o _),Hi (qz.o _)⟩
   case measure=>simp[intOf];omega
  .obtain⟨g,a⟩:=T.o.a;obtain⟨x0,x1,x2,x3,x4,x5,x6,x7,x8⟩:=gY a;obtain⟨l,m,o,q,r,s,t,u,x⟩:=gY T.o.c;have zf:=T.o.c.free;clear a;go_wp2_with fail;obtain⟨E,F,G,I,J,K,L,O,P⟩:=gY (sE T.o.c k g);unfold tT at E F G I J K L O P;refine dJ (v:=.tuple #[.agg (aj k g),.bool true]) (by simp[results,results385,go_sem,aj,E,F,G,I,J,K,L,O,P]) rfl ?_;exact⟨⟨_,_,_,rfl⟩,d.o.t (sF _ k g (by omega))⟩
def uE (k:Nat)(w:Wq)(e:Ending)(w':Wq):Prop:=(∃s:Wz,e=.returned (.string s)/\s.size=k)/\JJ w w'
theorem K3 (k:Nat)(G:k<=256)(f:Nat->Int)(w:Wq):Calls prog 365 #[.agg (aj k f)] w (uE k w):=by
 obtain⟨W,a⟩:=Jj (w.alloc (.cells (aj k f) 387));have l:Hid (dY W w.heap.size k f):=Hi (Jy a);have n:Hid (JJ w W):=Hi (by rw[<-a];exact(aB w.heap.size w).alloc Jq _);have s:Hid (W.heap.size=w.heap.size+1):=Hi (by rw[<-a];simp);have t:=Nr W k (by omega);have D:W.cell? ⟨w.heap.size,0,none⟩=some (I6 k):=by rw[aA W _ _ _ _ _ l.o];rfl
 obtain⟨h,d⟩:=Jj (W.alloc (.cells (madeCells #[.int .u8 0] k) 5 (0,0)));have r:Hid (im h W.heap.size (.slice (some ⟨W.heap.size,0,none⟩) k k) (List.replicate k 0)):=Hi (by rw[<-d];exact im.made W k (by unfold maxLen;omega));have jn:Hid (JJ W h):=Hi (by rw[<-d];exact(aB W.heap.size W).alloc Jq _);have u:=Hi (JK n.o jn.o);have c1:=Hi (show dY h w.heap.size k f from(jn.o.block _ (by rw[s.o];omega)).t l.o);rw[d]at t;have q:Hid ((List.replicate k (0:Int)).length=k):=Hi (by simp);generalize List.replicate k (0:Int)=xs0 at*;have A:w.heap.size<=W.heap.size:=n.o.size;clear l n jn;simp only[aj]at a⊢;go_enter func365,ntmps365;go_wp2_with fail;clear a d t D;go_loopw [4,10] (λ_ i wr=>∃(j:Nat)(xs:List Int),j<=k/\i=I6 j/\Hid (xs.length=k)/\Hid (im wr W.heap.size (.slice (some ⟨W.heap.size,0,none⟩) k k) xs)/\Hid (dY wr w.heap.size k f)/\Hid (JJ w wr)) (λ_ i _=>k-(intOf i).toNat);case atStart=>exact⟨0,xs0,by omega,rfl,q,r,c1,u⟩
 case round=>
  obtain⟨j,xs,F,rfl,jy,b,hC,hB⟩:=hrel;clear q r c1 u;by_cases hlt:j<k
  .obtain⟨cx,I⟩:=b.o.cell jy.o.symm hlt;have J:wr.frozen? ⟨W.heap.size,j,none⟩=false:=World.ownsRow.frozenAt (by have:=b.o;unfold im at this;rw[jy.o]at this;exact this) j;have m:=Hi (mh w.heap.size 0 j k f wr (by omega) (by omega) hC.o);have o:=Hi (mh w.heap.size 4 j k f wr (by omega) (by omega) hC.o);have x:Hid (∀c,im (wr.setCell ⟨W.heap.size,j,none⟩ (.int .u8 c)) W.heap.size (.slice (some ⟨W.heap.size,0,none⟩) k k) (xs.set j c)):=Hi λc=>b.o.set jy.o.symm j c;have B:Hid (∀c:Int,(xs.set j c).length=k):=Hi λc=>by rw[dX];exact jy.o
   have z:Hid (∀c,dY (wr.setCell ⟨W.heap.size,j,none⟩ (.int .u8 c)) w.heap.size k f):=Hi λc=>(ig wr ⟨W.heap.size,j,none⟩ w.heap.size _ (by have:=s.o;simp;omega)).t hC.o;have C:Hid (∀c,JJ w (wr.setCell ⟨W.heap.size,j,none⟩ (.int .u8 c))):=Hi λc=>hB.o.setCell (p:=⟨W.heap.size,j,none⟩) A _;clear b hC hB jy;simp only[eG]at m;go_wp2_with(first|(go_at_call 386;refine m.o.mono ?_;rintro e w' ⟨⟨y,rfl⟩,rfl⟩;clear m;cases y)|(go_at_call 386;refine o.o.mono ?_;rintro e w' ⟨⟨y,rfl⟩,rfl⟩;clear o;cases y));all_goals
    go_roundw;case rel=>exact⟨j+1,_,by omega,by go_num,Hi (B.o _),Hi (x.o _),Hi (z.o _),Hi (C.o _)⟩
    case measure=>simp[intOf];omega
  .have E:=tU b.o rfl;go_wp2_with fail;go_ret;exact⟨⟨_,rfl,by rw[pn];exact jy.o⟩,hB.o⟩
def yq (w:Wq)(a:Nat)(v:Value)(k:Int)(fs:List (Nat->Int)):Prop:=w.ownsRow a 387 9 v fs.length (fs.map λf=>(aj k f).toList).flatten
theorem yU (M r i:Nat)(k:Int)(f:Nat->Int)(w:Wq)(hi:i<256)(hr:r<=4)(h:dY w M k f):Calls prog 384 #[.pointer (some ⟨M,1+r,none⟩),I6 i] w λe w'=>e=.returned (.tuple #[])/\∃j y f',w'=(w.setCell ⟨M,j,none⟩ (.int .u64 y)).drew/\dY w' M k f':=by have a:=h.cell (r+i/64) (by omega);have hf:=h.free (1+r+i/64);rw[<-eM]at a;refine(xW M (1+r) i _ w hi a hf).mono ?_;rintro e w' ⟨rfl,y,rfl⟩;have b:=h.set (r+i/64) (by omega) y;rw[<-eM]at b;exact⟨rfl,_,y,_,rfl,b⟩
structure Sp (N:Nat)(k k':Int)(f':Nat->Int)(w0:Wq)(v:Value)(fs:List (Nat->Int))(w:Wq):Prop where
 a:∃g,dY w N k g
 b:dY w (N+1) k' f'
 r:yq w (N+2) v k fs
 o:Below N w0 w
section
variable {N H:Nat} {k k':Int} {f' g:Nat→Int} {w0 w w':Wq} {v:Value} {fs:List (Nat→Int)}
theorem Sp.putA {g:Nat->Int}(h:Sp N k k' f' w0 v fs w)(b:dY ((w.setCell ⟨N,j,none⟩ (.int .u64 y)).drew) N k g):Sp N k k' f' w0 v fs ((w.setCell ⟨N,j,none⟩ (.int .u64 y)).drew):=⟨⟨g,b⟩,(ig w ⟨N,j,none⟩ (N+1) _ (by simp)).t h.b,aR h.r (a:=⟨N,j,none⟩) (show N<N+2 by omega) _,ar (h.o.setCell (p:=⟨N,j,none⟩) Jq _) 1⟩
theorem Sp.putO (h:Sp N k k' f' w0 v fs w)(f:N+2<=H)(e:v.ownBlock≠some H):Sp N k k' f' w0 v fs ((w.setCell ⟨H,j,none⟩ (.int .u64 y)).drew):=by obtain⟨⟨g,b⟩,c,hr,d⟩:=h;exact⟨⟨g,(ig w ⟨H,j,none⟩ N _ (by simp;omega)).t b⟩,(ig w ⟨H,j,none⟩ (N+1) _ (by simp;omega)).t c,bW hr (a:=⟨H,j,none⟩) e _,ar (d.setCell (p:=⟨H,j,none⟩) (show N<=H by omega) _) 1⟩
theorem Sp.put1 {g:Nat->Int}(h:Sp N k k' f' w0 v fs w)(a:dY w' N k g)(b:w'=(w.setCell ⟨N,j,none⟩ (.int .u64 y)).drew):Sp N k k' f' w0 v fs w':=by subst b;exact h.putA a
theorem Sp.put2 (h:Sp N k k' f' w0 v fs w)(a:N+2<=H)(b:v.ownBlock≠some H)(c:w'=(w.setCell ⟨H,j,none⟩ (.int .u64 y)).drew):Sp N k k' f' w0 v fs w':=by subst c;exact h.putO a b
theorem DF (k:Int)(g:Nat->Int):∀u∈(aj k g).toList,u.oneCell'=true:=by intro u a;simp only[aj,dN,bG,jf]at a;rcases a with rfl|rfl|rfl|rfl|rfl|rfl|rfl|rfl|rfl<;>rfl
theorem Sp.lt (h:Sp N k k' f' w0 v fs w):N+2<=w.heap.size:=by have:N+1<w.heap.size:=(Array.getElem?_eq_some_iff.1 h.b).1;omega
theorem Sp.up (h:Sp N k k' f' w0 v fs w)(a:JJ w w'):Sp N k k' f' w0 v fs w':=by
 have n:=h.lt;obtain⟨⟨g,d⟩,m,hr,e⟩:=h;refine⟨⟨g,(a.block _ (by omega)).t d⟩,(a.block _ (by omega)).t m,?_,e.t (a.mono (by omega))⟩;obtain⟨h1,h2|⟨c,cap,l,f,i,b,h3⟩⟩:=hr
 .exact⟨h1,.inl h2⟩
 .exact⟨h1,.inr ⟨c,cap,l,f,i,(a.block _ (Array.getElem?_eq_some_iff.1 b).1).t b,h3⟩⟩
theorem Sp.app {o:Obj}{a:Wq}{l:Value}(h:Sp N k k' f' w0 v fs w)(p:a.ownsRow (N+2) 387 9 l (fs.length+1) ((fs.map λf=>(aj k f).toList).flatten++(aj k g).toList))(c:(w.alloc o).grownBy a v.ownBlock):Sp N k k' f' w0 l (fs++[g]) a:=by
 have r:=h.lt;have h2:=h.up (Jz.alloc Jq o);have d:∀b,b<N+2->a.heap[b]?=(w.alloc o).heap[b]?:=λb q=>c.block b (by simp;omega) λe=>by have:=(K0 h.r b e.symm).1;omega
 obtain⟨m,n⟩:=h2.a;refine⟨⟨m,(d N (by omega)).t n⟩,(d (N+1) (by omega)).t h2.b,?_,h2.o.grown c (by simp;omega) λi hi=>by have:=(K0 h.r i hi).1;omega⟩;unfold yq;simpa using p
end
theorem Hr:(prog.info? 387).map (λi=>(i.zero,i.size,i.bytes))=some (some (.agg (aj 0 λ_=>0)),9,72):=by kernel_rfl
def AS (k:Nat)(w:Wq)(e:Ending)(w':Wq):Prop:=∃v fs,e=.returned v/\fs.length<=256/\yq w' w.heap.size v k fs/\JJ w w'
theorem ID (k:Nat)(hk:k<=256)(k':Int)(f f':Nat->Int)(w:Wq):Calls prog 364 #[.agg (aj k f),.agg (aj k' f')] w (AS k w):=by
 obtain⟨W,E⟩:=Jj ((w.alloc (.cells (aj k f) 387)).alloc (.cells (aj k' f') 387));have hz:W.heap.size=w.heap.size+2:=by rw[<-E];simp
 have hb:Hid (JJ w W):=Hi (by rw[<-E];exact((aB w.heap.size w).alloc Jq _).alloc (by simp) _);have X:dY W w.heap.size k f:=by rw[<-E];unfold dY;rw[dg _ _ (by simp)];exact aG w _
 have c1:dY W (w.heap.size+1) k' f':=by rw[<-E];unfold dY;have:=aG (w.alloc (.cells (aj k f) 387)) (.cells (aj k' f') 387);simpa using this
 have Z:=Hi (LB k k' f f' W);obtain⟨c,m,n,p,q,r,s,t,u⟩:=gY X;obtain⟨y0,y1,y2,y3,y4,y5,y6,y7,y8⟩:=gY c1;simp only[DZ,aj]at E Z⊢;go_enter func364,ntmps364;go_upto_region 2 with(go_at_call 385;refine Z.o.mono ?_;rintro e D ⟨⟨k2,C,bb,rfl⟩,jk⟩;simp only[aj];have d0:=Hi (show dY D w.heap.size k f from(jk.block _ (by omega)).t X);have d1:=Hi (show dY D (w.heap.size+1) k' f' from(jk.block _ (by omega)).t c1);have jl:=Hi (JK hb.o jk);clear jk c m n p q r s t u y0 y1 y2 y3 y4 y5 y6 y7 y8 Z X c1);clear E hb hz;have b:Hid (∀o,Sp w.heap.size k k' f' w (.slice none 0 0) [] (D.alloc o)):=Hi λo=>Sp.up ⟨⟨f,d0.o⟩,d1.o,⟨rfl,.inl ⟨rfl,rfl⟩⟩,jl.o⟩ (Jz.alloc Jq o);cases bb
 .obtain⟨g,a⟩:=(b.o (.cells (aj k2 C) 387)).a;obtain⟨c,m,n,p,q,r,s,t,u⟩:=gY a;simp only[aj]at c m n p q r s t u;clear a;have qs:Hid (∀o1 o2,JJ w ((D.alloc o1).alloc o2)):=Hi λo1 o2=>(jl.o.alloc jl.o.size _).alloc (by have:=jl.o.size;simp;omega) _;clear b;go_wp2_with fail;go_ret;exact⟨_,[g],rfl,by simp,⟨by simp[aj],.inr ⟨D.heap.size+1,1,aj k g,rfl,by have:=jl.o.size;omega,by have:=aG (D.alloc (.cells (aj k2 C) 387)) (.cells (aj k g) 387);simpa[aj]using this,by simp,by decide,by simp[aj],by simp[aj]⟩⟩,qs.o _ _⟩
 obtain⟨V,q5⟩:=Jj (D.alloc (.cells (aj k2 C) 387));replace b:Hid (Sp w.heap.size k k' f' w (.slice none 0 0) [] V):=Hi (by rw[<-q5];exact b.o _);obtain⟨g0,a⟩:=b.o.a;have c:V.cell? ⟨w.heap.size,0,none⟩=some (I6 k):=by rw[aA V _ _ _ _ _ a];rfl
 clear d0 d1 jl a;simp only[aj]at q5;go_wp2_with fail;clear c q5;obtain⟨i0,hi,Q,R,S⟩:=mc Hr;replace hi:=Hi hi;replace Q:=Hi Q;replace R:=Hi R;replace S:=Hi S;go_loopw [7,8,9,22] (λv _ _ i wr=>∃(j:Nat)(fs:List (Nat->Int)),j<=k/\i=I6 j/\fs.length<=j/\Hid (Sp w.heap.size k k' f' w v fs wr)) (λ_ _ _ i _=>k-(intOf i).toNat);case atStart=>exact⟨0,[],by omega,rfl,by simp,b⟩
 case round=>
  obtain⟨j,fs,hj,rfl,hfl,z⟩:=hrel;clear b;by_cases hlt:j<k
  .obtain⟨g,a⟩:=z.o.a;have K:=Hi (mh w.heap.size 0 j k g wr (by omega) (by omega) a);have L:=Hi (mh (w.heap.size+1) 0 j k' f' wr (by omega) (by omega) z.o.b);simp only[eG]at K L;go_upto_region 8 with fail;go_cut[33] (λv G=>G=wr/\∃y:Bool,v=.bool y);case first=>go_wp2_with(first|(go_at_call 386;refine K.o.mono ?_;rintro e w' ⟨⟨y,rfl⟩,rfl⟩;clear K;cases y)|(go_at_call 386;refine L.o.mono ?_;rintro e w' ⟨⟨y,rfl⟩,rfl⟩;clear L;cases y));all_goals go_meet;exact⟨rfl,_,rfl⟩
   case rest=>
   obtain⟨rfl,y,rfl⟩:=hcut;clear K L;cases y;case true=>
    go_wp2_with fail;go_roundw;case rel=>exact⟨j+1,fs,by omega,by go_num,by omega,z⟩
    case measure=>simp[intOf];omega
   have x:=Hi (yU w.heap.size 0 j k g wc (by omega) (by omega) a);simp only[eG]at x;clear a;obtain⟨wd,rfl⟩:=Jv wc;go_upto_region 9 with fail;go_cut[36] (λ_ G=>Hid (Sp w.heap.size k k' f' w u7 fs G));case first=>go_wp2_with(go_at_call 384;refine x.o.mono ?_;rintro e w' ⟨rfl,jj,y,C,rfl,A⟩;have qy:=Hi (z.o.putA A);clear A);go_meet;exact qy
   case rest=>
   clear x z;have J:=hcut;clear hcut;obtain⟨l,rfl⟩:=Jv wc;obtain⟨g2,a⟩:=J.o.a;obtain⟨c,m,n,p,q,r,s,t,u⟩:=gY a;clear a;go_upto_region 10 with fail;go_cut[9] (λv G=>v=.pointer (some ⟨l.heap.size,0,none⟩)/\Hid (dY G l.heap.size k g2)/\Hid (Sp w.heap.size k k' f' w u7 fs G));case first=>have qy:=Hi λo=>J.o.up (Jz.alloc Jq o);go_wp2_with fail;go_meet;exact⟨rfl,Hi (aG l _),qy.o _⟩
   case rest=>
   have hH:=J.o.lt;have hv:Hid (u7.ownBlock≠some l.heap.size):=Hi λe=>by have:=(K0 J.o.r _ e).2;omega
   obtain⟨rfl,P,b⟩:=hcut;clear J;obtain⟨T,rfl⟩:=Jv wc;have Y:=Hi (mh (w.heap.size+1) 4 j k' f' T (by omega) (by omega) b.o.b);obtain⟨g3,a⟩:=b.o.a;have x:=Hi (yU w.heap.size 4 j k g3 T (by omega) (by omega) a);have O:=Hi (yU l.heap.size 4 j k g2 T (by omega) (by omega) P.o);clear a c m n p q r s t u;have qw:l.heap.size≠w.heap.size:=by omega
   simp only[Nat.reduceAdd]at x O Y;go_wp2_with(go_at_call 386;refine Y.o.mono ?_;rintro e w' ⟨⟨y,rfl⟩,rfl⟩;clear Y;cases y)
   .refine O.o.mono ?_;rintro e h ⟨rfl,jj,y,C,F,A⟩;have B:=Hi (b.o.put2 hH hv.o F);obtain⟨d,q2⟩:∃d,Hid (dY h l.heap.size k d):=⟨C,Hi A⟩;obtain⟨c,m,n,p,q,r,s,t,u⟩:=gY q2.o;have vn:=B.o.lt;clear F A x O b P;go_wp2_with(at_builtin;refine wpList_append_lies _ rfl (.tmp 47) (.tmp 49) _ rfl (w.heap.size+2) 387 i0 _ 9 72 underlying390 hi.o Q.o R.o S.o rfl (by decide) u7 fs.length _ rfl (jQ B.o.r _) ⟨h.heap.size,0,none⟩ 1 1 (aj k d).toList rfl rfl (World.news_of_block (aG h _)) (DF k d) (by decide) (by unfold maxLen;omega) (by omega) (by simp;omega) (h.heap.size+1) (by simp) ?_;intro g' q6 w4 jm I j3 j4;have U:=Hi (B.o.app jm I);clear jm I j3 j4 c m n p q r s t u);go_roundw;case rel=>exact⟨j+1,_,by omega,by go_num,by simp;omega,U⟩
    case measure=>simp[intOf];omega
   .refine x.o.mono ?_;rintro e h ⟨rfl,jj,y,C,F,A⟩;have B:=Hi (b.o.put1 A F);obtain⟨d,q2⟩:∃d,Hid (dY h l.heap.size k d):=⟨g2,Hi (by subst F;exact(ig T ⟨w.heap.size,jj,none⟩ l.heap.size _ qw).t P.o)⟩;obtain⟨c,m,n,p,q,r,s,t,u⟩:=gY q2.o;have vn:=B.o.lt;clear F A x O b P;go_wp2_with(at_builtin;refine wpList_append_lies _ rfl (.tmp 47) (.tmp 49) _ rfl (w.heap.size+2) 387 i0 _ 9 72 underlying390 hi.o Q.o R.o S.o rfl (by decide) u7 fs.length _ rfl (jQ B.o.r _) ⟨h.heap.size,0,none⟩ 1 1 (aj k d).toList rfl rfl (World.news_of_block (aG h _)) (DF k d) (by decide) (by unfold maxLen;omega) (by omega) (by simp;omega) (h.heap.size+1) (by simp) ?_;intro g' q6 w4 jm I j3 j4;have U:=Hi (B.o.app jm I);clear jm I j3 j4 c m n p q r s t u);go_roundw;case rel=>exact⟨j+1,_,by omega,by go_num,by simp;omega,U⟩
    case measure=>simp[intOf];omega
  .have HF:Hid (AS k w (.returned u7) wr):=Hi ⟨u7,fs,rfl,by omega,Go.Joins.ownsRow_le z.o.r (by omega),z.o.o⟩;clear z;go_wp2_with fail;go_ret;exact HF.o
theorem M1 (l:bM)(d:Nat)(h:d<=l.length):((⟨l.toArray⟩:Wz).extract 0 d).data.toList.length=d:=by
 have e:((⟨l.toArray⟩:Wz).extract 0 d).size=d:=by
  rw[gD];have:(⟨l.toArray⟩:Wz).size=l.length:=by simp[ByteArray.size]
  omega
 exact e
theorem Fi (c:Nat)(U:c<=256)(w:Wq):Calls prog 287 #[.string ⟨#[120]⟩,I6 c] w (uE c w):=by
 by_cases h0:c=0
 .subst h0;have f:=Hi (aB w.heap.size w);go_enter func287,ntmps287;go_wp2_with fail;go_ret;exact⟨⟨_,rfl,rfl⟩,f.o⟩
 by_cases h1:c=1
 .subst h1;have f:=Hi (aB w.heap.size w);go_enter func287,ntmps287;go_wp2_with fail;go_ret;exact⟨⟨_,rfl,rfl⟩,f.o⟩
 have h2:2<=c:=by omega
 have S:((c:Int)==0)=false:=by simp[h0]
 have T:((c:Int)==1)=false:=by simp;omega
 have a:=bits_Mul 1 c (by omega) (by omega) w;rw[IK,Nat.div_eq_of_lt (by omega),Nat.mod_eq_of_lt (by omega)]at a;replace a:=Hi (a.mono (R':=λe w'=>e=.returned (.tuple #[.int .u64 (0:Nat),.int .u64 c])/\w=w') λ_ _ h=>⟨h.1,h.2.symm⟩);have B:=Hi (show JJ w (w.alloc (.cells #[.pointer none,.slice none 0 0] 179 (0,0)))from Jz.alloc Jq _);have A:=Hi (Builder_Grow_fresh w.heap.size w.heap.size c (w.alloc (.cells #[.pointer none,.slice none 0 0] 179 (0,0))) Jq (aG w _) (by simp) (by omega));clear h0 h1;go_enter func287,ntmps287;go_wp2_with(first|(go_at_call 325;refine a.o.mono ?_;rintro e w' ⟨rfl,rfl⟩;clear a)|(go_at_call 183;refine A.o.mono ?_;rintro e L ⟨rfl,vl,jk⟩;have hA2:=Hi (FB Q9 w.heap.size w.heap.size [] ⟨#[120]⟩ L (.inr (Lib.BuilderAtF.of vl)) (by decide) (by have:=jk.size;simp at this;omega));have C:=Hi (B.o.t jk);clear vl jk A B)|(go_at_call 184;refine hA2.o.mono ?_;rintro e w3 ⟨⟨v,rfl⟩,E,b,r⟩;have P:=Hi (C.o.t b);have K:=Hi E;clear E b r hA2 C));go_loopg [10] (c-1) (λk _ wr=>∃l:bM,l≠[]/\k+l.length=c/\Hid (FL 179 w.heap.size w.heap.size l wr)/\Hid (JJ w wr));case atStart=>exact⟨[120],by simp,by simp;omega,K,P⟩
 case round=>
  obtain⟨l,n,i,hB,f⟩:=hrel;obtain⟨m,a⟩:∃m,m=l.length:=⟨_,rfl⟩;have O:1<=m:=by rw[a];exact List.length_pos_iff.2 n
  have o:=Hi (Kk w.heap.size w.heap.size l wr hB.o);have z:=Hi (AP w.heap.size w.heap.size l wr hB.o n);rw[<-a]at o i;replace a:=Hi a;replace n:=Hi n;replace i:=Hi i;have Y:m<=c:=by have:=i.o;omega
  by_cases hlt:m<c
  .have I:(m:Int)<(c:Int):=by omega
   obtain⟨d,G,V,W,X⟩:∃d:Nat,(if(m:Int)<(c:Int)-(m:Int)then(m:Int)else(c:Int)-(m:Int))=(d:Int)/\1<=d/\d<=m/\m+d<=c:=by
    by_cases h:(m:Int)<(c:Int)-(m:Int)
    .exact⟨m,by rw[ax h],O,al _,by omega⟩
    .exact⟨c-m,by rw[ap h];omega,by omega,by omega,by omega⟩
   go_upto_region 40 with(go_at_call 124;refine o.o.mono ?_;rintro e w' ⟨rfl,rfl⟩);clear G o;obtain⟨x,p⟩:∃x,x=(⟨l.toArray⟩:Wz).extract 0 d:=⟨_,rfl⟩;have jy:Hid (x.data.toList.length=d):=Hi (by rw[p];exact M1 l d (by have:=a.o;omega));have J:((⟨l.toArray⟩:Wz).size:Int)=(m:Int):=by rw[a.o];simp[ByteArray.size]
   go_wp2_with(first|(go_at_call 125;refine z.o.mono ?_;rintro e F ⟨rfl,t,b,r⟩;have q:=Hi (f.o.t b);have s:=Hi (FB Q9 w.heap.size w.heap.size l x F t (by have h1:=jy.o;have h2:=a.o;have:x.size=x.data.toList.length:=rfl;omega) (by have:=q.o.size;omega));clear t b r));rw[p]at s;refine s.o.mono ?_;rintro e w5 ⟨⟨Z,rfl⟩,u,D,_⟩;rw[<-p]at u;have R:=Hi u;have Q:=Hi (q.o.t D);clear u D s p J;go_wp2_with fail;go_roundg (c-(m+d));case measure=>have:=i.o;omega
   case rel=>exact⟨l++x.data.toList,by have:=n.o;simp[this],by rw[aC];have h1:=jy.o;have h2:=a.o;have:(x.data.toList).length=d:=h1;omega,R,Q⟩
  .have I:¬(m:Int)<(c:Int):=by omega
   have vb:m=c:=by omega
   replace vb:=Hi vb;go_wp2_with(first|(go_at_call 124;refine o.o.mono ?_;rintro e w' ⟨rfl,rfl⟩)|(go_at_call 125;refine z.o.mono ?_;rintro e F ⟨rfl,t,b,r⟩;have q:=Hi (f.o.t b)));go_ret;exact⟨⟨_,rfl,by rw[<-vb.o,a.o];rfl⟩,q.o⟩
end Go.Proofs.YtgfgoaeaicefcaaGreatDoor
