/- Part of DeltaBack. -/
import Derived.Test.YtgfgoaeaicefcaaGreatDoorQA8
set_option maxHeartbeats 16000000
set_option maxRecDepth 100000
set_option linter.all false
namespace Go.Proofs.YtgfgoaeaicefcaaGreatDoor
open Go.RowKit Tryz
variable {M:Nat}{w:Wq}{v:Value}
def Im (kind:Int)(text:Wz)(line col:Int):List Value:=[I6 kind,.string text,I6 line,I6 col]
theorem Q4:qZ 71 198 4 40:=qZ.mk' underlying71 (z:=.agg #[I6 0,.string ByteArray.empty,I6 0,I6 0]) (by kernel_rfl) rfl (by decide)
theorem Cd {c n:Nat}{m:lN}{xs:List Value}(h:w.ownsRow c 198 4 v n xs)(b:dW w M m):v.ownBlock≠some M:=by
 rcases h.2 with⟨rfl,_⟩|⟨g,_,_,rfl,_,a,_⟩
 .simp[Value.ownBlock]
 .intro e;have e:g=M:=by simpa[Value.ownBlock]using e
  subst e;unfold dW at b;rw[b]at a;injection a with a;injection a with _ h _;cases h
section
variable {w W W7:Wq} {M n:Nat} {m:lN} {xs us:List Value} {u:Value}
theorem HL (c:dW w M m)(f:w.ownsRow (M+1) 198 4 m.toks n xs)(b:JJ w W)(e:W.grownBy W7 m.toks.ownBlock)(hB:Below (M+1) W W7)(d:W7.ownsRow (M+1) 198 4 u (n+1) (xs++us)):dW W7 M m/\dW (W7.setCell ⟨M,5,none⟩ u) M {m with toks:=u}/\(W7.setCell ⟨M,5,none⟩ u).ownsRow (M+1) 198 4 u (n+1) (xs++us)/\Below M w (W7.setCell ⟨M,5,none⟩ u):=by have jn:=c.lt;have h1:dW W7 M m:=c.of_block ((hB.block M (by omega)).t (b.block M jn));exact⟨h1,h1.set 5 u rfl,aR d (a:=⟨M,5,none⟩) (by show M<M+1;omega) u,((b.mono (bD jn)).t (hB.mono (by omega))).setCell (p:=⟨M,5,none⟩) (al M) u⟩
theorem Cm (c:dW W M m)(d:W.ownsRow (M+1) 198 4 m.toks n xs)(hB:Below M w W):dW ((((W.setCell ⟨M,4,none⟩ (.bool false)).setCell ⟨M,1,none⟩ (I6 ((m.pos:Int)+1))).setCell ⟨M,2,none⟩ (I6 (m.line+1))).setCell ⟨M,3,none⟩ (I6 1)) M {m with pos:=m.pos+1,line:=m.line+1,col:=1,opn:=false}/\((((W.setCell ⟨M,4,none⟩ (.bool false)).setCell ⟨M,1,none⟩ (I6 ((m.pos:Int)+1))).setCell ⟨M,2,none⟩ (I6 (m.line+1))).setCell ⟨M,3,none⟩ (I6 1)).ownsRow (M+1) 198 4 m.toks n xs/\Below M w ((((W.setCell ⟨M,4,none⟩ (.bool false)).setCell ⟨M,1,none⟩ (I6 ((m.pos:Int)+1))).setCell ⟨M,2,none⟩ (I6 (m.line+1))).setCell ⟨M,3,none⟩ (I6 1)):=by have o:=λ(w:Wq)(i:Nat)(v:Value)(h:w.ownsRow (M+1) 198 4 m.toks n xs)=>aR h (a:=⟨M,i,none⟩) (by show M<M+1;omega) v;have b:=λ(W:Wq)(i:Nat)(v:Value)(h:Below M w W)=>h.setCell (p:=⟨M,i,none⟩) (al M) v;exact⟨(((c.set (m':={m with opn:=false}) 4 _ rfl).set (m':={m with pos:=m.pos+1,opn:=false}) 1 _ rfl).set (m':={m with pos:=m.pos+1,line:=m.line+1,opn:=false}) 2 _ rfl).set 3 _ rfl,o _ _ _ (o _ _ _ (o _ _ _ (o _ _ _ d))),b _ _ _ (b _ _ _ (b _ _ _ (b _ _ _ hB)))⟩
theorem sw (h:dW w M m):w.cell? ⟨M,0,none⟩=some (.string m.text)/\w.cell? ⟨M,1,none⟩=some (I6 m.pos)/\w.cell? ⟨M,2,none⟩=some (I6 m.line)/\w.cell? ⟨M,3,none⟩=some (I6 m.col)/\w.cell? ⟨M,4,none⟩=some (.bool m.opn)/\w.cell? ⟨M,5,none⟩=some m.toks/\w.frozen? ⟨M,1,none⟩=false/\w.frozen? ⟨M,2,none⟩=false/\w.frozen? ⟨M,3,none⟩=false/\w.frozen? ⟨M,4,none⟩=false/\w.frozen? ⟨M,5,none⟩=false:=⟨h.c0,h.c1,h.c2,h.c3,h.c4,h.c5,h.free 1,h.free 2,h.free 3,h.free 4,h.free 5⟩
theorem C7 (M:Nat)(m:lN)(n:Nat)(xs:List Value)(w:Wq)(a:dW w M m)(jk:w.ownsRow (M+1) 198 4 m.toks n xs)(Q:n<=8589934592)(R:m.pos<=m.text.size)(ht:m.text.size<=4294967295)(O:0<=m.line)(P:m.line<=4611686018427387904):Calls prog 135 #[.pointer (some ⟨M,0,none⟩)] w λe w'=>e=.returned (.tuple #[])/\∃v,dW w' M {m with pos:=m.pos+1,line:=m.line+1,col:=1,opn:=false,toks:=v}/\w'.ownsRow (M+1) 198 4 v (if m.opn then n+1 else n) (if m.opn then xs++Im 1 ⟨#[10]⟩ m.line m.col else xs)/\Below M w w':=by
 obtain⟨text,pos,line,col,opn,toks⟩:=m;dsimp only at*;have K:=wS pos (by omega);have J:IntKind.i64.wrap (line+1)=line+1:=bu _ (by omega);obtain⟨_,f,g,h,q4,i,k,l,o,p,q⟩:=sw a;dsimp only at f g h q4 i;cases opn
 .replace a:=Hi a;replace jk:=Hi jk;go_enter func135,ntmps135;go_wp2_with fail;go_end0;obtain⟨b,c,d⟩:=Cm a.o jk.o (aB M w);dsimp only at b c d;exact⟨rfl,toks,b,c,d⟩
 have jl:JJ w (w.alloc (.cells #[I6 1,.string ⟨#[10]⟩,I6 line,I6 col] 198 (0,0))):=Jz.alloc Jq _;obtain⟨_,C,D,E,F,G,_⟩:=sw (a.of_block (jl.block M a.lt));have s:=Hi a;have t:=Hi jk;have x:=Hi jl.drew;dsimp only at C D E F G;clear a jk jl;go_enter func135,ntmps135;go_upto_region 1 with fail;go_region_law (refine ic Q4 (by rfl) (.tmp 10) (.tmp 20) (by rfl) (M+1) n toks xs (by rfl) (aU t.o x.o) w.heap.size [I6 1,.string ⟨#[10]⟩,I6 line,I6 col] rfl (by exact aG w _) (by simp) (by rfl) (oc _ rfl) (by omega) (by unfold maxLen;omega) (by have:=s.o.lt;simp;omega) ?_;rintro u S ⟨N,L,rfl,r,y,hB,_,_⟩;have j:=Hi (HL s.o t.o x.o y hB r);obtain⟨_,_,_,_,_,H,_,_,_,_,I⟩:=sw j.o.1;dsimp only at H;clear r y hB);all_goals obtain⟨_,b,c,d⟩:=j.o;clear f g h q4 i k l o p q C D E F G H I;generalize World.setCell _ ⟨M,5,none⟩ _=W at*;obtain⟨_,f,g,h,q4,i,k,l,o,p,q⟩:=sw b;dsimp only at f g h q4 i;replace b:=Hi b;replace c:=Hi c;replace d:=Hi d;clear j;go_wp2_with fail;go_end0;obtain⟨z,A,B⟩:=Cm b.o c.o d.o;dsimp only at z A B;exact⟨rfl,_,z,A,B⟩
end
theorem Il:(prog.info? 198).map (λi=>(i.zero,i.size,i.bytes))=some (some (.agg #[I6 0,.string ByteArray.empty,I6 0,I6 0]),4,40):=by kernel_rfl
theorem nG {i j:Nat}{u:Value}(h:w.cell? ⟨M,i,none⟩=some u)(a:j≠i):(w.setCell ⟨M,j,none⟩ v).cell? ⟨M,i,none⟩=some u:=by
 rw[QD]
 .exact h
 .intro e;exact a (congrArg Addr.off e)
attribute [local go_sem ↓] Go.wp_at_zero Go.wp_at_succ
theorem Lu (M:Nat)(m:lN)(kind:Int)(size n:Nat)(xs:List Value)(w:Wq)(t:dW w M m)(jk:w.ownsRow (M+1) 198 4 m.toks n xs)(hn:n<=8589934592)(X:m.pos+size<=m.text.size)(ht:m.text.size<=4294967295)(j8:0<=m.col)(Z:m.col<=4611686018427387904):Calls prog 134 #[.pointer (some ⟨M,0,none⟩),I6 kind,I6 size] w λe w'=>e=.returned (.tuple #[])/\∃v,dW w' M {m with pos:=m.pos+size,col:=m.col+em (m.text.extract m.pos (m.pos+size)) 0,opn:=true,toks:=v}/\w'.ownsRow (M+1) 198 4 v (n+1) (xs++Im kind (m.text.extract m.pos (m.pos+size)) m.line m.col)/\Below M w w':=by
 obtain⟨text,pos,line,col,opn,toks⟩:=m;dsimp only at*;have E:=t.c0;have F:=t.c1;have G:=t.c2;have H:=t.c3;have A:=t.c5;have V:=Hi t;have D:=Hi jk;have x:=Hi (Cd jk t);have I:=t.free 5;have jn:=t.lt;clear t;dsimp only at E F G H A;have bw:IntKind.i64.wrap ((pos:Int)+(size:Int))=(pos:Int)+(size:Int):=bu _ (by omega);have b0:(0:Int)<=(pos:Int):=by omega
 have b1:(pos:Int)<=(pos:Int)+(size:Int):=by omega
 have b2:(pos:Int)+(size:Int)<=(text.size:Int):=by omega
 obtain⟨Y,hi,J,L,N⟩:=mc Il;have hi:=Hi hi;have J:=Hi J;have L:=Hi L;have N:=Hi N;go_enter func134,ntmps134;go_wp2_with fail;have n5:=World.new_ne w ⟨M,5,none⟩ A;clear jk;refine wp_region_held_drew (S:=(λw'=>w'.cell? ⟨M,0,none⟩=some (.string text)/\w'.cell? ⟨M,1,none⟩=some (I6 pos)/\w'.cell? ⟨M,2,none⟩=some (I6 line)/\w'.cell? ⟨M,3,none⟩=some (I6 col))) (by kernel_rfl) ⟨E,F,G,H⟩ (λhHeld=>?_);refine' wpAnyH_take (i:=0) (oi:=_) (v:=_) ?a0 ?b0 ?c0 ?d0 ?e0 (Or.inl ⟨?f0,?g0⟩) hHeld ?h0;case a0=>(simp only[aQ,aN];exact rfl)
 case b0|c0|d0=>kernel_rfl
 case e0=>exact λ_ _ _ h=>h
 case f0=>rfl
 case g0=>(intro w' jf;obtain⟨b,c,d,f⟩:=jf;go_simp;(try with_reducible rfl))
 simp only[Act.put,aP,ac,ae];refine' wpAnyH_take (i:=1) (oi:=_) (v:=_) ?a1 ?b1 ?c1 ?d1 ?e1 (Or.inl ⟨?f1,?g1⟩) hHeld ?h1;case a1=>(simp only[aQ,aO,aN];exact rfl)
 case b1|c1|d1=>kernel_rfl
 case e1=>exact λ_ _ _ h=>h
 case f1=>rfl
 case g1=>(intro w' jf;obtain⟨b,c,d,f⟩:=jf;go_simp;(try with_reducible rfl))
 simp only[Act.put,aP,ac,ae];refine' wpAnyH_take (i:=2) (oi:=_) (v:=_) ?a2 ?b2 ?c2 ?d2 ?e2 (Or.inl ⟨?f2,?g2⟩) hHeld ?h2;case a2=>(simp only[aQ,aO,aN];exact rfl)
 case b2|c2|d2=>kernel_rfl
 case e2=>exact λ_ _ _ h=>h
 case f2=>rfl
 case g2=>(intro w' jf;obtain⟨b,c,d,f⟩:=jf;go_simp;(try with_reducible rfl))
 simp only[Act.put,aP,ac,ae];refine' wpAnyH_take (i:=3) (oi:=_) (v:=_) ?a3 ?b3 ?c3 ?d3 ?e3 (Or.inl ⟨?f3,?g3⟩) hHeld ?h3;case a3=>(simp only[aQ,aO,aN];exact rfl)
 case b3|c3|d3=>kernel_rfl
 case e3=>exact λ_ _ _ h=>h
 case f3=>rfl
 case g3=>(intro w' jf;obtain⟨b,c,d,f⟩:=jf;go_simp;(try with_reducible rfl))
 simp only[Act.put,aP,ac,ae];refine' wpAnyH_take (i:=5) (oi:=_) (v:=_) ?a5 ?b5 ?c5 ?d5 ?e5 (Or.inl ⟨?f5,?g5⟩) hHeld ?h5;case a5=>(simp only[aQ,aO,aN];exact rfl)
 case b5|c5|d5=>kernel_rfl
 case e5=>exact λ_ _ _ h=>h
 case f5=>rfl
 case g5=>(intro w' jf;obtain⟨b,c,d,f⟩:=jf;go_simp;(try with_reducible rfl))
 simp only[Act.put,aP,ac,ae];refine' wpAnyH_take (i:=6) (oi:=_) (v:=_) ?a6 ?b6 ?c6 ?d6 ?e6 (Or.inl ⟨?f6,?g6⟩) hHeld ?h6;case a6=>(simp only[aQ,aO,aN];exact rfl)
 case b6|c6|d6=>kernel_rfl
 case e6=>exact λ_ _ _ h=>h
 case f6=>rfl
 case g6=>(intro w' jf;obtain⟨b,c,d,f⟩:=jf;go_simp;(try with_reducible rfl))
 simp only[Act.put,aP,ac,ae];refine' wpAnyH_take (i:=7) (oi:=_) (v:=_) ?a7 ?b7 ?c7 ?d7 ?e7 (Or.inl ⟨?f7,?g7⟩) hHeld ?h7;case a7=>(simp only[aQ,aO,aN];exact rfl)
 case b7|c7|d7=>kernel_rfl
 case e7=>exact λ_ _ _ h=>h
 case f7=>rfl
 case g7=>(intro w' jf;obtain⟨b,c,d,f⟩:=jf;go_simp;(try with_reducible rfl))
 simp only[Act.put,aP,ac,ae];refine' wpAnyH_take (i:=8) (oi:=_) (v:=_) ?a8 ?b8 ?c8 ?d8 ?e8 (Or.inl ⟨?f8,?g8⟩) hHeld ?h8;case a8=>(simp only[aQ,aO,aN];exact rfl)
 case b8|c8|d8=>kernel_rfl
 case e8=>exact λ_ _ _ h=>h
 case f8=>rfl
 case g8=>(intro w' jf;obtain⟨b,c,d,f⟩:=jf;go_simp;(try with_reducible rfl))
 simp only[Act.put,aP,ac,ae];refine' wpAnyH_take (i:=9) (oi:=_) (v:=_) ?a9 ?b9 ?c9 ?d9 ?e9 (Or.inl ⟨?f9,?g9⟩) hHeld ?h9;case a9=>(simp only[aQ,aO,aN];exact rfl)
 case b9|c9|d9=>kernel_rfl
 case e9=>exact λ_ _ _ h=>h
 case f9=>rfl
 case g9=>(intro w' jf;obtain⟨b,c,d,f⟩:=jf;go_simp;(try with_reducible rfl))
 simp only[Act.put,aP,ac,ae];refine' wpAnyH_take (i:=10) (oi:=_) (v:=_) ?a10 ?b10 ?c10 ?d10 ?e10 (Or.inl ⟨?f10,?g10⟩) hHeld ?h10;case a10=>(simp only[aQ,aO,aN];exact rfl)
 case b10|c10|d10=>kernel_rfl
 case e10=>exact λ_ _ _ h=>h
 case f10=>rfl
 case g10=>(intro w' jf;obtain⟨b,c,d,f⟩:=jf;go_simp;(try with_reducible rfl))
 simp only[Act.put,aP,ac,ae];refine' wpAnyH_take (i:=11) (oi:=_) (v:=_) ?a11 ?b11 ?c11 ?d11 ?e11 (Or.inl ⟨?f11,?g11⟩) hHeld ?h11;case a11=>(simp only[aQ,aO,aN];exact rfl)
 case b11|c11|d11=>kernel_rfl
 case e11=>exact λ_ _ _ h=>h
 case f11=>rfl
 case g11=>(intro w' jf;obtain⟨b,c,d,f⟩:=jf;go_simp;(try with_reducible rfl))
 simp only[Act.put,aP,ac,ae];refine' wpAnyH_take (i:=12) (oi:=_) (v:=_) ?a12 ?b12 ?c12 ?d12 ?e12 (Or.inl ⟨?f12,?g12⟩) hHeld ?h12;case a12=>(simp only[aQ,aO,aN];exact rfl)
 case b12|c12|d12=>kernel_rfl
 case e12=>exact λ_ _ _ h=>h
 case f12=>rfl
 case g12=>(intro w' jf;obtain⟨b,c,d,f⟩:=jf;go_simp;(try with_reducible rfl))
 simp only[Act.put,aP,ac,ae];refine' wpAnyH_take (i:=13) (oi:=_) (v:=_) ?a13 ?b13 ?c13 ?d13 ?e13 (Or.inl ⟨?f13,?g13⟩) hHeld ?h13;case a13=>(simp only[aQ,aO,aN];exact rfl)
 case b13|c13|d13=>kernel_rfl
 case e13=>exact λ_ _ _ h=>h
 case f13=>rfl
 case g13=>(intro w' jf;obtain⟨b,c,d,f⟩:=jf;go_simp;(try with_reducible rfl))
 simp only[Act.put,aP,ac,ae];refine' wpAnyH_take (i:=14) (oi:=_) (v:=_) ?a14 ?b14 ?c14 ?d14 ?e14 (Or.inl ⟨?f14,?g14⟩) hHeld ?h14;case a14=>(simp only[aQ,aO,aN];exact rfl)
 case b14|c14|d14=>kernel_rfl
 case e14=>exact λ_ _ _ h=>h
 case f14=>rfl
 case g14=>(intro w' jf;obtain⟨b,c,d,f⟩:=jf;go_simp;(try with_reducible rfl))
 simp only[Act.put,aP,ac,ae];refine' wpAnyH_take (i:=15) (oi:=_) (v:=_) ?a15 ?b15 ?c15 ?d15 ?e15 (Or.inl ⟨?f15,?g15⟩) hHeld ?h15;case a15=>(simp only[aQ,aO,aN];exact rfl)
 case b15|c15|d15=>kernel_rfl
 case e15=>exact λ_ _ _ h=>h
 case f15=>rfl
 case g15=>(intro w' jf;obtain⟨b,c,d,f⟩:=jf;go_simp;(try with_reducible rfl))
 simp only[Act.put,aP,ac,ae];refine' wpAnyH_take (i:=16) (oi:=_) (v:=_) ?a16 ?b16 ?c16 ?d16 ?e16 (Or.inl ⟨?f16,?g16⟩) hHeld ?h16;case a16=>(simp only[aQ,aO,aN];exact rfl)
 case b16|c16|d16=>kernel_rfl
 case e16=>exact λ_ _ _ h=>h
 case f16=>rfl
 case g16=>(intro w' jf;obtain⟨b,c,d,f⟩:=jf;go_simp;(try with_reducible rfl))
 simp only[Act.put,aP,ac,ae];refine' wpAnyH_take (i:=17) (oi:=_) (v:=_) ?a17 ?b17 ?c17 ?d17 ?e17 (Or.inl ⟨?f17,?g17⟩) hHeld ?h17;case a17=>(simp only[aQ,aO,aN];exact rfl)
 case b17|c17|d17=>kernel_rfl
 case e17=>exact λ_ _ _ h=>h
 case f17=>rfl
 case g17=>(intro w' jf;obtain⟨b,c,d,f⟩:=jf;go_simp;(try with_reducible rfl))
 simp only[Act.put,aP,ac,ae];refine' wpAnyH_take (i:=18) (oi:=_) (v:=_) ?a18 ?b18 ?c18 ?d18 ?e18 (Or.inl ⟨?f18,?g18⟩) hHeld ?h18;case a18=>(simp only[aQ,aO,aN];exact rfl)
 case b18|c18|d18=>kernel_rfl
 case e18=>exact λ_ _ _ h=>h
 case f18=>rfl
 case g18=>(intro w' jf;obtain⟨b,c,d,f⟩:=jf;go_simp;(try with_reducible rfl))
 simp only[Act.put,aP,ac,ae];refine' wpAnyH_take (i:=19) (oi:=_) (v:=_) ?a19 ?b19 ?c19 ?d19 ?e19 (Or.inl ⟨?f19,?g19⟩) hHeld ?h19;case a19=>(simp only[aQ,aO,aN];exact rfl)
 case b19|c19|d19=>kernel_rfl
 case e19=>exact λ_ _ _ h=>h
 case f19=>rfl
 case g19=>(intro w' jf;obtain⟨b,c,d,f⟩:=jf;go_simp;(try with_reducible rfl))
 simp only[Act.put,aP,ac,ae];refine' wpAnyH_take (i:=20) (oi:=_) (v:=_) ?a20 ?b20 ?c20 ?d20 ?e20 (Or.inl ⟨?f20,?g20⟩) hHeld ?h20;case a20=>(simp only[aQ,aO,aN];exact rfl)
 case b20|c20|d20=>kernel_rfl
 case e20=>exact λ_ _ _ h=>h
 case f20=>rfl
 case g20=>(intro w' jf;obtain⟨b,c,d,f⟩:=jf;go_simp;(try with_reducible rfl))
 simp only[Act.put,aP,ac,ae];refine' wpAnyH_take (i:=21) (oi:=_) (v:=_) ?a21 ?b21 ?c21 ?d21 ?e21 (Or.inl ⟨?f21,?g21⟩) hHeld ?h21;case a21=>(simp only[aQ,aO,aN];exact rfl)
 case b21|c21|d21=>kernel_rfl
 case e21=>exact λ_ _ _ h=>h
 case f21=>rfl
 case g21=>(intro w' jf;obtain⟨b,c,d,f⟩:=jf;go_simp;(try with_reducible rfl))
 simp only[Act.put,aP,ac,ae];refine' wpAnyH_take (i:=22) (oi:=_) (v:=_) ?a22 ?b22 ?c22 ?d22 ?e22 (Or.inl ⟨?f22,?g22⟩) hHeld ?h22;case a22=>(simp only[aQ,aO,aN];exact rfl)
 case b22|c22|d22=>kernel_rfl
 case e22=>exact λ_ _ _ h=>h
 case f22=>rfl
 case g22=>(intro w' jf;obtain⟨b,c,d,f⟩:=jf;go_simp;(try with_reducible rfl))
 simp only[Act.put,aP,ac,ae];refine' wpAnyH_take (i:=23) (oi:=_) (v:=_) ?a23 ?b23 ?c23 ?d23 ?e23 (Or.inl ⟨?f23,?g23⟩) hHeld ?h23;case a23=>(simp only[aQ,aO,aN];exact rfl)
 case b23|c23|d23=>kernel_rfl
 case e23=>exact λ_ _ _ h=>h
 case f23=>rfl
 case g23=>(intro w' jf;obtain⟨b,c,d,f⟩:=jf;go_simp;(try with_reducible rfl))
 simp only[Act.put,aP,ac,ae];refine' wpAnyH_take (i:=24) (oi:=_) (v:=_) ?a24 ?b24 ?c24 ?d24 ?e24 (Or.inl ⟨?f24,?g24⟩) hHeld ?h24;case a24=>(simp only[aQ,aO,aN];exact rfl)
 case b24|c24|d24=>kernel_rfl
 case e24=>exact λ_ _ _ h=>h
 case f24=>rfl
 case g24=>(intro w' jf;obtain⟨b,c,d,f⟩:=jf;go_simp;(try with_reducible rfl))
 simp only[Act.put,aP,ac,ae];refine' wpAnyH_take (i:=25) (oi:=_) (v:=_) ?a25 ?b25 ?c25 ?d25 ?e25 (Or.inl ⟨?f25,?g25⟩) hHeld ?h25;case a25=>(simp only[aQ,aO,aN];exact rfl)
 case b25|c25|d25=>kernel_rfl
 case e25=>exact λ_ _ _ h=>h
 case f25=>rfl
 case g25=>(intro w' jf;obtain⟨b,c,d,f⟩:=jf;go_simp;(try with_reducible rfl))
 simp only[Act.put,aP,ac,ae];refine' wpAnyH_take (i:=26) (oi:=_) (v:=_) ?a26 ?b26 ?c26 ?d26 ?e26 (Or.inl ⟨?f26,?g26⟩) hHeld ?h26;case a26=>(simp only[aQ,aO,aN];exact rfl)
 case b26|c26|d26=>kernel_rfl
 case e26=>exact λ_ _ _ h=>h
 case f26=>rfl
 case g26=>(intro w' jf;obtain⟨b,c,d,f⟩:=jf;go_simp;(try with_reducible rfl))
 simp only[Act.put,aP,ac,ae];refine' wpAnyH_take (i:=27) (oi:=_) (v:=_) ?a27 ?b27 ?c27 ?d27 ?e27 (Or.inl ⟨?f27,?g27⟩) hHeld ?h27;case a27=>(simp only[aQ,aO,aN];exact rfl)
 case b27|c27|d27=>kernel_rfl
 case e27=>exact λ_ _ _ h=>h
 case f27=>rfl
 case g27=>(intro w' jf;obtain⟨b,c,d,f⟩:=jf;go_simp;(try with_reducible rfl))
 simp only[Act.put,aP,ac,ae];refine' wpAnyH_take (i:=28) (oi:=_) (v:=_) ?a28 ?b28 ?c28 ?d28 ?e28 (Or.inl ⟨?f28,?g28⟩) hHeld ?h28;case a28=>(simp only[aQ,aO,aN];exact rfl)
 case b28|c28|d28=>kernel_rfl
 case e28=>exact λ_ _ _ h=>h
 case f28=>rfl
 case g28=>(intro w' jf;obtain⟨b,c,d,f⟩:=jf;go_simp;(try with_reducible rfl))
 simp only[Act.put,aP,ac,ae];refine' wpAnyH_take (i:=29) (oi:=_) (v:=_) ?a29 ?b29 ?c29 ?d29 ?e29 (Or.inl ⟨?f29,?g29⟩) hHeld ?h29;case a29=>(simp only[aQ,aO,aN];exact rfl)
 case b29|c29|d29=>kernel_rfl
 case e29=>exact λ_ _ _ h=>h
 case f29=>rfl
 case g29=>(intro w' jf;obtain⟨b,c,d,f⟩:=jf;go_simp;(try with_reducible rfl))
 simp only[Act.put,aP,ac,ae];refine wpAnyH_ready (rs:=[4,30]) (by kernel_rfl) (by simp) ?_;refine' AllReadyH.cons (o:=_) ?p4A (λK j=>?q4A) ?r4A;case p4A=>(simp only[aQ,aO,aN];exact rfl)
 go_simp;refine j.out _ _ ?_ (λhHeld=>?_)
 .exact hHeld
 clear j K;(try simp only[Act.put,aP,ac,ae]);refine wpAnyH_ready (rs:=[30]) (by kernel_rfl) (by simp) ?_;refine' AllReadyH.cons (o:=_) ?p30A (λK j=>?q30A) ?r30A;case p30A=>(simp only[aQ,aO,aN];exact rfl)
 case r30A=>exact AllReadyH.nil
 go_simp;refine j.out _ _ ?_ (λhHeld=>?_)
 ·(first|exact hHeld|go_keep|(refine⟨?_,?_,?_,?_⟩<;>go_keep))
 clear j K;(try simp only[Act.put,aP,ac,ae]);refine wpAnyH_ready (rs:=[31]) (by kernel_rfl) (by simp) ?_;refine' AllReadyH.cons (o:=_) ?p31A (λK j=>?q31A) ?r31A;case p31A=>(simp only[aQ,aO,aN];exact rfl)
 case r31A=>exact AllReadyH.nil
 refine step_append_lies _ (by rfl) (.tmp 10) (.tmp 36) _ (by rfl) (M+1) 198 Y _ 4 40 underlying71 hi.o J.o L.o N.o rfl (by decide) toks n xs (by rfl) ((D.o.alloc _).drew) ⟨w.heap.size,0,none⟩ 1 1 (Im kind (text.extract pos (pos+size)) line col) (by rfl) (by rfl) (World.news_of_block (aG w _)) (oc _ rfl) (by decide) (by unfold maxLen;omega) (by omega) (by simp;omega) (w.heap.size+1) (by simp) ?_;intro g cap s jm r vc hg;have O:s.frozen? ⟨M,5,none⟩=false:=(r.frozen_far (a:=⟨M,5,none⟩) (by simp;omega) (by intro e;exact x.o e.symm)).t ((Below.frozen ((aB w.heap.size w).alloc Jq _).drew (p:=⟨M,5,none⟩) jn).t I);have T:s.cell? ⟨M,5,none⟩=some toks:=(r.cell_far (a:=⟨M,5,none⟩) (by simp;omega) (by intro e;exact x.o e.symm)).t ((Below.cell ((aB w.heap.size w).alloc Jq _).drew (p:=⟨M,5,none⟩) jn).t A);refine j.out _ _ ?_ (λhHeld=>?_)
 .refine⟨?_,?_,?_,?_⟩<;>(rw[r.cell_far _ (by simp;omega) (by intro e;exact x.o e.symm)];go_keep)
 clear j K;(try simp only[Act.put,aP,ac,ae]);refine' wpAnyH_take (i:=32) (oi:=_) (v:=_) ?a32A ?b32A ?c32A ?d32A ?e32A (Or.inl ⟨?f32A,?g32A⟩) hHeld ?h32A;case a32A=>(simp only[aQ,aO,aN];exact rfl)
 case b32A=>kernel_rfl
 case c32A=>kernel_rfl
 case d32A=>kernel_rfl
 case e32A=>exact λ_ _ _ h=>h
 case f32A=>rfl
 case g32A=>(intro w' jf;obtain⟨b,c,d,f⟩:=jf;go_simp;(try with_reducible rfl))
 simp only[Act.put,aP,ac,ae];refine' wpAnyH_take (i:=33) (oi:=_) (v:=_) ?a33A ?b33A ?c33A ?d33A ?e33A (Or.inl ⟨?f33A,?g33A⟩) hHeld ?h33A;case a33A=>(simp only[aQ,aO,aN];exact rfl)
 case b33A=>kernel_rfl
 case c33A=>kernel_rfl
 case d33A=>kernel_rfl
 case e33A=>exact λ_ _ _ h=>h
 case f33A=>rfl
 case g33A=>(intro w' jf;obtain⟨b,c,d,f⟩:=jf;go_simp;(try with_reducible rfl))
 simp only[Act.put,aP,ac,ae];refine wpAnyH_ready (rs:=[34]) (by kernel_rfl) (by simp) ?_;refine' AllReadyH.cons (o:=_) ?p34A (λK j=>?q34A) ?r34A;case p34A=>(simp only[aQ,aO,aN];exact rfl)
 case r34A=>exact AllReadyH.nil
 go_simp;refine j.out _ _ ?_ (λhHeld=>?_)
 .obtain⟨k0,P,Q,R⟩:=hHeld;exact⟨nG k0 (by decide),nG P (by decide),nG Q (by decide),nG R (by decide)⟩
 clear j K;(try simp only[Act.put,aP,ac,ae]);refine wpAnyH_done (by kernel_rfl) ?_ _;have B:dW s M {text:=text,pos:=pos,line:=line,col:=col,opn:=opn,toks:=toks}:=dW.of_block V.o ((r.block M (by simp;omega) (λe=>x.o e.symm)).t (((aB w.heap.size w).alloc Jq _).drew.block M jn));have q:=B.set (m':={text:=text,pos:=pos,line:=line,col:=col,opn:=opn,toks:=Value.slice (some {block:=g,off:=0}) (n+1) cap}) 5 (Value.slice (some {block:=g,off:=0}) (n+1) cap) rfl;have j9:=aR jm (a:=⟨M,5,none⟩) (by show M<M+1;omega) (Value.slice (some {block:=g,off:=0}) (n+1) cap);have z:Below M w (s.setCell ⟨M,5,none⟩ (Value.slice (some {block:=g,off:=0}) (n+1) cap)):=oE ((((aB M w).alloc (bD jn) _).drew).grown r (show M<=(w.heap.push _).size by simp only[pT];omega) (λk l=>Nat.le_of_succ_le (D.o.lt k l).1)) (al M) _;clear O T hHeld E F G H A I B jm;generalize s.setCell ⟨M,5,none⟩ (Value.slice (some {block:=g,off:=0}) (n+1) cap)=W at*;have q4:=q.c4;have f4:=q.free 4;dsimp only at q4;have q:=Hi q;have j9:=Hi j9;have z:=Hi z;go_wp2_with fail;have jy:=q.o.set (m':={text:=text,pos:=pos,line:=line,col:=col,opn:=true,toks:=Value.slice (some {block:=g,off:=0}) (n+1) cap}) 4 (.bool true) rfl;refine(qK M _ size _ jy X ht j8 Z).mono ?_;rintro e w3 ⟨rfl,U,C⟩;go_wp2_with fail;go_end0;refine⟨rfl,_,U,?_,?_⟩
 .have y:=aR j9.o (a:=⟨M,4,none⟩) (by show M<M+1;omega) (Value.bool true);refine qE y (λk l=>C.block k (y.lt k l).2 (λe=>?_));have h1:=(y.lt k l).1;injection e with e;omega
 .exact(z.o.setCell (p:=⟨M,4,none⟩) (al M) _).grown C (by have:=jy.lt;omega) (λk l=>by injection l with l;omega)
 refine' AllReadyH.cons (o:=_) ?p30C (λK j=>?q30C) ?r30C;case p30C=>(simp only[aQ,aO,aN];exact rfl)
 case r30C=>exact AllReadyH.nil
 go_simp;refine j.out _ _ ?_ (λhHeld=>?_)
 .go_keep
 clear j K;(try simp only[Act.put,aP,ac,ae]);refine wpAnyH_ready (rs:=[4]) (by kernel_rfl) (by simp) ?_;refine' AllReadyH.cons (o:=_) ?p4D (λK j=>?q4D) ?r4D;case p4D=>(simp only[aQ,aO,aN];exact rfl)
 case r4D=>exact AllReadyH.nil
 go_simp;refine j.out _ _ ?_ (λhHeld=>?_)
 .exact hHeld
 clear j K;(try simp only[Act.put,aP,ac,ae]);refine wpAnyH_ready (rs:=[31]) (by kernel_rfl) (by simp) ?_;refine' AllReadyH.cons (o:=_) ?p31E (λK j=>?q31E) ?r31E;case p31E=>(simp only[aQ,aO,aN];exact rfl)
 case r31E=>exact AllReadyH.nil
 refine step_append_lies _ (by rfl) (.tmp 10) (.tmp 36) _ (by rfl) (M+1) 198 Y _ 4 40 underlying71 hi.o J.o L.o N.o rfl (by decide) toks n xs (by rfl) ((D.o.alloc _).drew) ⟨w.heap.size,0,none⟩ 1 1 (Im kind (text.extract pos (pos+size)) line col) (by rfl) (by rfl) (World.news_of_block (aG w _)) (oc _ rfl) (by decide) (by unfold maxLen;omega) (by omega) (by simp;omega) (w.heap.size+1) (by simp) ?_;intro g cap s jm r vc hg;have O:s.frozen? ⟨M,5,none⟩=false:=(r.frozen_far (a:=⟨M,5,none⟩) (by simp;omega) (by intro e;exact x.o e.symm)).t ((Below.frozen ((aB w.heap.size w).alloc Jq _).drew (p:=⟨M,5,none⟩) jn).t I);have T:s.cell? ⟨M,5,none⟩=some toks:=(r.cell_far (a:=⟨M,5,none⟩) (by simp;omega) (by intro e;exact x.o e.symm)).t ((Below.cell ((aB w.heap.size w).alloc Jq _).drew (p:=⟨M,5,none⟩) jn).t A);refine j.out _ _ ?_ (λhHeld=>?_)
 .refine⟨?_,?_,?_,?_⟩<;>(rw[r.cell_far _ (by simp;omega) (by intro e;exact x.o e.symm)];go_keep)
 clear j K;(try simp only[Act.put,aP,ac,ae]);refine' wpAnyH_take (i:=32) (oi:=_) (v:=_) ?a32E ?b32E ?c32E ?d32E ?e32E (Or.inl ⟨?f32E,?g32E⟩) hHeld ?h32E;case a32E=>(simp only[aQ,aO,aN];exact rfl)
 case b32E=>kernel_rfl
 case c32E=>kernel_rfl
 case d32E=>kernel_rfl
 case e32E=>exact λ_ _ _ h=>h
 case f32E=>rfl
 case g32E=>(intro w' jf;obtain⟨b,c,d,f⟩:=jf;go_simp;(try with_reducible rfl))
 simp only[Act.put,aP,ac,ae];refine' wpAnyH_take (i:=33) (oi:=_) (v:=_) ?a33E ?b33E ?c33E ?d33E ?e33E (Or.inl ⟨?f33E,?g33E⟩) hHeld ?h33E;case a33E=>(simp only[aQ,aO,aN];exact rfl)
 case b33E=>kernel_rfl
 case c33E=>kernel_rfl
 case d33E=>kernel_rfl
 case e33E=>exact λ_ _ _ h=>h
 case f33E=>rfl
 case g33E=>(intro w' jf;obtain⟨b,c,d,f⟩:=jf;go_simp;(try with_reducible rfl))
 simp only[Act.put,aP,ac,ae];refine wpAnyH_ready (rs:=[34]) (by kernel_rfl) (by simp) ?_;refine' AllReadyH.cons (o:=_) ?p34E (λK j=>?q34E) ?r34E;case p34E=>(simp only[aQ,aO,aN];exact rfl)
 case r34E=>exact AllReadyH.nil
 go_simp;refine j.out _ _ ?_ (λhHeld=>?_)
 .obtain⟨k0,P,Q,R⟩:=hHeld;exact⟨nG k0 (by decide),nG P (by decide),nG Q (by decide),nG R (by decide)⟩
 clear j K;(try simp only[Act.put,aP,ac,ae]);refine wpAnyH_done (by kernel_rfl) ?_ _;have B:dW s M {text:=text,pos:=pos,line:=line,col:=col,opn:=opn,toks:=toks}:=dW.of_block V.o ((r.block M (by simp;omega) (λe=>x.o e.symm)).t (((aB w.heap.size w).alloc Jq _).drew.block M jn));have q:=B.set (m':={text:=text,pos:=pos,line:=line,col:=col,opn:=opn,toks:=Value.slice (some {block:=g,off:=0}) (n+1) cap}) 5 (Value.slice (some {block:=g,off:=0}) (n+1) cap) rfl;have j9:=aR jm (a:=⟨M,5,none⟩) (by show M<M+1;omega) (Value.slice (some {block:=g,off:=0}) (n+1) cap);have z:Below M w (s.setCell ⟨M,5,none⟩ (Value.slice (some {block:=g,off:=0}) (n+1) cap)):=oE ((((aB M w).alloc (bD jn) _).drew).grown r (show M<=(w.heap.push _).size by simp only[pT];omega) (λk l=>Nat.le_of_succ_le (D.o.lt k l).1)) (al M) _;clear O T hHeld E F G H A I B jm;generalize s.setCell ⟨M,5,none⟩ (Value.slice (some {block:=g,off:=0}) (n+1) cap)=W at*;have q4:=q.c4;have f4:=q.free 4;dsimp only at q4;have q:=Hi q;have j9:=Hi j9;have z:=Hi z;go_wp2_with fail;have jy:=q.o.set (m':={text:=text,pos:=pos,line:=line,col:=col,opn:=true,toks:=Value.slice (some {block:=g,off:=0}) (n+1) cap}) 4 (.bool true) rfl;refine(qK M _ size _ jy X ht j8 Z).mono ?_;rintro e w3 ⟨rfl,U,C⟩;go_wp2_with fail;go_end0;refine⟨rfl,_,U,?_,?_⟩
 .have y:=aR j9.o (a:=⟨M,4,none⟩) (by show M<M+1;omega) (Value.bool true);refine qE y (λk l=>C.block k (y.lt k l).2 (λe=>?_));have h1:=(y.lt k l).1;injection e with e;omega
 .exact(z.o.setCell (p:=⟨M,4,none⟩) (al M) _).grown C (by have:=jy.lt;omega) (λk l=>by injection l with l;omega)
end Go.Proofs.YtgfgoaeaicefcaaGreatDoor
namespace Go.Proofs.YtgfgoaeaicefcaaGreatDoor
open Go.RowKit Tryz
variable {M:Nat}{w:Wq}{v:Value}
attribute [local go_sem ↓] Go.wp_at_zero Go.wp_at_succ
structure Tk where
 kind:Int
 text:Wz
 line:Int
 col:Int
abbrev Tk.cells (t:Tk):List Value:=Im t.kind t.text t.line t.col
def Tk.key (t:Tk):Pc:=(t.kind,t.text)
def pQ (l:List Tk):List Value:=(l.map Tk.cells).flatten
theorem yN (l:List Tk)(t:Tk):pQ (l++[t])=pQ l++t.cells:=by simp[pQ]
def Lc (s:Wz)(p:Nat)(L:List Pc)(l:Nat):Prop:=(l=0/\L=[]/\p=s.size)\/(l=2/\p<s.size/\Lx ((bs s).drop (p+1)) L)\/(l=4/\Lx ((bs s).drop p) L)
theorem Io {k:Int}{t:Wz}{r:bM}(h:K2 k t r):1<=t.size/\(dA (bs t++r)=5\/dA (bs t++r)=6\/dA (bs t++r)=7\/dA (bs t++r)=0):=by
 have f:dA (bs t++r)=5\/dA (bs t++r)=6\/dA (bs t++r)=7\/dA (bs t++r)=0:=by cases h with|name a b=>exact .inl (Fy a b).1|port p q a b e c=>rw[e];exact .inl (Fx a b c).1|num v a b=>exact .inr (.inl (BG a b).1)|pat a b c d=>exact .inr (.inr (.inl (by rw[bY,dG];rfl)))|sign a b=>exact .inr (.inr (.inr (BF a b).2))
 refine⟨?_,f⟩;cases h with|pat a b c d=>rw[aJ,bn,fV];omega|sign a b=>obtain⟨i,hi⟩:=fg a;exact(uQ i _ hi).1|name a b=>exact(mO a).1|port p q a b e c=>rw[show t.size=(bs t).length from rfl,e];simp;omega|num v a b=>refine B2 λe=>?_;have:=(BG a (r:=[]) rfl).1;rw[List.length_eq_zero_iff.1 (show(bs t).length=0 from e)]at this;cases this
theorem MN {s:Wz}{p:Nat}{L:List Pc}(e:p<=s.size)(h:Lx ((bs s).drop p) L):(dA ((bs s).drop p)=1/\L=[]/\p=s.size)\/(dA ((bs s).drop p)=2/\p<s.size/\Lx ((bs s).drop (p+1)) L)\/∃k t r c,L=(k,t)::c/\K2 k t r/\bs (s.extract p s.size)=bs t++r/\(dA ((bs s).drop p)=5\/dA ((bs s).drop p)=6\/dA ((bs s).drop p)=7\/dA ((bs s).drop p)=0)/\1<=t.size/\p+t.size<=s.size/\s.extract p (p+t.size)=t/\Lx ((bs s).drop (p+t.size)) c:=by
 obtain⟨b,a⟩:∃b,b=(bs s).drop p:=⟨_,rfl⟩;have d:b.length=s.size-p:=by rw[a,bH,dM]
 rw[<-a]at h⊢;cases h with|nil=>exact .inl ⟨rfl,rfl,by simp only[aL]at d;omega⟩|@blank r _ h=>refine .inr (.inl ⟨rfl,by simp only[aD]at d;omega,?_⟩);rw[<-kV,<-a];exact h|@tok k t r c ht h=>
  obtain⟨h1,h2⟩:=Io ht;rw[aC,dM]at d;refine .inr (.inr ⟨k,t,r,c,rfl,ht,by rw[td,<-a],h2,h1,by omega,E9 ?_,?_⟩)
  .rw[lJ,<-a,eu];exact my
  .rw[<-kV,<-a];show Lx (List.drop (bs t).length (bs t++r)) c;rw[jJ];exact h
def RD (s:Wz)(M:Nat)(w0:Wq)(b:List Pc)(l:Nat):Act->Wq->Prop:=λd w'=>∃(p:Nat)(c:Int)(a:List Tk)(L:List Pc)(v:Value)(f:Nat->Value),d={tmps:=#[.pointer (some ⟨M,0,none⟩),f 1,f 2,f 3,f 4,f 5,f 6,f 7,f 8,f 9,f 10,f 11,f 12,f 13,f 14,f 15,f 16,f 17,f 18,f 19,f 20,f 21,f 22,f 23,f 24,f 25,f 26,f 27,f 28,f 29,f 30,f 31,f 32,f 33,f 34,f 35,f 36,f 37,f 38,f 39,f 40,f 41,f 42,f 43,f 44,f 45,f 46,f 47,f 48,f 49,f 50,f 51,f 52,f 53,f 54,f 55,f 56,f 57,f 58,f 59,f 60,f 61,f 62,f 63,f 64,f 65,f 66,f 67,f 68,f 69,f 70,f 71,f 72,f 73,f 74,f 75,f 76,f 77,f 78,f 79,f 80,f 81,f 82,f 83,f 84,f 85],defers:=[]}/\Hid (dW w' M ⟨s,p,1,c,decide (a≠[]),v⟩)/\Hid (w'.ownsRow (M+1) 198 4 v a.length (pQ a))/\p<=s.size/\a.length<=p/\(0<=c/\c<=p+1)/\Hid (a.map Tk.key++L=b)/\Hid (gu w')/\Hid (Below M w0 w')/\Hid (Lc s p L l)
theorem sf {s:Wz}{w0 w':Wq}{b:List Pc}(l p:Nat)(c:Int)(a:List Tk)(L:List Pc)(v:Value){d x I V x5 x6 x7 x8 x9 e f g h j k o q r t y z A B C D E F G H J K N O P Q R S T U X Y Z x43 x44 x45 x46 x47 x48 x49 x50 x51 x52 x53 x54 x55 x56 x57 x58 x59 x60 x61 x62 x63 x64 x65 x66 x67 x68 x69 x70 x71 x72 x73 x74 x75 x76 x77 x78 x79 x80 x81 x82 x83 x84 x85:Value}(hM:Hid (dW w' M ⟨s,p,1,c,decide (a≠[]),v⟩))(hO:Hid (w'.ownsRow (M+1) 198 4 v a.length (pQ a)))(hp:p<=s.size)(ht:a.length<=p)(hc:0<=c/\c<=p+1)(hR:Hid (a.map Tk.key++L=b))(hE:Hid (gu w'))(hB:Hid (Below M w0 w'))(hl:Hid (Lc s p L l)):RD s M w0 b l {tmps:=#[.pointer (some ⟨M,0,none⟩),d,x,I,V,x5,x6,x7,x8,x9,e,f,g,h,j,k,o,q,r,t,y,z,A,B,C,D,E,F,G,H,J,K,N,O,P,Q,R,S,T,U,X,Y,Z,x43,x44,x45,x46,x47,x48,x49,x50,x51,x52,x53,x54,x55,x56,x57,x58,x59,x60,x61,x62,x63,x64,x65,x66,x67,x68,x69,x70,x71,x72,x73,x74,x75,x76,x77,x78,x79,x80,x81,x82,x83,x84,x85],defers:=[]} w':=⟨p,c,a,L,v,λi=>(#[.pointer (some ⟨M,0,none⟩),d,x,I,V,x5,x6,x7,x8,x9,e,f,g,h,j,k,o,q,r,t,y,z,A,B,C,D,E,F,G,H,J,K,N,O,P,Q,R,S,T,U,X,Y,Z,x43,x44,x45,x46,x47,x48,x49,x50,x51,x52,x53,x54,x55,x56,x57,x58,x59,x60,x61,x62,x63,x64,x65,x66,x67,x68,x69,x70,x71,x72,x73,x74,x75,x76,x77,x78,x79,x80,x81,x82,x83,x84,x85]:Array Value).getD i undef,rfl,hM,hO,hp,ht,hc,hR,hE,hB,hl⟩
def CU (s:Wz)(M:Nat)(l:Nat)(w:Wq):Nat:=2*(s.size+1-(intOf ((w.cell? ⟨M,1,none⟩).getD undef)).toNat)+if l=4 then 1 else 0
theorem sd (s:Wz)(M l:Nat)(w:Wq)(m:lN)(h:dW w M m):CU s M l w=2*(s.size+1-m.pos)+if l=4 then 1 else 0:=by unfold CU;rw[h.c1];rfl
theorem Lz {w':Wq}{n:Nat}{xs:List Value}(h:w.ownsRow (M+1) 198 4 v n xs)(b:w.grownBy w' (some M)):w'.ownsRow (M+1) 198 4 v n xs:=by refine qE h (λk a=>b.block k (h.lt k a).2 (λe=>?_));have h1:=(h.lt k a).1;injection e with e;omega
def Nc (M:Nat)(w:Wq)(L:List Pc)(e:Ending)(w':Wq):Prop:=e=.returned (I6 0)/\∃m a,dW w' M m/\w'.ownsRow (M+1) 198 4 m.toks a.length (pQ a)/\Below M w w'/\a.length<=32769/\a.map Tk.key=L++[(1,⟨#[10]⟩)]
theorem Ob (s:Wz)(L:List Pc)(V:Lx (bs s) L)(Q:L≠[])(M:Nat)(w:Wq)(Y:dW w M ⟨s,0,1,1,false,.slice none 0 0⟩)(hs:s.size<=16384)(E:∀w',Below M w w'->gu w'):Calls prog 64 #[.pointer (some ⟨M,0,none⟩)] w (Nc M w L):=by
 have q9:=Hi Y;have O:=Hi E;have vf:=Hi V;have Q:=Hi Q;clear Y E V;go_enter func64,ntmps64;go_wp2_with fail;refine xE (RD s M w L) (λl _ w'=>CU s M l w') ?_ ?_
 .rintro l a' w' ⟨p,c,b,K,v,f,rfl,a,i,I,q8,hc,z,o,hB,H⟩;obtain⟨j8,qb⟩:=hc;have S:=Hi (sd s M l w' _ a.o);have C:=a.o.lt;have A:=a.o.c0;have B:=a.o.c1;dsimp only at A B;have hpz:(p:Int)<=(s.size:Int):=by omega
  have hp0:(0:Int)<=(p:Int):=by omega
  rcases H.o with⟨rfl,rfl,rfl⟩|⟨rfl,jn,h⟩|⟨rfl,h⟩;case' inr.inr=>
   refine⟨_,rfl,?_⟩;have F:=Hi (λW=>ll s p W (by omega) (by omega) (by omega));simp only[eW]at F;have h:=Hi (MN I h);obtain⟨q,j⟩:∃q,q=dA ((bs s).drop p):=⟨_,rfl⟩;rw[<-j]at F h;clear H j;go_wp2_with fail;go_region_held3 (λW=>W.cell? ⟨M,0,none⟩=some (.string s)/\W.cell? ⟨M,1,none⟩=some (I6 p)) (first|exact hHeld|go_keep) ((go_at_call 131;refine(F.o _).mono ?_;rintro e U ⟨rfl,rfl⟩));(try clear hHeld);clear F A B;have a:Hid (dW w'.drew M ⟨s,p,1,c,decide (b≠[]),v⟩):=a;have i:Hid (w'.drew.ownsRow (M+1) 198 4 v b.length (pQ b)):=Hi i.o.drew;have o:Hid (gu w'.drew):=Hi (o.o.drewN 1);have hB:Hid (Below M w w'.drew):=Hi hB.o.drew;have P:Hid (∀N,N≠4->CU s M N w'.drew<CU s M 4 w'):=Hi (λN va=>by rw[sd s M N _ _ a.o,S.o,ap va];simp);generalize w'.drew=W at*;rcases h.o with⟨rfl,rfl,rfl⟩|⟨rfl,jn,d⟩|⟨k,t,r,K',rfl,ht,X,j,h1,h2,R,d⟩
   .go_wp2_with fail;go_step3;(try simp only[Exit.jumps]);exact⟨sf _ _ c b _ v a i I q8 ⟨j8,qb⟩ z o hB (Hi (.inl ⟨rfl,rfl,rfl⟩)),P.o _ (by decide)⟩
   .have d:=Hi d;go_wp2_with fail;go_step3;(try simp only[Exit.jumps]);exact⟨sf _ _ c b _ v a i I q8 ⟨j8,qb⟩ z o hB (Hi (.inr (.inl ⟨rfl,jn,d.o⟩))),P.o _ (by decide)⟩
   have q6:(s.extract p s.size).size<4294967281:=by rw[gD];omega
   have c1:Hid (∀W,gu W->Calls prog 132 #[.string (s.extract p s.size)] W (K9 W k t.size)):=Hi λW E=>JM ht X q6 W E;have C:=a.o.lt;have A:=a.o.c0;have B:=a.o.c1;dsimp only at A B;have d:=Hi d;have R:=Hi R;have e1:(q==1)=false:=by rcases j with rfl|rfl|rfl|rfl<;>rfl
   have e2:(q==2)=false:=by rcases j with rfl|rfl|rfl|rfl<;>rfl
   have e3:(q==3)=false:=by rcases j with rfl|rfl|rfl|rfl<;>rfl
   have e4:(q==4)=false:=by rcases j with rfl|rfl|rfl|rfl<;>rfl
   clear P q6 h j ht X;generalize Z:t.size=n at*;have Z:=Hi Z;go_wp2_with fail;go_region_held3 (λW=>W.cell? ⟨M,0,none⟩=some (.string s)/\W.cell? ⟨M,1,none⟩=some (I6 p)) (first|exact hHeld|go_keep|exact⟨(jl.cell (p:=⟨M,0,none⟩) C).t A,(jl.cell (p:=⟨M,1,none⟩) C).t B⟩) ((go_at_call 132;refine(c1.o _ (o.o.drewN 1)).mono ?_;rintro e U ⟨rfl,jl⟩));(try clear hHeld);clear c1 A B;have jl:JJ W U:=⟨jl.os,jl.tape,jl.output,jl.size,jl.block⟩;have j4:=Hi (a.o.of_block (jl.block M C));have vd:=Hi (aU i.o jl);have hE1:=Hi (o.o.below jl);have q7:=Hi (hB.o.t (jl.mono (bD C)));clear a i o hB jl;have g:=Hi (Lu M _ k n b.length (pQ b) U j4.o vd.o (by omega) h2 (by show s.size<=_;omega) j8 (by show c<=_;omega));have T:=Hi (mE (s.extract p (p+n)) n 0 (by rw[gD];omega));go_wp2_with fail;refine g.o.mono ?_;rintro e D ⟨rfl,v3,jy,J,x⟩;go_wp2_with fail;go_step3;(try simp only[Exit.jumps]);have hr:=T.o;refine⟨sf 4 (p+n) (c+em (s.extract p (p+n)) 0) (b++[⟨k,t,1,c⟩]) K' v3 (Hi (by rw[show decide (b++[⟨k,t,1,c⟩]≠[])=true by simp];exact jy)) (Hi (by rw[yN,aC];rw[R.o]at J;exact J)) h2 (by rw[aC,fV];omega) ⟨by omega,by omega⟩ (Hi (by rw[<-z.o];simp[Tk.key])) (Hi (O.o _ (q7.o.t x))) (Hi (q7.o.t x)) (Hi (.inr (.inr ⟨rfl,d.o⟩))),?_⟩;rw[sd s M 4 D _ jy,S.o];show 2*(s.size+1-(p+n))+1<2*(s.size+1-p)+1;omega
  case' inl=>refine⟨_,rfl,?_⟩;have vb:b≠[]:=λe=>Q.o (by rw[<-z.o,e];rfl);have g:=C7 M _ b.length (pQ b) w' a.o i.o (by omega) I (by show s.size<=_;omega) (by show(0:Int)<=1;omega) (by show(1:Int)<=_;omega);dsimp only at g;rw[aV vb,ax rfl,ax rfl]at g;have g:=Hi g;clear H;go_wp2_with fail;refine g.o.mono ?_;rintro e D ⟨rfl,v3,jy,J,x⟩;go_wp2_with fail;(try simp only[Exit.jumps]);go_ret;exact⟨rfl,_,b++[⟨1,⟨#[10]⟩,1,c⟩],jy,by rw[yN,aC];exact J,hB.o.t x,by rw[aC,fV];omega,by rw[<-z.o];simp[Tk.key]⟩
  case' inr.inl=>refine⟨_,rfl,?_⟩;have h:=Hi h;have g:=Hi (qK M _ 1 w' a.o jn (by show s.size<=_;omega) j8 (by show c<=_;omega));have T:=Hi (mE (s.extract p (p+1)) 1 0 (by rw[gD];omega));clear H;go_wp2_with fail;refine g.o.mono ?_;rintro e D ⟨rfl,jy,qz⟩;have x:Below M w' D:=(aB M w').grown qz (bD a.o.lt) (λk G=>by injection G with G;omega);go_wp2_with fail;go_step3;(try simp only[Exit.jumps]);have hr:=T.o;refine⟨sf 4 (p+1) (c+em (s.extract p (p+1)) 0) b K v (Hi jy) (Hi (Lz i.o qz)) jn (by omega) ⟨by omega,by omega⟩ z (Hi (O.o _ (hB.o.t x))) (Hi (hB.o.t x)) (Hi (.inr (.inr ⟨rfl,h.o⟩))),?_⟩;rw[sd s M 4 D _ jy,S.o];show 2*(s.size+1-(p+1))+1<2*(s.size+1-p)+0;omega
 .intro qr;refine wp_seq ?_;repeat go_step
  rename_i G;obtain⟨y,d,hw⟩:=qr 4 _ w (sf 4 0 1 [] L (.slice none 0 0) q9 (Hi (dF _ _ _ _)) (aK _) Jq ⟨by decide,by decide⟩ (Hi rfl) (Hi (O.o _ Jz)) (Hi Jz) (Hi (.inr (.inr ⟨rfl,vf.o⟩))));injection d with d;injection d with _ d;subst d;refine wp_label ?_;exact G _ _ hw
end Go.Proofs.YtgfgoaeaicefcaaGreatDoor
