/- Part 6 of what the proofs stand on: plain functions of the program, and that they are its functions. -/
import Derived.Test.YtinbdcelmgfniaaGreatDoorM5
import Derived.Test.YtinbdcelmgfniaaGreatDoorM4
import Derived.Test.YtinbdcelmgfniaaGreatDoorM3
import Derived.KernelRfl
import Derived.Shelf.SlSortCmp.NoneTotal
import Derived.Test.YtinbdcelmgfniaaGreatDoorProg
import Derived.Test.YtinbdcelmgfniaaGreatDoorM2
import Derived.Deep.RegionLaw
import Derived.Handy
import Derived.Test.YtinbdcelmgfniaaGreatDoorM1
import Derived.ProofKit
import Derived.Test.YtinbdcelmgfniaaGreatDoorRows
set_option linter.unusedVariables false
set_option linter.unusedSimpArgs false
noncomputable section
namespace Go.AmZ
open Go Go.GxZ
theorem qNP(l:List T)(a:l.length<2^62)(b:∀t∈l,qsz t):Ev (λ m _=>qnA m l) (decide (l.length<=20)&&qpI l 450):=by
 refine waG ?_;simp only[qG8,qmp];exact way (qRq l a b 20 450 (by decide) (by decide)) (waz _)
def qqH(p:T):Int:=if qac p≠0 then qac p else if qqc p=false then 10 else 0
theorem qEs(p:T)(a:size p<=1000000000):Ev (λ m _=>qa4 m p) (qqH p):=by
 refine waG ?_;simp only[qsF,qd8,qi];unfold qqH;refine way (qyS p a) ?_;by_cases h:qac p=0
 .rw[if_neg (λ g=>g h)];refine waD (bnf.2 (qk.2 h)) (way (qPy p a) ?_);cases qqc p with
  |true=>exact waD rfl (waz _)
  |false=>exact waC rfl (waz _)
 .rw[if_pos h];exact waC (bnt.2 (qh.2 h)) (waz _)
theorem qzD(p:T)(a:size p<=1000000000):Ev (λ m _=>qgJ m p) (qqH p):=by
 refine waG ?_;simp only[qwh,qg1,qi];unfold qqH;refine way (qs7 p a) ?_;by_cases h:qac p=0
 .rw[if_neg (λ g=>g h)];refine waD (bnf.2 (qk.2 h)) (way (qOt p a) ?_);cases qqc p with
  |true=>exact waD rfl (waz _)
  |false=>exact waC rfl (waz _)
 .rw[if_pos h];exact waC (bnt.2 (qh.2 h)) (waz _)
theorem qKB{p:T}(h:qqH p=0):qac p=0:=by
 unfold qqH at h;by_cases g:qac p=0
 .exact g
 .rw[if_pos g]at h;exact absurd h g
theorem qSQ{t:T}(h:qAc t=0):qac t=0:=by
 unfold qAc at h;by_cases g:qac t=0
 .exact g
 .rw[if_pos g]at h;exact absurd h g
theorem qM7(p t:T):(ql5 p t).2=0\/ql5 p t=([],11):=by
 unfold ql5;split
 .exact .inl rfl
 .exact .inr rfl
theorem qPO{l:List (T×T)}{n:Nat}(h:∀a∈l,size a.2<=n){x:T}{b:T×T}(c:qgW l x=some b):b.1=x/\size b.2<=n:=by
 unfold qgW at c;split at c
 .rename_i u d;split at c
  .cases c
  .cases c;unfold lkA at d;obtain⟨a,e,rfl⟩:=wap.1 d;exact⟨rfl,h a (List.mem_of_find?_eq_some e)⟩
 .cases c
theorem qQc{p t:T}(i:size p<=400)(g:size t<=400):(ql5 p t).1.length<=400/\∀b∈(ql5 p t).1,size b.1<=400/\size b.2<=400:=by
 unfold ql5;split
 .have m:=List.length_filterMap_le (qgW (mtR p t []).1) (qcq p);have l:=qvk p;refine⟨by simp only;omega,λ b c=>?_⟩;let⟨x,d,h⟩:=kF.1 c;let⟨f,k⟩:=qPO (λ a e=>(qKv p t a e).2) h;have j:=qjB 1 p x ((qlC p x).1 d);rw[f];exact⟨by omega,by omega⟩
 .exact⟨wg _,λ b c=>by cases c⟩
theorem qMO(l:List (T×T))(o:l.length<=400)(f:∀b∈l,size b.1<=400/\size b.2<=400):Ev (λ m _=>qbX m l l) true:=by
 refine waG ?_;simp only[qqw,qae];refine waD (bnf.2 (qk.2 rfl)) ?_
 have c:=qt (P:=λ i=>Ev (λ m k=>jB m k l l i) true) l (by omega)
  (λ d=>by
   refine waF ?_;simp only[qhl,qai];exact waD d (waz _))
  (λ i x e p d a g h=>by
   refine waF ?_;simp only[qhl,qai,qi];let⟨n,j⟩:=f x (wb e);refine waC d (waA a (waA a (way ((QF x.1 x.1 (by omega) (by omega)).res (ym.2 rfl)) (waD rfl (waA a (waA a (way ((QF x.2 x.2 (by omega) (by omega)).res (ym.2 rfl)) (waD rfl ?_))))))));rw[g];exact h)
 exact waH (L:=λ m k=>jB m k l l 0) (c 0 (wg _))
def qyt(p:T)(s:List UInt8):List (T×T)×Int:=if qqH p≠0 then([],qqH p)else if(qlY s).2.2≠0 then([],(qlY s).2.2)else ql5 p (qlY s).1
theorem envelopeFits_ev(p:T)(s:List UInt8)(hf:qj2 .term p)(_:qj2 .str s):Ev (λ m _=>law20_EnvelopeFits m p s) true:=by
 have hf:qsz p:=hf;refine waG ?_;simp only[qps,qc3,qi];refine way qqi (waD rfl (way (qNP [p] (show 1<2 ^ 62 by decide) λ x hx=>by rw[wD.1 hx];exact hf) ?_));cases hfw:decide ([p].length<=20)&&qpI [p] 450 with
 | false=>exact waC rfl (way qqi (waz _))
 | true =>
 simp only[wc]at hfw;have hp:size p<=10000:=by have:=qMU (by decide) hfw.2 p (wD.2 rfl);omega
 refine waD rfl ?_;by_cases hl:ilt 2000 (s.length:Int)=true
 ·exact waC hl (way qqi (waz _))
 rw[kK]at hl;have hs:s.length<=2000:=by have:=qx.1 hl;omega
 refine waD hl ?_
 have hz:(qyt p s).1.length<=400/\∀ b∈(qyt p s).1,size b.1<=400/\size b.2<=400:=by
  unfold qyt;split
  ·exact⟨wg _,λ b hb=>by cases hb⟩
  ·rename_i h1;split
   ·exact⟨wg _,λ b hb=>by cases hb⟩
   ·rename_i h2;have hv:=(qiI (qjQ (qKB (Classical.not_not.1 h1))).1).2.1;generalize hd:qlY s=d at h2;obtain⟨t,a,e⟩:=d;obtain rfl:e=0:=Classical.not_not.1 h2;exact qQc hv (qDz hd).2.2.2
 have both:Ev (λ m _=>qgk m p s) (qyt p s)/\Ev (λ m _=>qkQ m p s) (qyt p s):=by
  unfold qyt;by_cases h1:qqH p=0
  case neg =>
   rw[if_pos h1];refine⟨waG ?_,waG ?_⟩
   ·simp only[qhT,qaZ,qi];exact way (qEs p (by omega)) (waC (bnt.2 (qh.2 h1)) (waz _))
   ·simp only[ql4,qdN,qi];exact way (qzD p (by omega)) (waC (bnt.2 (qh.2 h1)) (waz _))
  have hvp:=(qjQ (qKB h1)).1;rw[if_neg (λ g=>g h1)];have d1:=qSF s (by omega);have d2:=qQw s (by omega);generalize hd:qlY s=d at d1 d2 |-
  obtain⟨t,a,e⟩:=d;by_cases h2:e=0
  case neg =>
   rw[if_pos h2];refine⟨waG ?_,waG ?_⟩
   ·simp only[qhT,qaZ,qi];exact way (qEs p (by omega)) (waD (bnf.2 (qk.2 h1)) (way d1 (waC (bnt.2 (qh.2 h2)) (waz _))))
   ·simp only[ql4,qdN,qi];exact way (qzD p (by omega)) (waD (bnf.2 (qk.2 h1)) (way d2 (waC (bnt.2 (qh.2 h2)) (waz _))))
  subst h2;have hvt:=(qjQ (qSQ (qDz hd).1)).1;rw[if_neg (λ g=>g rfl)];refine⟨waG ?_,waG ?_⟩
  ·simp only[qhT,qaZ,qi];refine way (qEs p (by omega)) (waD (bnf.2 (qk.2 h1)) (way d1 (waD rfl (way (qMx p t hvp hvt) ?_))));rcases qM7 p t with g | g
   ·exact waD (bnf.2 (qk.2 g)) (waE (Prod.ext rfl g.symm))
   ·rw[g];exact waC rfl (waz _)
  ·simp only[ql4,qdN,qi];exact way (qzD p (by omega)) (waD (bnf.2 (qk.2 h1)) (way d2 (waD rfl (way (qLm p t hvp hvt) (waE rfl)))))
 exact way both.1 (way both.2 (waC (qk.2 rfl) (way (qMO _ hz.1 hz.2) (waz _))))
end Go.AmZ
namespace Go.AmZ
open Go Go.GxZ
set_option linter.unusedVariables false
set_option maxRecDepth 100000
open Go.Proofs.Tryz (f8 f10 f11 f12 f13 f14 f15 f26 f27 f28 f29 f30 f32 f33 f34 f36 f37 f38 f39 f40 f41 f42 f43 f44 f45 f46 f47 f50 f51 f52 f55 f56 f57 f58 f59 f60 f61 f62 f63 f64 f66 f67 f68 f69 f70 f71 f72 f73 f74 f75 f76 f77 f78 f79 f80 f81 f82 f83 f84 f85 f86 f87 f88 f89 f90 f91 f92 f93 f94 f95 f96 f97 f98 f99 f100 f101 f102 f103 f105 f106 f107 f108 f109 f110 f111 f112 f113 f114 f115 f117 f118 f119 f120 f121 f122 f123 f124 f125 f126 f127 f128 f129 f130 f131 f133 f134 f135 f136 f137 f138 f141 f142 f143 f144 f149 f150 f151 f153 f154 f155 f156 f157 f158 f159 f160 f161 f162 f163 f164 f165 f166 f167 f168 f169 f170 f171 f172 f173 f174 f177 f184 f185 f186 f187 f190 f191 f192 f194 f195 f196 f197 f198 f199 f200 f201 f202 f214 f223 f224 f227 f228 f229 f230 f241)
abbrev y14:Ty:=.int .u8
abbrev y2:Ty:=.int .i64
abbrev y6:Ty:=.list .term
abbrev y3:Ty:=.pair .term .term
abbrev y9:Ty:=.pair .str y2
abbrev y1:Ty:=.pair .term y2
abbrev y7:Ty:=.list y3
abbrev y4:Ty:=.list y1
abbrev y12:Ty:=.map y9 .term
abbrev y11:Ty:=.pair .str (.pair y2 .bool)
abbrev y8:Ty:=.pair .str (.pair y2 y2)
abbrev y13:Ty:=.list y8
abbrev y5:Ty:=.pair .str (.pair y2 (.pair y2 y2))
abbrev y10:Ty:=.list y5
abbrev cK:Co:=.keep
abbrev cL:Co:=.list .term
abbrev cA:Co:=.box [cK,cK,cK,cL]
abbrev cB:Co:=.box [cK,cK,cK,.row .term false]
def i8:FI:=⟨f8,[.val .term,.val .str],[.bool],[],[],u2 law20_EnvelopeFits⟩
def i10:FI:=⟨f10,[],[.bool],[],[],u0 qgf⟩
def i11:FI:=⟨f11,[.val .str],[.term,y2,y2],[],[],u1 qaf⟩
def i12:FI:=⟨f12,[.val .str],[.term,y2,y2],[],[],u1 qhO⟩
def i13:FI:=⟨f13,[.val .term,.val .term],[.bool],[],[],u2 ja⟩
def i14:FI:=⟨f14,[.val .term],[.str,y2],[],[],u1 qmH⟩
def i15:FI:=⟨f15,[.val y6],[.bool],[],[],u1 qnA⟩
def i26:FI:=⟨f26,[.val y6],[y2,y2,.term,y2],[(5,[(0,cL),(4,cB),(20,cK),(21,cK)]),(9,[(0,cL),(4,cB),(7,cK),(8,cA),(9,cK),(20,cK),(21,cK)])],[],u1 qfY⟩
def i27:FI:=⟨f27,[.val .term,.val .str],[y7,y2],[],[],u2 qgk⟩
def i28:FI:=⟨f28,[.val .term,.val .str],[y7,y2],[],[],u2 qkQ⟩
def i29:FI:=⟨f29,[.val y7,.val y7],[.bool],[(4,[(0,.list y3),(1,.list y3),(5,cK)])],[],u2 qbX⟩
def i30:FI:=⟨f30,[.val .term],[.bool],[(5,[(3,cL),(4,cK)])],[],u1 qkT⟩
def i32:FI:=⟨f32,[.val .str,.val y6],[.term],[],[],u2 yP⟩
def i33:FI:=⟨f33,[.val .str,.val y2],[.term],[],[],u2 qkD⟩
def i34:FI:=⟨f34,[.val .str,.val y2],[.term],[],[],u2 qnb⟩
def i36:FI:=⟨f36,[.val .term],[y2],[],[],u1 zj⟩
def i37:FI:=⟨f37,[.val .term],[.bool],[],[],u1 qe2⟩
def i38:FI:=⟨f38,[.val .str,.val y2],[.term,y2,.bool],[(12,[(0,cK),(4,cB),(7,cB),(8,cK),(9,cK),(11,cK)])],[],u2 qW⟩
def i39:FI:=⟨f39,[.val .term],[y2],[(3,[(1,cA),(3,cK),(4,cK)])],[],u1 jc⟩
def i40:FI:=⟨f40,[.val .term],[y2],[(3,[(1,cA),(3,cK),(4,cK)])],[],u1 jv⟩
def i41:FI:=⟨f41,[.val .term],[y2],[],[],u1 qci⟩
def i42:FI:=⟨f42,[.val .term],[.bool],[(6,[(5,cL),(6,cK)])],[],u1 qjn⟩
def i43:FI:=⟨f43,[.val .term,.val .term],[y2],[(18,[(2,cA),(3,cA),(9,cK)])],[],u2 zR⟩
def i44:FI:=⟨f44,[.val .term],[y2],[],[],u1 qa6⟩
def i45:FI:=⟨f45,[.val .term],[y6],[],[],u1 qjG⟩
def i46:SI:=⟨f46,[.row y14,.val .term],[.one (.row y14)],[(8,[(0,.row y14 false),(46,cL),(47,cK),(48,cK)])],[],u2 qfQ⟩
def i47:FI:=⟨f47,[.val y6,.val y2,.val y2],[.bool],[(4,[(0,cL),(2,cK),(7,cK)])],[],u3 qnr⟩
def i50:FI:=⟨f50,[.val y6],[y2],[(4,[(9,cL),(10,cK),(11,cK)])],[],u1 qkn⟩
def i51:FI:=⟨f51,[.val y2],[.str],[],[],u1 qmz⟩
def i52:FI:=⟨f52,[.val y7,.val .term],[.term],[(2,[(0,.list y3),(3,cA),(4,cB),(10,.list y3),(11,cK),(12,cK)]),(10,[(0,.list y3),(4,cB),(7,cB),(27,cL),(28,cK),(29,cK)])],[],u2 qeZ⟩
def i55:FI:=⟨f55,[.val .term],[y2],[],[],u1 yA⟩
def i56:SI:=⟨f56,[.val .term,.val .str,.box [.val (.map .str .str)]],[.one (.val .term)],[(9,[(1,cK),(2,.box []),(6,cB),(7,cB),(38,cL),(39,cK),(40,cK)])],[],u3 qcY⟩
def i57:FI:=⟨f57,[.val .term,.val .term],[y7,y2],[],[],u2 quf⟩
def i58:FI:=⟨f58,[.val .term],[y2],[],[],u1 qa4⟩
def i59:FI:=⟨f59,[.val .term,.val .term],[y7,y2],[(9,[(7,.box []),(8,.row y3 false),(25,cL),(26,cK),(27,cK)])],[],u2 qjt⟩
def i60:FI:=⟨f60,[.val .term],[y2],[],[],u1 qgJ⟩
def i61:FI:=⟨f61,[.val .term,.val .term],[y7,y2],[(8,[(2,cA),(7,.row y3 false),(9,cK)]),(11,[(2,cA),(7,.row y3 false),(9,cK),(10,cK)]),(18,[(7,.row y3 false),(11,.row y3 false),(12,cL),(13,cK)]),(21,[(7,.row y3 false),(11,.row y3 false),(12,cL),(13,cK),(14,cK)])],[],u2 qjm⟩
def i62:FI:=⟨f62,[.val .term],[y6],[(3,[(1,cA),(3,.row .term true),(4,cK)])],[],u1 j8⟩
def i63:FI:=⟨f63,[.val .str],[.bool],[],[],u1 qea⟩
def i64:FI:=⟨f64,[.val .str],[y2],[(3,[(0,cK),(3,.list y5),(4,cK)])],[],u1 qdC⟩
def i66:FI:=⟨f66,[.val .str],[.bool],[],[],u1 qgt⟩
def i67:SI:=⟨f67,[.box [.val y11]],[.agg [.val y2,.val .str,.val y2,.row .term,.val y2]],[],[],u1 qy⟩
def i68:SI:=⟨f68,[.val .term,.val y2,.box [.val y2],.box [.val y2]],[.one (.val y2)],[(17,[(1,cK),(2,.box [cK]),(3,.box [cK]),(57,cL),(58,cK),(59,cK)])],[],u4 yi⟩
def i69:FI:=⟨f69,[.val .term],[.term,y2],[],[],u1 qgm⟩
def i70:FI:=⟨f70,[.val .term,.val .term],[.bool],[],[],u2 JZ⟩
def i71:FI:=⟨f71,[.val .term,.fn],[.bool],[(4,[(1,cK),(18,cL),(19,cK),(20,cK)])],[],u1 zc⟩
def qKn:FI:=⟨f71,[.val .term,.fn],[.bool],[(4,[(1,cK),(18,cL),(19,cK),(20,cK)])],[],u1 qV⟩
def i72:FI:=⟨f72,[.val .str],[.bool],[],[],u1 qfC⟩
def i73:FI:=⟨f73,[.val .str],[y5],[(2,[(0,cK),(2,.box [cK,cK,cK,cK]),(5,.list y5),(6,cK),(7,cK)])],[],u1 qbQ⟩
def i74:FI:=⟨f74,[.val .str,.val y2],[.term,y2,.bool],[(8,[(0,cK),(1,cK),(4,cB),(7,cB),(8,cK),(9,cK)])],[],u2 qdz⟩
def i75:FI:=⟨f75,[],[(.list .str)],[],[],u0 qnO⟩
def i76:FI:=⟨f76,[.val .str,.val y2,.val .str],[y2,y2,.bool],[(4,[(0,cK),(1,cK),(2,cK),(9,.list y5),(10,cK)])],[],u3 qdx⟩
def i77:FI:=⟨f77,[.val .term],[y2],[(11,[(1,cA),(4,cK)])],[],u1 jr⟩
def i78:FI:=⟨f78,[.val .term],[.term,y2],[],[],u1 qh1⟩
def i79:FI:=⟨f79,[.val y2,.val y2],[y2],[],[],u2 qbk⟩
def i80:FI:=⟨f80,[.val .term],[y2],[(13,[(1,cA),(38,cL),(39,cK),(40,cK)]),(22,[(62,cL),(63,cK),(64,cK)])],[],u1 qN⟩
def i81:FI:=⟨f81,[.val .term,.val y2],[y6],[],[],u2 qnR⟩
def i82:SI:=⟨f82,[.val y13,.clo 84 1,.box [.val .term]],[.one (.val y2)],[(2,[(0,.list y8),(1,.fn [cA]),(7,cK),(8,cK)])],[],u2 jt⟩
def i83:FI:=⟨f83,[],[y13],[],[],u0 yv⟩
def i84:SI:=⟨f84,[.val y8,.box [.val .term]],[.one (.val .bool)],[],[],u2 qhc⟩
def i85:FI:=⟨f85,[.val y8],[.bool],[],[],u1 yG⟩
def i86:FI:=⟨f86,[.val .term,.val y2],[y2],[(5,[(1,cK),(2,cA),(5,cK)])],[],u2 jl⟩
def i87:FI:=⟨f87,[.val .term],[y6],[],[],u1 qkL⟩
def i88:FI:=⟨f88,[.val y2],[.str],[],[],u1 qhj⟩
def i89:FI:=⟨f89,[.val .term,.val .term],[y2],[(11,[(2,cA),(3,cA),(5,cK),(6,cK)])],[],u2 qz⟩
def i90:FI:=⟨f90,[.val .term],[y2],[(5,[(1,cA),(4,cK)])],[],u1 jO⟩
def i91:FI:=⟨f91,[.val .term,.val .term],[y2],[],[],u2 qjl⟩
def i92:FI:=⟨f92,[.val y7],[y7,y2],[(2,[(4,.box [.list y3,.row y3 false])])],[],u1 qug⟩
def i93:FI:=⟨f93,[.val .term],[.bool],[],[],u1 qjf⟩
def i94:SI:=⟨f94,[.val .term,.val .term,.box [.val y12]],[.one (.val .bool)],[(10,[(2,.box []),(3,cA),(4,cA),(39,cK),(40,cK)])],[],u3 Qa⟩
def i95:FI:=⟨f95,[.val .term],[y9],[],[],u1 qdc⟩
def i96:FI:=⟨f96,[.val .term,.val .term],[.bool],[],[],u2 qaK⟩
def i97:FI:=⟨f97,[.val .term,.val .term],[y2],[],[],u2 qpP⟩
def i98:SI:=⟨f98,[.val .term,.val .term,.row y3],[.one (.row y3),.one (.val .bool)],[(9,[(2,.row y3 false),(3,cA),(4,cA),(8,cK),(9,cK)])],[],u3 jP⟩
def i99:FI:=⟨f99,[],[y10],[],[],u0 qgs⟩
def qSD:SI:=⟨f100,[.box [.val y11],.val y2,.val y2],[.one (.val y2)],[],[],u3 zh⟩
def qPh:SI:=⟨f101,[.box [.val y11]],[.one (.val .str)],[(4,[(0,.box [cK,cK,cK]),(4,cK),(14,cK),(15,cK)])],[],u1 Jl⟩
def qOW:FI:=⟨f102,[.val .str],[.bool],[(4,[(0,cK),(38,cK),(39,cK)])],[],u1 qdY⟩
def qOr:FI:=⟨f103,[.val .term],[.term,y2],[(5,[(1,cA),(2,cB),(4,cB),(19,cL),(20,cK),(21,cK)])],[],u1 yH⟩
def qM4:FI:=⟨f105,[.val .str],[.bool],[(4,[(0,cK),(3,cK)])],[],u1 J2⟩
def qN4:FI:=⟨f106,[.val .term],[.bool],[(3,[(1,cA),(3,.list y5),(4,cK)])],[],u1 qk5⟩
def qOc:FI:=⟨f107,[.val .term],[.bool],[(4,[(1,cA),(3,cK)])],[],u1 qid⟩
def qOD:FI:=⟨f108,[.val .term],[.term,y2],[(5,[(1,cA),(2,cB),(4,.row .term false),(5,cK)])],[],u1 jq⟩
def qO3:SI:=⟨f109,[.val .term,.clo 110 2,.box [.val y2],.box [.row .term]],[],[(3,[(1,.fn [.box [cK],.box [.row .term false]]),(10,cL),(11,cK),(12,cK)])],[],u3 zA⟩
def qRj:SI:=⟨f110,[.val .term,.box [.val y2],.box [.row .term]],[],[],[],u3 qaM⟩
def qPw:SI:=⟨f111,[.row .term],[.one (.row .term)],[(4,[(0,.row .term false),(9,cK),(10,cK)])],[],u1 qma⟩
def qOQ:FI:=⟨f112,[.val .term,.val y2],[y6],[(4,[(1,cK),(5,.row .term false),(6,cL),(7,cK)])],[],u2 qle⟩
def qR1:FI:=⟨f113,[.val y2,.val y2],[.str],[],[],u2 qdM⟩
def qS1:FI:=⟨f114,[.val y2,.val y2],[y2],[],[],u2 qeH⟩
def qNF:FI:=⟨f115,[.val .term],[y2],[(3,[(3,cK),(7,cL),(8,cK),(9,cK)])],[],u1 Qt⟩
def qRI:FI:=⟨f117,[.val .term],[y2],[],[],u1 qk7⟩
def qMX:SI:=⟨f118,[.box [.val y7,.row y3]],[.one (.val y2)],[(8,[(0,.box [.list y3,.row y3 false]),(3,cA),(4,cA),(5,.row y3 false),(39,cK),(40,cK)])],[],u1 qlF⟩
def qSb:SI:=⟨f119,[.row y3],[.one (.row y3)],[],[],u1 qm3⟩
def qSs:FI:=⟨f120,[.val .str],[.bool],[],[],u1 qgv⟩
def qRP:FI:=⟨f121,[.val .term],[.bool],[],[],u1 qaT⟩
def qSo:FI:=⟨f122,[.val .term,.val .term],[.bool],[],[],u2 qfU⟩
def qSZ:FI:=⟨f123,[.val .term,.val .term],[.bool],[],[],u2 qgd⟩
def qSu:FI:=⟨f124,[.val .term,.val .term],[.bool],[],[],u2 qkN⟩
def qRS:FI:=⟨f125,[.val .term,.val .term],[.bool],[],[],u2 qkW⟩
def qSX:FI:=⟨f126,[.val y14],[.bool],[],[],u1 qjH⟩
def qRg:FI:=⟨f127,[.val .term],[.term],[],[],u1 qc7⟩
def qPn:FI:=⟨f128,[.val y6],[.term,y2],[(6,[(2,.box [cK,cK,cK,.row .term true]),(5,cL),(15,cL),(16,cK),(17,cK)])],[],u1 qti⟩
def qRK:FI:=⟨f129,[.val .term],[y4,y2],[],[],u1 qch⟩
def qF8:FI:=⟨f130,[.val y4],[.term,y2],[(6,[(2,cB),(5,.row .term false),(6,.row .term false),(18,.list y1),(19,cK),(20,cK)]),(11,[(2,cB),(5,.row .term false),(6,.row .term false),(8,.box [cK,cK,cK,.list .term,cK]),(18,.list y1),(19,cK),(20,cK),(34,cK),(35,cK)]),(15,[(2,cB),(5,.row .term false),(6,.row .term false),(8,.box [cK,cK,cK,.list .term,cK]),(18,.list y1),(19,cK),(20,cK),(46,cK),(47,cK)])],[],u1 Jt⟩
def qS3:FI:=⟨f131,[.val .term,.val .term],[.term,y2],[],[],u2 qht⟩
def qR8:FI:=⟨f133,[.val y14],[.bool],[],[],u1 qe1⟩
def qRr:FI:=⟨f134,[.val y14],[.bool],[],[],u1 qjo⟩
def qSg:FI:=⟨f135,[.val .term],[.term,.bool],[],[],u1 qgK⟩
def qOv:FI:=⟨f136,[.val y6],[.term,y2],[(6,[(0,cL),(2,.box [cK,cK,cK,.row .term true]),(5,cL),(6,cK)])],[],u1 qnC⟩
def qSr:FI:=⟨f137,[.val .term],[.term,y2],[],[],u1 qdV⟩
def qRD:FI:=⟨f138,[.val .term,.val .term],[.term,y2],[],[],u2 qjp⟩
def qSn:FI:=⟨f141,[.val .term,.val .term],[.bool],[],[],u2 ji⟩
def qOU:FI:=⟨f142,[.val .term],[.term],[(4,[(1,cB),(2,cB),(9,cL),(10,cK),(11,cK)])],[],u1 jG⟩
def qO5:FI:=⟨f143,[.val y6],[y6],[(3,[(0,cL),(3,cL),(4,cK)])],[],u1 qmR⟩
def qRF:FI:=⟨f144,[.val y2],[.str],[],[],u1 qgh⟩
def qSz:SI:=⟨f149,[.box [.val y7,.row y3],.val .term,.val .term],[.one (.val y2)],[],[],u3 qmX⟩
def qRW:FI:=⟨f150,[.val .term,.val .term],[.bool],[],[],u2 qeQ⟩
def qJm:SI:=⟨f151,[.box [.val y7,.row y3],.val .term,.val .term],[.one (.val y2)],[(6,[(0,.box [.list y3,.row y3 false]),(4,cA),(5,cA),(8,.box [cK]),(9,.fn [.box [.box []],.box []]),(10,.row y3 false),(25,cK),(26,cK)]),(12,[(0,.box [.list y3,.row y3 false]),(4,cA),(5,cA),(8,.box [cK]),(9,.fn [.box [.box []],.box []]),(10,.row y3 false),(46,cK),(47,cK)])],[],u3 qbf⟩
def qRw:FI:=⟨f153,[.val y3,.val y3],[y2],[],[],u2 qf0⟩
def qTc:FI:=⟨f154,[.val .term,.val .str],[.bool],[],[],u2 jy⟩
def qM6:FI:=⟨f155,[.val y6,.val y6],[y2],[(4,[(14,cL),(15,cK),(16,cK)])],[],u2 qm6⟩
def qOT:FI:=⟨f156,[.val y6,.val y6],[y6],[(2,[(0,cL),(1,cL),(5,.row .term false)])],[],u2 qmf⟩
def qM5:FI:=⟨f157,[.val .term],[y6],[(6,[(3,cL),(31,cL),(32,cK),(33,cK)])],[],u1 yN⟩
def qPf:FI:=⟨f158,[.val y6],[y6],[(3,[(3,.row .term false),(9,cL),(10,cK),(11,cK)])],[],u1 qad⟩
def qPo:SI:=⟨f159,[.row y1,.val .term,.val y2],[.one (.row y1),.one (.val .bool)],[(12,[(0,.row y1 false),(2,cK),(52,cL),(53,cK),(54,cK)])],[],u3 zw⟩
def qM3:FI:=⟨f160,[.val y4],[y2],[(4,[(0,.list y1),(9,.list y1),(10,cK),(11,cK)])],[],u1 qaV⟩
def qO4:FI:=⟨f161,[.val .term],[.term],[(3,[(1,cB),(2,cB),(10,.row .term false),(11,cK),(12,cK)])],[],u1 zC⟩
def qS4:FI:=⟨f162,[.val .str,.val y6],[.term],[],[],u2 qe5⟩
def qJY:FI:=⟨f163,[.val (.list y6)],[y6],[(3,[(0,.list y6),(3,cK),(9,.list y6),(10,cK),(11,cK)]),(11,[(6,.row .term false),(25,.list y6),(26,cK),(27,cK)])],[],u1 zV⟩
def qOu:FI:=⟨f164,[.val y4,.val y4],[y4,y2],[(9,[(8,.row y1 false),(23,.list y1),(24,cK),(25,cK)])],[],u2 qiq⟩
def qRQ:FI:=⟨f165,[.val .str,.val y6],[.term],[],[],u2 qh7⟩
def qSU:FI:=⟨f166,[.val .term,.val .str],[.bool],[],[],u2 qcp⟩
def qNC:FI:=⟨f167,[.val y6,.val .term],[y2],[(4,[(0,cL),(3,cA),(5,cK)])],[],u2 qje⟩
def qTa:FI:=⟨f168,[],[.term],[],[],u0 qkP⟩
def qOk:FI:=⟨f169,[.val y6,.val y6],[y6],[(3,[(1,cL),(5,.plist .term),(6,cK)])],[],u2 qig⟩
def qNN:FI:=⟨f170,[.val .term],[y6],[(7,[(1,cA),(3,cL),(4,cK)])],[],u1 ya⟩
def qSN:FI:=⟨f171,[.val y6],[.term],[],[],u1 qk4⟩
def qSC:FI:=⟨f172,[.val .term],[y4,y2],[],[],u1 qjb⟩
def qSV:FI:=⟨f173,[.val y4],[.term,y2],[],[],u1 qde⟩
def qOR:FI:=⟨f174,[.val y4,.val y4],[y4,y2],[(9,[(1,.list y1),(8,.row y1 false),(9,cK)])],[],u2 qmV⟩
def qOq:FI:=⟨f177,[.val y6,.val .term],[y6],[(4,[(0,cL),(3,cA),(5,.row .term false),(6,cK),(7,cK)])],[],u2 qjR⟩
def qRN:SI:=⟨f184,[.val y6,.clo 185 1,.box [.val .term]],[.one (.val .bool)],[],[],u2 yO⟩
def qSI:SI:=⟨f185,[.val .term,.box [.val .term]],[.one (.val .bool)],[],[],u2 qd7⟩
def qNx:SI:=⟨f187,[.box [.val y12],.val .term],[.one (.val .term)],[(10,[(0,.box []),(3,cA),(4,cB),(7,.row .term false),(32,cL),(33,cK),(34,cK)])],[],u2 qeY⟩
def qNv:FI:=⟨f190,[.val .term,.val (.list y2),.val .term],[.term,y2],[(4,[(5,cA),(6,cB),(8,cA),(9,.box []),(14,.list y2),(15,cK),(16,cK)])],[],u3 qhG⟩
def qSW:FI:=⟨f191,[.val .term],[.bool],[],[],u1 qbT⟩
def qRs:SI:=⟨f192,[.row y1,.val y1],[.one (.row y1)],[],[],u2 qb3⟩
def qND:SI:=⟨f194,[.val y4],[.one (.row y1)],[(3,[(3,.row y1 false),(6,.list y1),(7,cK),(8,cK)])],[],u1 qeu⟩
def qSw:FI:=⟨f195,[.val y4],[y4,y2],[],[],u1 qev⟩
def qPm:FI:=⟨f196,[.val y6,.val .term],[y6],[(5,[(0,cL),(3,cA),(5,.row .term false),(6,cK)])],[],u2 qhu⟩
def qNU:FI:=⟨f197,[.val .term],[.bool],[(7,[(1,cA),(3,cK),(4,cK)])],[],u1 js⟩
def qNB:SI:=⟨f198,[.row y1,.val .term,.val y2],[.one (.row y1)],[(6,[(0,.row y1 false),(2,cK),(4,cA),(7,cK)])],[],u3 yp⟩
def qMQ:FI:=⟨f199,[.val y4],[y2],[(4,[(0,.list y1),(3,cK)])],[],u1 qdX⟩
def qz4:FI:=⟨f200,[.val y4],[y6],[(3,[(0,.list y1),(3,.row .term false),(4,cK)]),(6,[(0,.list y1),(3,.row .term false),(4,cK),(5,cK)]),(10,[(0,.list y1),(3,.row .term false),(6,cK)]),(13,[(0,.list y1),(3,.row .term false),(6,cK),(7,cK)])],[],u1 qfF⟩
def qNJ:SI:=⟨f201,[.row y1,.val .term,.val y2],[.one (.row y1)],[(4,[(0,.row y1 false),(2,cK),(4,cA),(7,.row y1 false),(8,cK),(9,cK)])],[],u3 qjU⟩
def qOd:FI:=⟨f202,[.val y4],[y2],[(2,[(0,.list y1),(3,cK)])],[],u1 qgG⟩
def qOJ:SI:=⟨f214,[.val y6,.clo 185 1,.box [.val .term]],[.one (.val y2)],[(2,[(0,cL),(1,.fn [cA]),(7,cK),(8,cK)])],[],u2 jn⟩
def qOA:FI:=⟨f223,[.val y4,.val .term,.fn],[y2,.bool],[(3,[(0,.list y1),(2,cK),(4,cA),(8,cK),(9,cK),(10,cK)])],[],u2 qP⟩
def qR6:FI:=⟨f224,[.val y1,.val .term],[y2],[],[],u2 qaA⟩
def qSP:FI:=⟨f227,[.val y4,.fn],[.bool],[],[],u1 zN⟩
def qSM:FI:=⟨f228,[.val y1],[.bool],[],[],u1 qct⟩
def qOy:FI:=⟨f229,[.val y6,.val .term],[.bool],[(2,[(0,cL),(3,cA),(5,cK)])],[],u2 qno⟩
def qSa:FI:=⟨f230,[.val .term],[.bool],[],[],u1 qbR⟩
def qO8:FI:=⟨f241,[.val y4,.fn],[y2],[(2,[(0,.list y1),(1,cK),(7,cK),(8,cK)])],[],u1 zZ⟩
def elT(f:Nat):Option Ty:=
cond (Nat.blt f 107)
 (cond (Nat.blt f 73)
 (cond (Nat.blt f 48)
 (cond (Nat.beq f 23) (some .term) (none))
 (cond (Nat.blt f 66)
 (cond (Nat.beq f 48) (some y3) (none))
 (cond (Nat.beq f 66) (some y14) (none))))
 (cond (Nat.blt f 90)
 (cond (Nat.blt f 81)
 (cond (Nat.beq f 73) (some (.map .str .str)) (none))
 (cond (Nat.beq f 81) (some y1) (none)))
 (cond (Nat.blt f 97)
 (cond (Nat.beq f 90) (some .str) (none))
 (cond (Nat.beq f 97) (some y8) (none)))))
 (cond (Nat.blt f 118)
 (cond (Nat.blt f 108)
 (cond (Nat.beq f 107) (some y3) (none))
 (cond (Nat.blt f 113)
 (cond (Nat.beq f 108) (some y12) (none))
 (cond (Nat.beq f 113) (some y3) (none))))
 (cond (Nat.blt f 180)
 (cond (Nat.blt f 134)
 (cond (Nat.beq f 118) (some y5) (none))
 (cond (Nat.beq f 134) (some y1) (none)))
 (cond (Nat.blt f 201)
 (cond (Nat.beq f 180) (some y6) (none))
 (cond (Nat.beq f 201) (some y2) (none)))))
def tb:Tb:=⟨tyT,elT,.node 111 (.node 67 (.node 40 (.node 28 (.node 14 (.node 11 (.node 10 (tL 8 (eP i8)) .leaf (eP i10)) (.node 13 (tL 12 (eP i12)) .leaf (eP i13)) (eP i11)) (.node 26 (.node 23 (tL 15 (eP i15)) .leaf (.hs ⟨[.val y6],[.one (.row .term)],λ x=>yb 0 x.1⟩)) (tL 27 (eP i27)) (eP i26)) (eP i14)) (.node 35 (.node 32 (.node 30 (tL 29 (eP i29)) .leaf (eP i30)) (.node 34 (tL 33 (eP i33)) .leaf (eP i34)) (eP i32)) (.node 38 (.node 37 (tL 36 (eP i36)) .leaf (eP i37)) (tL 39 (eP i39)) (eP i38)) (.hx λ m=>⟨[.box [.val RD]],[.one (.val .term)],λ x=>jA m x.1⟩)) (eP i28)) (.node 55 (.node 46 (.node 43 (.node 42 (tL 41 (eP i41)) .leaf (eP i42)) (.node 45 (tL 44 (eP i44)) .leaf (eP i45)) (eP i43)) (.node 51 (.node 50 (tL 47 (eP i47)) .leaf (eP i50)) (tL 52 (eP i52)) (eP i51)) (eS i46)) (.node 61 (.node 58 (.node 57 (tL 56 (eS i56)) .leaf (eP i57)) (.node 60 (tL 59 (eP i59)) .leaf (eP i60)) (eP i58)) (.node 64 (.node 63 (tL 62 (eP i62)) .leaf (eP i63)) (tL 66 (eP i66)) (eP i64)) (eP i61)) (eP i55)) (eP i40)) (.node 89 (.node 78 (.node 73 (.node 70 (.node 69 (tL 68 (eS i68)) .leaf (eP i69)) (.node 72 (.node 71 .leaf .leaf (.pure [([72],i71),([120],qKn)])) .leaf (eP i72)) (eP i70)) (.node 76 (.node 75 (tL 74 (eP i74)) .leaf (eP i75)) (tL 77 (eP i77)) (eP i76)) (eP i73)) (.node 84 (.node 81 (.node 80 (tL 79 (eP i79)) .leaf (eP i80)) (.node 83 (tL 82 (eS i82)) .leaf (eP i83)) (eP i81)) (.node 87 (.node 86 (tL 85 (eP i85)) .leaf (eP i86)) (tL 88 (eP i88)) (eP i87)) (eS i84)) (eP i78)) (.node 100 (.node 95 (.node 92 (.node 91 (tL 90 (eP i90)) .leaf (eP i91)) (.node 94 (tL 93 (eP i93)) .leaf (eS i94)) (eP i92)) (.node 98 (.node 97 (tL 96 (eP i96)) .leaf (eP i97)) (tL 99 (eP i99)) (eS i98)) (eP i95)) (.node 106 (.node 103 (.node 102 (tL 101 (eS qPh)) .leaf (eP qOW)) (.node 105 (.node 104 .leaf .leaf (.hp ⟨[],[y10],λ x=>qiC 0⟩)) .leaf (eP qM4)) (eP qOr)) (.node 109 (.node 108 (tL 107 (eP qOc)) .leaf (eP qOD)) (tL 110 (eS qRj)) (eS qO3)) (eP qN4)) (eS qSD)) (eP i89)) (eS i67)) (.node 160 (.node 134 (.node 122 (.node 117 (.node 114 (.node 113 (tL 112 (eP qOQ)) .leaf (eP qR1)) (.node 116 (tL 115 (eP qNF)) .leaf (.hp ⟨[.val .str,.val .str],[y2],λ x=>strings_Compare 0 x.1 x.2.1⟩)) (eP qS1)) (.node 120 (.node 119 (tL 118 (eS qMX)) .leaf (eS qSb)) (tL 121 (eP qRP)) (eP qSs)) (eP qRI)) (.node 128 (.node 125 (.node 124 (tL 123 (eP qSZ)) .leaf (eP qSu)) (.node 127 (tL 126 (eP qSX)) .leaf (eP qRg)) (eP qRS)) (.node 131 (.node 130 (tL 129 (eP qRK)) .leaf (eP qF8)) (tL 133 (eP qR8)) (eP qS3)) (eP qPn)) (eP qSo)) (.node 149 (.node 140 (.node 137 (.node 136 (tL 135 (eP qSg)) .leaf (eP qOv)) (.node 139 (tL 138 (eP qRD)) .leaf (.hm λ m=>⟨.term,[.clo 89 0],λ x=>q9 m x.1⟩)) (eP qSr)) (.node 143 (.node 142 (tL 141 (eP qSn)) .leaf (eP qOU)) (tL 144 (eP qRF)) (eP qO5)) (.hx λ m=>⟨[.row .term,.clo 141 0],[.one (.row .term)],λ x=>qM m x.1⟩)) (.node 155 (.node 152 (.node 151 (tL 150 (eP qRW)) .leaf (eS qJm)) (.node 154 (tL 153 (eP qRw)) .leaf (eP qTc)) (.hm λ m=>⟨y3,[.clo 153 0],λ x=>yD m x.1⟩)) (.node 158 (.node 157 (tL 156 (eP qOT)) .leaf (eP qM5)) (tL 159 (eS qPo)) (eP qPf)) (eP qM6)) (eS qSz)) (eP qRr)) (.node 191 (.node 171 (.node 166 (.node 163 (.node 162 (tL 161 (eP qO4)) .leaf (eP qS4)) (.node 165 (tL 164 (eP qOu)) .leaf (eP qRQ)) (eP qJY)) (.node 169 (.node 168 (tL 167 (eP qNC)) .leaf (eP qTa)) (tL 170 (eP qNN)) (eP qOk)) (eP qSU)) (.node 185 (.node 174 (.node 173 (tL 172 (eP qSC)) .leaf (eP qSV)) (.node 184 (tL 177 (eP qOq)) .leaf (eS qRN)) (eP qOR)) (.node 188 (.node 187 (.node 186 .leaf .leaf (.il f186)) .leaf (eS qNx)) (tL 190 (eP qNv)) (.hs ⟨[.val y7],[.one (.row y3)],λ x=>jb 0 x.1⟩)) (eS qSI)) (eP qSN)) (.node 202 (.node 197 (.node 194 (.node 193 (tL 192 (eS qRs)) .leaf (.hs ⟨[.nil,.val y2],[.one (.row .term)],λ x=>yX 0 x.1⟩)) (.node 196 (tL 195 (eP qSw)) .leaf (eP qPm)) (eS qND)) (.node 200 (.node 199 (tL 198 (eS qNB)) .leaf (eP qMQ)) (tL 201 (eS qNJ)) (eP qz4)) (eP qNU)) (.node 227 (.node 224 (.node 223 (tL 214 (eS qOJ)) .leaf (.pure [([224],qOA)])) (.node 226 (.node 225 .leaf .leaf (.hs ⟨[.row y1,.val y2,.val y4],[.one (.row y1)],λ x=>zH 0 x.1 x.2.1 x.2.2.1⟩)) .leaf (.hs ⟨[.row y1,.val y2,.val y2],[.one (.row y1)],λ x=>zG 0 x.1 x.2.1 x.2.2.1⟩)) (eP qR6)) (.node 230 (.node 229 (tL 228 (eP qSM)) .leaf (eP qOy)) (tL 241 (.pure [([228],qO8)])) (eP qSa)) (.pure [([228],qSP)])) (eP qOd)) (eP qSW)) (eP qM3)) (eS qPw)⟩
end Go.AmZ
namespace Go.AmZ
open Go Go.GxZ
set_option linter.unusedVariables false
set_option maxRecDepth 100000
universe u v
theorem qG{α:Type}[NF α]{M:Nat->α}{s:α->α}{k:Nat}(b:NF.z=M 0:=by rfl)(a:(λ k=>M (k+1))=λ k=>s (M k):=by kernel_rfl):qC s k=M k:=qTv b (λ k=>congrFun a k) k
theorem okk{b:Tb}{c:List Nat}{i:FI}(h:(λ m a=>i.F (m+1) a)=λ m a=>b.runP1 m i c a:=by kernel_rfl):okP b c i:=λ m a=>congrFun (congrFun h m) a
theorem okq{b:Tb}{i:SI}(h:(λ m a=>i.F (m+1) a)=λ m a=>b.runS1 m i a:=by kernel_rfl):okS b i:=λ m a=>congrFun (congrFun h m) a
theorem tK{α:Sort u}{a:Sort v}{x y:α}{c:a}(f:α->a)(h:x=y)(e:f y=c:=by kernel_rfl):f x=c:=(congrArg f h).trans e
theorem qq8:okP tb [] i83:=okk
theorem qkk:okP tb [] i85:=okk
theorem qmE:okS tb qSD:=okq
def qmC(m k x0 x1 x2 x3 x4 x5):=tb.QL qPh 4 m k [(0,.ptr 0 0),(4,vI x0),(14,vI x1),(15,vI x2)] ⟨[[.s x3,vI x4,.b x5]],[]⟩
theorem qlK(m k):yl m k=qmC m k:=qG
theorem qmF:okS tb qPh:=λ m a=>tK (λ L=>JD m L a.1) (qlK m m)
theorem qmB:okS tb i67:=okq
theorem qD6:okP tb [] qSX:=okk
def qy8(m k x0 x1 x2):=tb.PL qOW 4 m k [(0,.s x0),(38,vI x1),(39,vI x2)] ⟨[],[]⟩
theorem qxJ(m k):QA m k=qy8 m k:=qG
theorem qyr:okP tb [] qOW:=λ m a=>tK (λ L=>qft m L a.1) (qxJ m m)
def qB2(m k x0 x1 x2 x3 x4 x5):=tb.QL i68 17 m k [(1,vI x0),(2,.ptr 0 0),(3,.ptr 1 0),(57,vT x1),(58,vI x2),(59,vI x3)] ⟨[[vI x4],[vI x5]],[]⟩
theorem qyK(m k):jK m (yi m) k=qB2 m k:=qG
theorem qCk:okS tb i68:=λ m a=>tK (λ L=>qgD m (yi m) L a.1 a.2.1 a.2.2.1 a.2.2.2.1) (qyK m m)
theorem qCt:okP tb [] i36:=okk
def qvO(m k x0 x1 x2 x3 x4 x5 x6 x7):=tb.PL i73 2 m k [(0,.s x0),(2,.ptr 0 0),(5,.sl y5 x1 1),(6,vI x2),(7,vI x3)] ⟨[[.s x4,vI x5,vI x6,vI x7]],[]⟩
theorem qtF(m k):Jd m k=qvO m k:=qG
theorem qvr:okP tb [] i73:=λ m a=>tK (λ L=>qdJ m L a.1) (qtF m m)
def qnn(m k x0 x1 x2 x3 x4 x5 x6):=tb.PL i80 13 m k [(1,.ptr 0 0),(38,vT x0),(39,vI x1),(40,vI x2)] ⟨[[vI x3,.s x4,vI x5,vT x6]],[]⟩
def qnE(m k x0 x1 x2):=tb.PL i80 22 m k [(62,vT x0),(63,vI x1),(64,vI x2)] ⟨[],[]⟩
theorem quj(m k):zf m (qN m) k=(qnn m k,qnE m k):=qG (M:=λ k=>(qnn m k,qnE m k))
theorem qyo:okP tb [] i80:=λ m a=>tK (x:=zf m (qN m) m) (λ L=>qeq m (qN m) L.1 L.2 a.1) (quj m m)
theorem qxl:okP tb [] i44:=okk
theorem qDJ:okP tb [] qS1:=okk
def qEK(m k x0 x1 x2 x3):=tb.PL qNF 3 m k [(3,vI x0),(7,vT x1),(8,vI x2),(9,vI x3)] ⟨[],[]⟩
theorem qBQ(m k):qcr m (Qt m) k=qEK m k:=qG
theorem qDF:okP tb [] qNF:=λ m a=>tK (λ L=>qhU m (Qt m) L a.1) (qBQ m m)
def qwE(m k x0 x1 x2 x3 x4 x5 x6 x7 x8 x9):=tb.PL i89 11 m k [(2,.ptr 0 0),(3,.ptr 1 0),(5,vI x0),(6,vI x1)] ⟨[[vI x2,.s x3,vI x4,vT x5],[vI x6,.s x7,vI x8,vT x9]],[]⟩
theorem qvw(m k):Qj m (qz m) k=qwE m k:=qG
theorem qxv:okP tb [] i89:=λ m a=>tK (λ L=>qeA m (qz m) L a.1 a.2.1) (qvw m m)
theorem qz9:okP tb [] i70:=okk
theorem qEP:okP tb [] qTc:=okk
theorem qtW:okP tb [] qRg:=okk
def qaD(m k x0 x1 x2 x3 x4):=tb.PL qJY 3 m k [(0,.sl y6 x0 1),(3,vI x1),(9,.sl y6 x2 1),(10,vI x3),(11,vI x4)] ⟨[],[]⟩
def qay(m k x0 x1 x2 x3):=tb.PL qJY 11 m k [(6,.row 0 0),(25,.sl y6 x0 1),(26,vI x1),(27,vI x2)] ⟨[],[⟨.term,x3,0,0,false⟩]⟩
theorem qfJ(m k):qn m k=(qaD m k,qay m k):=qG (M:=λ k=>(qaD m k,qay m k))
theorem qf7:okP tb [] qJY:=λ m a=>tK (x:=qn m m) (λ L=>jh m L.1 L.2 a.1) (qfJ m m)
def qC8(m k x0 x1 x2):=tb.PL qM6 4 m k [(14,vT x0),(15,vI x1),(16,vI x2)] ⟨[],[]⟩
theorem qBS(m k):qck m k=qC8 m k:=qG
theorem qGn:okP tb [] qM6:=λ m a=>tK (λ L=>qhx m L a.1 a.2.1) (qBS m m)
def qGJ(m k x0 x1 x2):=tb.PL qOT 2 m k [(0,vT x0),(1,vT x1),(5,.row 0 0)] ⟨[],[⟨.term,x2,0,0,false⟩]⟩
theorem qDd(m k):qdl m k=qGJ m k:=qG
theorem qHb:okP tb [] qOT:=λ m a=>tK (λ L=>qjs m L a.1 a.2.1) (qDd m m)
def qw4(m k x0 x1 x2 x3):=tb.PL qM5 6 m k [(3,vT x0),(31,vT x1),(32,vI x2),(33,vI x3)] ⟨[],[]⟩
theorem qvP(m k):QR m (yN m) k=qw4 m k:=qG
theorem qxj:okP tb [] qM5:=λ m a=>tK (λ L=>qee m (yN m) L a.1) (qvP m m)
def qBy(m k x0 x1 x2 x3 x4 x5 x6 x7 x8 x9 x10):=tb.PL qOU 4 m k [(1,.ptr 0 0),(2,.ptr 1 0),(9,vT x0),(10,vI x1),(11,vI x2)] ⟨[[vI x3,.s x4,vI x5,.row 0 0],[vI x6,.s x7,vI x8,.row 1 0]],[⟨.term,x9,0,0,false⟩,⟨.term,x10,0,0,false⟩]⟩
theorem qz6(m k):qbo m (jG m) k=qBy m k:=qG
theorem qB0:okP tb [] qOU:=λ m a=>tK (λ L=>qgE m (jG m) L a.1) (qz6 m m)
def qwu(m k x0 x1 x2 x3 x4 x5 x6 x7 x8 x9 x10 x11 x12 x13 x14):=tb.PL qNv 4 m k [(5,.ptr 0 0),(6,.ptr 1 0),(8,.ptr 2 0),(9,.ptr 2 0),(14,.sl y2 x0 1),(15,vI x1),(16,vI x2)] ⟨[[vI x3,.s x4,vI x5,vT x6],[vI x7,.s x8,vI x9,.row 0 0],[vI x10,.s x11,vI x12,vT x13]],[⟨.term,x14,0,0,false⟩]⟩
theorem qu5(m k):qaX m k=qwu m k:=qG
theorem qxD:okP tb [] qNv:=λ m a=>tK (λ L=>qeg m L a.1 a.2.1 a.2.2.1) (qu5 m m)
def qIJ(m k x0 x1 x2 x3):=tb.PL qPf 3 m k [(3,.row 0 0),(9,vT x0),(10,vI x1),(11,vI x2)] ⟨[],[⟨.term,x3,0,0,false⟩]⟩
theorem qGU(m k):qe4 m (qad m) k=qIJ m k:=qG
theorem qJB:okP tb [] qPf:=λ m a=>tK (λ L=>qkJ m (qad m) L a.1) (qGU m m)
def qIK(m k x0 x1 x2 x3 x4 x5 x6 x7):=tb.PL qPn 6 m k [(2,.ptr 0 0),(5,vT x0),(15,vT x1),(16,vI x2),(17,vI x3)] ⟨[[vI x4,.s x5,vI x6,.row 0 0]],[⟨.term,x7,0,0,true⟩]⟩
theorem qGN(m k):qfc m k=qIK m k:=qG
theorem qIZ:okP tb [] qPn:=λ m a=>tK (λ L=>qkI m L a.1) (qGN m m)
theorem qrc:okP tb [] qSW:=okk
def qtI(m k x0 x1 x2 x3 x4 x5 x6 x7 x8 x9):=tb.PL qO4 3 m k [(1,.ptr 0 0),(2,.ptr 1 0),(10,.row 0 0),(11,vI x0),(12,vI x1)] ⟨[[vI x2,.s x3,vI x4,.row 0 0],[vI x5,.s x6,vI x7,.row 1 0]],[⟨.term,x8,0,0,false⟩,⟨.term,x9,0,0,false⟩]⟩
theorem qsi(m k):QJ m (zC m) k=qtI m k:=qG
theorem qtJ:okP tb [] qO4:=λ m a=>tK (λ L=>qcy m (zC m) L a.1) (qsi m m)
theorem qpw:okP tb [] qR6:=okk
def Q4(m k x0 x1 x2 x3 x4 x5 x6 x7):=tb.PL qOA 3 m k [(0,.sl y1 x0 1),(2,.fn 224 []),(4,.ptr 0 0),(8,vI x1),(9,vI x2),(10,vI x3)] ⟨[[vI x4,.s x5,vI x6,vT x7]],[]⟩
theorem QN(m k):qr m k=Q4 m k:=qG
theorem Q3:okP tb [224] qOA:=λ m a=>tK (λ L=>qJ m L a.1 a.2.1) (QN m m)
theorem qsN:okS tb qRs:=okq
def qqX(m k x0 x1 x2 x3 x4):=tb.QL qPo 12 m k [(0,.row 0 0),(2,vI x0),(52,vT x1),(53,vI x2),(54,vI x3)] ⟨[],[⟨y1,x4,0,0,false⟩]⟩
theorem qpb(m k):jx m (zw m) k=qqX m k:=qG
theorem qq1:okS tb qPo:=λ m a=>tK (λ L=>qbz m (zw m) L a.1 a.2.1 a.2.2.1) (qpb m m)
theorem qyu:okP tb [] qRK:=okk
def qtD(m k x0 x1 x2 x3):=tb.PL qM3 4 m k [(0,.sl y1 x0 1),(9,.sl y1 x1 1),(10,vI x2),(11,vI x3)] ⟨[],[]⟩
theorem qsd(m k):j7 m k=qtD m k:=qG
theorem qtE:okP tb [] qM3:=λ m a=>tK (λ L=>qcH m L a.1) (qsd m m)
theorem qwt:okP tb [] qS4:=okk
def qlt(m k x0 x1 x2 x3 x4 x5 x6 x7 x8):=tb.PL qF8 6 m k [(2,.ptr 0 0),(5,.row 1 0),(6,.row 2 0),(18,.sl y1 x0 1),(19,vI x1),(20,vI x2)] ⟨[[vI x3,.s x4,vI x5,.row 0 0]],[⟨.term,x6,0,0,false⟩,⟨.term,x7,0,0,false⟩,⟨.term,x8,0,0,false⟩]⟩
def qlU(m k x0 x1 x2 x3 x4 x5 x6 x7 x8 x9 x10 x11 x12 x13 x14 x15):=tb.PL qF8 11 m k [(2,.ptr 0 0),(5,.row 1 0),(6,.row 2 0),(8,.ptr 1 0),(18,.sl y1 x0 1),(19,vI x1),(20,vI x2),(34,vI x3),(35,vI x4)] ⟨[[vI x5,.s x6,vI x7,.row 0 0],[vI x8,.s x9,vI x10,vT x11,vI x12]],[⟨.term,x13,0,0,false⟩,⟨.term,x14,0,0,false⟩,⟨.term,x15,0,0,false⟩]⟩
def qlE(m k x0 x1 x2 x3 x4 x5 x6 x7 x8 x9 x10 x11 x12 x13 x14 x15):=tb.PL qF8 15 m k [(2,.ptr 0 0),(5,.row 1 0),(6,.row 2 0),(8,.ptr 1 0),(18,.sl y1 x0 1),(19,vI x1),(20,vI x2),(46,vI x3),(47,vI x4)] ⟨[[vI x5,.s x6,vI x7,.row 0 0],[vI x8,.s x9,vI x10,vT x11,vI x12]],[⟨.term,x13,0,0,false⟩,⟨.term,x14,0,0,false⟩,⟨.term,x15,0,0,false⟩]⟩
theorem qtK(m k):qD m k=(qlt m k,qlU m k,qlE m k):=qG (M:=λ k=>(qlt m k,qlU m k,qlE m k))
theorem qvj:okP tb [] qF8:=λ m a=>tK (x:=qD m m) (λ L=>qdI m L.1 L.2.1 L.2.2 a.1) (qtK m m)
def qrq(m k x0 x1 x2 x3):=tb.QL qND 3 m k [(3,.row 0 0),(6,.sl y1 x0 1),(7,vI x1),(8,vI x2)] ⟨[],[⟨y1,x3,0,0,false⟩]⟩
theorem qq3(m k):Qo m k=qrq m k:=qG
theorem qsy:okS tb qND:=λ m a=>tK (λ L=>qb9 m L a.1) (qq3 m m)
theorem qpa:okP tb [] qSM:=okk
def qbJ(m k x0 x1 x2):=tb.PL qO8 2 m k [(0,.sl y1 x0 1),(1,.fn 228 []),(7,vI x1),(8,vI x2)] ⟨[],[]⟩
theorem qbA(m k):qH m k=qbJ m k:=qG
theorem qbF:okP tb [228] qO8:=λ m a=>tK (λ L=>zK m L a.1) (qbA m m)
theorem qaW:okP tb [228] qSP:=okk
theorem qrv:okP tb [] qSw:=okk
def qx9(m k x0 x1 x2 x3):=tb.PL qOu 9 m k [(8,.row 0 0),(23,.sl y1 x0 1),(24,vI x1),(25,vI x2)] ⟨[],[⟨y1,x3,0,0,false⟩]⟩
theorem qu1(m k):JF m k=qx9 m k:=qG
theorem qxG:okP tb [] qOu:=λ m a=>tK (λ L=>qej m L a.1 a.2.1) (qu1 m m)
theorem qCb:okP tb [] qRQ:=okk
theorem qxs:okP tb [] qS3:=okk
def qvn(m k x0 x1 x2 x3 x4 x5 x6 x7 x8 x9 x10 x11 x12 x13 x14):=tb.PL qOr 5 m k [(1,.ptr 0 0),(2,.ptr 1 0),(4,.ptr 2 0),(19,vT x0),(20,vI x1),(21,vI x2)] ⟨[[vI x3,.s x4,vI x5,vT x6],[vI x7,.s x8,vI x9,.row 0 0],[vI x10,.s x11,vI x12,.row 1 0]],[⟨.term,x13,0,0,false⟩,⟨.term,x14,0,0,false⟩]⟩
theorem qtT(m k):Ji m (yH m) k=qvn m k:=qG
theorem qvy:okP tb [] qOr:=λ m a=>tK (λ L=>qdf m (yH m) L a.1) (qtT m m)
theorem qui:okP tb [] i69:=okk
theorem qtO:okP tb [] i72:=okk
def qor(m k x0 x1 x2):=tb.PL i71 4 m k [(1,.fn 72 []),(18,vT x0),(19,vI x1),(20,vI x2)] ⟨[],[]⟩
theorem qn8(m k):yM m (zc m) k=qor m k:=qG
theorem qoh:okP tb [72] i71:=λ m a=>tK (λ L=>qaj m (zc m) L a.1) (qn8 m m)
theorem qyc:okP tb [] i37:=okk
theorem qr1:okP tb [] i11:=okk
theorem qmD:okS tb qRj:=okq
def qpu(m k x0 x1 x2 x3 x4):=tb.QL qO3 3 m k [(1,.fn 110 [.ptr 0 0,.ptr 1 0]),(10,vT x0),(11,vI x1),(12,vI x2)] ⟨[[vI x3],[.row 0 0]],[⟨.term,x4,0,0,false⟩]⟩
theorem qov(m k):jR m (zA m) k=qpu m k:=qG
theorem qqk:okS tb qO3:=λ m a=>tK (λ L=>qaH m (zA m) L a.1 a.2.1 a.2.2.1) (qov m m)
theorem qtC:okP tb [] qSn:=okk
def qwj(m k x0 x1 x2):=tb.QL qPw 4 m k [(0,.row 0 0),(9,vI x0),(10,vI x1)] ⟨[],[⟨.term,x2,0,0,false⟩]⟩
theorem qur(m k):JK m k=qwj m k:=qG
theorem qwA:okS tb qPw:=λ m a=>tK (λ L=>qex m L a.1) (qur m m)
theorem qyw:okP tb [] i81:=okk
theorem qDE:okP tb [] i45:=okk
theorem ql9:okS tb i84:=okq
def Jx(m k x0 x1 x2 x3 x4 x5 x6):=tb.QL i82 2 m k [(0,.sl y8 x0 1),(1,.fn 84 [.ptr 0 0]),(7,vI x1),(8,vI x2)] ⟨[[vI x3,.s x4,vI x5,vT x6]],[]⟩
theorem Jn(m k):yZ m k=Jx m k:=qG
theorem Jv:okS tb i82:=λ m a=>tK (λ L=>yV m L a.1 a.2.1) (Jn m m)
def qtz(m k x0 x1 x2 x3):=tb.QL i46 8 m k [(0,.row 0 0),(46,vT x0),(47,vI x1),(48,vI x2)] ⟨[],[⟨y14,x3,0,0,false⟩]⟩
theorem qsq(m k):ql6 m (qfQ m) k=qtz m k:=qG
theorem qtV:okS tb i46:=λ m a=>tK (λ L=>qko m (qfQ m) L a.1 a.2.1) (qsq m m)
theorem qre:okP tb [] i14:=okk
theorem qvL:okP tb [] qSs:=okk
def qn3(m k x0 x1 x2):=tb.PL qKn 4 m k [(1,.fn 120 []),(18,vT x0),(19,vI x1),(20,vI x2)] ⟨[],[]⟩
theorem qmA(m k):yy m (qV m) k=qn3 m k:=qG
theorem qnI:okP tb [120] qKn:=λ m a=>tK (λ L=>JW m (qV m) L a.1) (qmA m m)
theorem qzb:okP tb [] i93:=okk
theorem qqV:okP tb [] i58:=okk
def qqv(m k x0 x1 x2):=tb.PL i50 4 m k [(9,vT x0),(10,vI x1),(11,vI x2)] ⟨[],[]⟩
theorem qoK(m k):qiz m k=qqv m k:=qG
theorem qqF:okP tb [] i50:=λ m a=>tK (λ L=>qie m L a.1) (qoK m m)
def qmY(m k x0 x1 x2 x3 x4 x5 x6 x7 x8 x9 x10 x11):=tb.PL i52 2 m k [(0,.sl y3 x0 1),(3,.ptr 0 0),(4,.ptr 1 0),(10,.sl y3 x1 1),(11,vI x2),(12,vI x3)] ⟨[[vI x4,.s x5,vI x6,vT x7],[vI x8,.s x9,vI x10,.row 0 0]],[⟨.term,x11,0,0,false⟩]⟩
def qnt(m k x0 x1 x2 x3 x4 x5 x6 x7 x8 x9 x10 x11):=tb.PL i52 10 m k [(0,.sl y3 x0 1),(4,.ptr 0 0),(7,.ptr 1 0),(27,vT x1),(28,vI x2),(29,vI x3)] ⟨[[vI x4,.s x5,vI x6,.row 0 0],[vI x7,.s x8,vI x9,.row 1 0]],[⟨.term,x10,0,0,false⟩,⟨.term,x11,0,0,false⟩]⟩
theorem qvM(m k):qfH m (qeZ m) k=(qmY m k,qnt m k):=qG (M:=λ k=>(qmY m k,qnt m k))
theorem qxI:okP tb [] i52:=λ m a=>tK (x:=qfH m (qeZ m) m) (λ L=>qnl m (qeZ m) L.1 L.2 a.1 a.2.1) (qvM m m)
theorem qk9:okP tb [] qRF:=okk
theorem qiu:okP tb [] qR1:=okk
theorem qmk:okP tb [] i88:=okk
theorem qx0:okP tb [] i51:=okk
def qty(m k x0 x1 x2 x3 x4 x5 x6 x7 x8 x9 x10 x11 x12):=tb.QL i56 9 m k [(1,.s x0),(2,.mp 0),(6,.ptr 1 0),(7,.ptr 2 0),(38,vT x1),(39,vI x2),(40,vI x3)] ⟨[[.mc .str .str x4],[vI x5,.s x6,vI x7,.row 0 0],[vI x8,.s x9,vI x10,.row 1 0]],[⟨.term,x11,0,0,false⟩,⟨.term,x12,0,0,false⟩]⟩
theorem qsG(m k):qlB m (qcY m) k=qty m k:=qG
theorem qtA:okS tb i56:=λ m a=>tK (λ L=>qkx m (qcY m) L a.1 a.2.1 a.2.2.1) (qsG m m)
theorem qyA:okP tb [] i91:=okk
theorem qB5:okP tb [] i96:=okk
theorem qzE:okP tb [] qRP:=okk
theorem qB6:okP tb [] qSo:=okk
theorem qy2:okP tb [] qSZ:=okk
theorem qFI:okP tb [] i95:=okk
def qF9(m k x0 x1 x2 x3 x4 x5 x6 x7 x8 x9 x10 x11 x12):=tb.QL qNx 10 m k [(0,.mp 0),(3,.ptr 1 0),(4,.ptr 2 0),(7,.row 1 0),(32,vT x0),(33,vI x1),(34,vI x2)] ⟨[[.mc y9 .term x3],[vI x4,.s x5,vI x6,vT x7],[vI x8,.s x9,vI x10,.row 0 0]],[⟨.term,x11,0,0,false⟩,⟨.term,x12,0,0,false⟩]⟩
theorem qCz(m k):qt8 m (qeY m) k=qF9 m k:=qG
theorem qEA:okS tb qNx:=λ m a=>tK (λ L=>qsg m (qeY m) L a.1 a.2.1) (qCz m m)
def qiy(m k x0 x1 x2 x3 x4 x5 x6 x7 x8 x9 x10 x11 x12 x13 x14):=tb.QL qJm 6 m k [(0,.ptr 0 0),(4,.ptr 1 0),(5,.ptr 2 0),(8,.ptr 3 0),(9,.fn 186 [.ptr 5 0,.ptr 3 0]),(10,.row 1 0),(25,vI x0),(26,vI x1)] ⟨[[.sl y3 x2 1,.row 0 0],[vI x3,.s x4,vI x5,vT x6],[vI x7,.s x8,vI x9,vT x10],[.b x11],[.mc y9 .term x12],[.mp 4]],[⟨y3,x13,0,0,false⟩,⟨y3,x14,0,0,false⟩]⟩
def qiw(m k x0 x1 x2 x3 x4 x5 x6 x7 x8 x9 x10 x11 x12 x13 x14):=tb.QL qJm 12 m k [(0,.ptr 0 0),(4,.ptr 1 0),(5,.ptr 2 0),(8,.ptr 3 0),(9,.fn 186 [.ptr 5 0,.ptr 3 0]),(10,.row 1 0),(46,vI x0),(47,vI x1)] ⟨[[.sl y3 x2 1,.row 0 0],[vI x3,.s x4,vI x5,vT x6],[vI x7,.s x8,vI x9,vT x10],[.b x11],[.mc y9 .term x12],[.mp 4]],[⟨y3,x13,0,0,false⟩,⟨y3,x14,0,0,false⟩]⟩
theorem qqg(m k):qbU m k=(qiy m k,qiw m k):=qG (M:=λ k=>(qiy m k,qiw m k))
theorem qq0:okS tb qJm:=λ m a=>tK (x:=qbU m m) (λ L=>qix m L.1 L.2 a.1 a.2.1 a.2.2.1) (qqg m m)
theorem qr7:okS tb qSz:=okq
theorem qwR:okP tb [] qRW:=okk
theorem qbm:okS tb qRN:=okq
theorem qn4:okS tb qSI:=okq
def qb7(m k x0 x1 x2 x3 x4 x5 x6):=tb.QL qOJ 2 m k [(0,vT x0),(1,.fn 185 [.ptr 0 0]),(7,vI x1),(8,vI x2)] ⟨[[vI x3,.s x4,vI x5,vT x6]],[]⟩
theorem qbC(m k):Qx m (qeQ m) (yO m) (qd7 m) (jn m) k=qb7 m k:=qG
theorem qbY:okS tb qOJ:=λ m a=>tK (λ L=>Qs m (qeQ m) (yO m) (qd7 m) (jn m) L a.1 a.2.1) (qbC m m)
def qq2(m k x0 x1 x2 x3 x4 x5 x6 x7 x8 x9 x10 x11 x12):=tb.QL qMX 8 m k [(0,.ptr 0 0),(3,.ptr 1 0),(4,.ptr 2 0),(5,.row 1 0),(39,vI x0),(40,vI x1)] ⟨[[.sl y3 x2 1,.row 0 0],[vI x3,.s x4,vI x5,vT x6],[vI x7,.s x8,vI x9,vT x10]],[⟨y3,x11,0,0,false⟩,⟨y3,x12,0,0,false⟩]⟩
theorem qqe(m k):qjC m k=qq2 m k:=qG
theorem qqY:okS tb qMX:=λ m a=>tK (λ L=>qiA m L a.1) (qqe m m)
theorem qqG:okP tb [] qRw:=okk
theorem qrU:okS tb qSb:=okq
def qyp(m k x0 x1):=tb.PL i92 2 m k [(4,.ptr 0 0)] ⟨[[.sl y3 x0 1,.row 0 0]],[⟨y3,x1,0,0,false⟩]⟩
theorem qwM(m k):qqN m k=qyp m k:=qG
theorem qyM:okP tb [] i92:=λ m a=>tK (λ L=>qoP m L a.1) (qwM m m)
theorem qyU:okP tb [] i57:=okk
def qh8(m k x0 x1 x2 x3 x4 x5 x6):=tb.PL i26 5 m k [(0,vT x0),(4,.ptr 0 0),(20,vI x1),(21,vI x2)] ⟨[[vI x3,.s x4,vI x5,.row 0 0]],[⟨.term,x6,0,0,false⟩]⟩
def qhs(m k x0 x1 x2 x3 x4 x5 x6 x7 x8 x9 x10 x11 x12):=tb.PL i26 9 m k [(0,vT x0),(4,.ptr 0 0),(7,vI x1),(8,.ptr 1 0),(9,vI x2),(20,vI x3),(21,vI x4)] ⟨[[vI x5,.s x6,vI x7,.row 0 0],[vI x8,.s x9,vI x10,vT x11]],[⟨.term,x12,0,0,false⟩]⟩
theorem qof(m k):qby m k=(qh8 m k,qhs m k):=qG (M:=λ k=>(qh8 m k,qhs m k))
theorem qo3:okP tb [] i26:=λ m a=>tK (x:=qby m m) (λ L=>qin m L.1 L.2 a.1) (qof m m)
theorem qFo:okP tb [] i32:=okk
theorem qCd:okP tb [] i33:=okk
theorem qDc:okP tb [] i34:=okk
theorem qzH:okP tb [] i10:=okk
def qv7(m k x0 x1 x2 x3 x4 x5):=tb.PL i86 5 m k [(1,vI x0),(2,.ptr 0 0),(5,vI x1)] ⟨[[vI x2,.s x3,vI x4,vT x5]],[]⟩
theorem qu3(m k):JN m (jl m) k=qv7 m k:=qG
theorem qwp:okP tb [] i86:=λ m a=>tK (λ L=>qef m (jl m) L a.1 a.2.1) (qu3 m m)
def qDR(m k x0 x1 x2):=tb.PL i47 4 m k [(0,vT x0),(2,vI x1),(7,vI x2)] ⟨[],[]⟩
theorem qCc(m k):qcj m k=qDR m k:=qG
theorem qFj:okP tb [] i47:=λ m a=>tK (λ L=>qh6 m L a.1 a.2.1 a.2.2.1) (qCc m m)
theorem qEl:okP tb [] i15:=okk
def qzv(m k x0 x1 x2 x3 x4 x5 x6 x7 x8 x9 x10):=tb.QL i94 10 m k [(2,.mp 0),(3,.ptr 1 0),(4,.ptr 2 0),(39,vI x0),(40,vI x1)] ⟨[[.mc y9 .term x2],[vI x3,.s x4,vI x5,vT x6],[vI x7,.s x8,vI x9,vT x10]],[]⟩
theorem qyd(m k):qbM m (Qa m) k=qzv m k:=qG
theorem qzJ:okS tb i94:=λ m a=>tK (λ L=>qfp m (Qa m) L a.1 a.2.1 a.2.2.1) (qyd m m)
def qz0(m k x0 x1 x2 x3 x4):=tb.PL i59 9 m k [(7,.mp 0),(8,.row 0 0),(25,vT x0),(26,vI x1),(27,vI x2)] ⟨[[.mc y9 .term x3]],[⟨y3,x4,0,0,false⟩]⟩
theorem qxx(m k):qbN m k=qz0 m k:=qG
theorem qyQ:okP tb [] i59:=λ m a=>tK (λ L=>qfG m L a.1 a.2.1) (qxx m m)
theorem qvD:okP tb [] i27:=okk
theorem qxF:okP tb [] qR8:=okk
theorem qy4:okP tb [] qRr:=okk
def qxA(m k x0 x1):=tb.PL qM4 4 m k [(0,.s x0),(3,vI x1)] ⟨[],[]⟩
theorem quA(m k):JI m k=qxA m k:=qG
theorem qw0:okP tb [] qM4:=λ m a=>tK (λ L=>qeb m L a.1) (quA m m)
def qBP(m k x0 x1 x2 x3 x4 x5 x6 x7 x8 x9 x10 x11):=tb.PL i74 8 m k [(0,.s x0),(1,vI x1),(4,.ptr 0 0),(7,.ptr 1 0),(8,vI x2),(9,vI x3)] ⟨[[vI x4,.s x5,vI x6,.row 0 0],[vI x7,.s x8,vI x9,.row 1 0]],[⟨.term,x10,0,0,false⟩,⟨.term,x11,0,0,false⟩]⟩
theorem qyq(m k):jL m k=qBP m k:=qG
theorem qCI:okP tb [] i74:=λ m a=>tK (λ L=>qbP m L a.1 a.2.1) (qyq m m)
theorem qy6:okP tb [] i75:=okk
theorem quM:okP tb [] i66:=okk
theorem qvv:okP tb [] i99:=okk
def qCv(m k x0 x1 x2 x3 x4):=tb.PL i76 4 m k [(0,.s x0),(1,vI x1),(2,.s x2),(9,.sl y5 x3 1),(10,vI x4)] ⟨[],[]⟩
theorem qzh(m k):qbd m k=qCv m k:=qG
theorem qBU:okP tb [] i76:=λ m a=>tK (λ L=>qgi m L a.1 a.2.1 a.2.2.1) (qzh m m)
def qCw(m k x0 x1 x2 x3 x4 x5 x6 x7 x8 x9 x10 x11):=tb.PL i38 12 m k [(0,.s x0),(4,.ptr 0 0),(7,.ptr 1 0),(8,vI x1),(9,vI x2),(11,vI x3)] ⟨[[vI x4,.s x5,vI x6,.row 0 0],[vI x7,.s x8,vI x9,.row 1 0]],[⟨.term,x10,0,0,false⟩,⟨.term,x11,0,0,false⟩]⟩
theorem qyD(m k):Qw m (qW m) k=qCw m k:=qG
theorem qCG:okP tb [] i38:=λ m a=>tK (λ L=>qam m (qW m) L a.1 a.2.1) (qyD m m)
def qCa(m k x0 x1 x2 x3 x4 x5):=tb.PL i39 3 m k [(1,.ptr 0 0),(3,vI x0),(4,vI x1)] ⟨[[vI x2,.s x3,vI x4,vT x5]],[]⟩
theorem qzs(m k):qbp m (jc m) k=qCa m k:=qG
theorem qCD:okP tb [] i39:=λ m a=>tK (λ L=>qgw m (jc m) L a.1) (qzs m m)
def qyY(m k x0 x1 x2 x3 x4 x5):=tb.PL i40 3 m k [(1,.ptr 0 0),(3,vI x0),(4,vI x1)] ⟨[[vI x2,.s x3,vI x4,vT x5]],[]⟩
theorem qwz(m k):qau m (jv m) k=qyY m k:=qG
theorem qyB:okP tb [] i40:=λ m a=>tK (λ L=>qfd m (jv m) L a.1) (qwz m m)
theorem qBF:okP tb [] qRI:=okk
def qAl(m k x0 x1 x2 x3 x4):=tb.PL i90 5 m k [(1,.ptr 0 0),(4,vI x0)] ⟨[[vI x1,.s x2,vI x3,vT x4]],[]⟩
theorem qxM(m k):qar m (jO m) k=qAl m k:=qG
theorem qzm:okP tb [] i90:=λ m a=>tK (λ L=>qfz m (jO m) L a.1) (qxM m m)
theorem qyJ:okP tb [] i55:=okk
def qBJ(m k x0 x1 x2):=tb.PL i64 3 m k [(0,.s x0),(3,.sl y5 x1 1),(4,vI x2)] ⟨[],[]⟩
theorem qzI(m k):qa3 m k=qBJ m k:=qG
theorem qCl:okP tb [] i64:=λ m a=>tK (λ L=>qgl m L a.1) (qzI m m)
def qBx(m k x0 x1 x2 x3 x4 x5):=tb.PL qN4 3 m k [(1,.ptr 0 0),(3,.sl y5 x0 1),(4,vI x1)] ⟨[[vI x2,.s x3,vI x4,vT x5]],[]⟩
theorem qzp(m k):qa0 m k=qBx m k:=qG
theorem qBz:okP tb [] qN4:=λ m a=>tK (λ L=>qgj m L a.1) (qzp m m)
def qwc(m k x0 x1 x2 x3 x4):=tb.PL qOc 4 m k [(1,.ptr 0 0),(3,vI x0)] ⟨[[vI x1,.s x2,vI x3,vT x4]],[]⟩
theorem qvc(m k):JH m k=qwc m k:=qG
theorem qv8:okP tb [] qOc:=λ m a=>tK (λ L=>qep m L a.1) (qvc m m)
def qys(m k x0 x1 x2 x3 x4):=tb.PL i77 11 m k [(1,.ptr 0 0),(4,vI x0)] ⟨[[vI x1,.s x2,vI x3,vT x4]],[]⟩
theorem qvY(m k):Jp m (jr m) k=qys m k:=qG
theorem qAk:okP tb [] i77:=λ m a=>tK (λ L=>qff m (jr m) L a.1) (qvY m m)
theorem qzf:okP tb [] i41:=okk
theorem qwx:okP tb [] i79:=okk
def qvF(m k x0 x1 x2 x3 x4 x5 x6 x7 x8):=tb.PL i43 18 m k [(2,.ptr 0 0),(3,.ptr 1 0),(9,vI x0)] ⟨[[vI x1,.s x2,vI x3,vT x4],[vI x5,.s x6,vI x7,vT x8]],[]⟩
theorem qtX(m k):Je m (zR m) k=qvF m k:=qG
theorem qux:okP tb [] i43:=λ m a=>tK (λ L=>qdg m (zR m) L a.1 a.2.1) (qtX m m)
theorem qBG:okP tb [] i13:=okk
def qEx(m k x0 x1 x2 x3 x4 x5):=tb.PL i62 3 m k [(1,.ptr 0 0),(3,.row 0 0),(4,vI x0)] ⟨[[vI x1,.s x2,vI x3,vT x4]],[⟨.term,x5,0,0,true⟩]⟩
theorem qBK(m k):qce m (j8 m) k=qEx m k:=qG
theorem qEZ:okP tb [] i62:=λ m a=>tK (λ L=>qh5 m (j8 m) L a.1) (qBK m m)
theorem qG0:okP tb [] qSU:=okk
theorem qum:okP tb [] qSg:=okk
def qzS(m k x0 x1 x2 x3 x4 x5):=tb.PL qNC 4 m k [(0,vT x0),(3,.ptr 0 0),(5,vI x1)] ⟨[[vI x2,.s x3,vI x4,vT x5]],[]⟩
theorem qxf(m k):qat m k=qzS m k:=qG
theorem qAb:okP tb [] qNC:=λ m a=>tK (λ L=>qfx m L a.1 a.2.1) (qxf m m)
theorem qBM:okP tb [] qTa:=okk
def qFU(m k x0 x1 x2 x3 x4 x5 x6 x7):=tb.PL qOq 4 m k [(0,vT x0),(3,.ptr 0 0),(5,.row 0 0),(6,.b x1),(7,vI x2)] ⟨[[vI x3,.s x4,vI x5,vT x6]],[⟨.term,x7,0,0,false⟩]⟩
theorem qBV(m k):qcl m k=qFU m k:=qG
theorem qET:okP tb [] qOq:=λ m a=>tK (λ L=>qim m L a.1 a.2.1) (qBV m m)
def qD9(m k x0 x1 x2 x3 x4 x5):=tb.PL qOy 2 m k [(0,vT x0),(3,.ptr 0 0),(5,vI x1)] ⟨[[vI x2,.s x3,vI x4,vT x5]],[]⟩
theorem qBT(m k):qcm m k=qD9 m k:=qG
theorem qEg:okP tb [] qOy:=λ m a=>tK (λ L=>qia m L a.1 a.2.1) (qBT m m)
def qxV(m k x0 x1 x2 x3 x4 x5 x6):=tb.PL qPm 5 m k [(0,vT x0),(3,.ptr 0 0),(5,.row 0 0),(6,vI x1)] ⟨[[vI x2,.s x3,vI x4,vT x5]],[⟨.term,x6,0,0,false⟩]⟩
theorem qvx(m k):JL m k=qxV m k:=qG
theorem qwk:okP tb [] qPm:=λ m a=>tK (λ L=>qel m L a.1 a.2.1) (qvx m m)
def qBO(m k x0 x1 x2):=tb.PL qOk 3 m k [(1,vT x0),(5,vT x1),(6,vI x2)] ⟨[],[]⟩
theorem qyI(m k):J1 m k=qBO m k:=qG
theorem qCn:okP tb [] qOk:=λ m a=>tK (λ L=>qgp m L a.1 a.2.1) (qyI m m)
def qtB(m k x0 x1 x2 x3 x4 x5):=tb.PL qNN 7 m k [(1,.ptr 0 0),(3,vT x0),(4,vI x1)] ⟨[[vI x2,.s x3,vI x4,vT x5]],[]⟩
theorem qsx(m k):jZ m (ya m) k=qtB m k:=qG
theorem qtS:okP tb [] qNN:=λ m a=>tK (λ L=>qcF m (ya m) L a.1) (qsx m m)
theorem qCp:okP tb [] qSN:=okk
def qDU(m k x0 x1 x2 x3 x4 x5 x6):=tb.PL qOv 6 m k [(0,vT x0),(2,.ptr 0 0),(5,vT x1),(6,vI x2)] ⟨[[vI x3,.s x4,vI x5,.row 0 0]],[⟨.term,x6,0,0,true⟩]⟩
theorem qCh(m k):qcg m k=qDU m k:=qG
theorem qDs:okP tb [] qOv:=λ m a=>tK (λ L=>qib m L a.1) (qCh m m)
theorem quz:okP tb [] qSa:=okk
def qz1(m k x0 x1 x2 x3 x4 x5):=tb.PL qNU 7 m k [(1,.ptr 0 0),(3,vI x0),(4,vI x1)] ⟨[[vI x2,.s x3,vI x4,vT x5]],[]⟩
theorem qx5(m k):Jq m (js m) k=qz1 m k:=qG
theorem qAi:okP tb [] qNU:=λ m a=>tK (λ L=>qfi m (js m) L a.1) (qx5 m m)
def qDv(m k x0 x1 x2 x3 x4 x5 x6 x7 x8):=tb.QL qNJ 4 m k [(0,.row 0 0),(2,vI x0),(4,.ptr 0 0),(7,.row 1 0),(8,.b x1),(9,vI x2)] ⟨[[vI x3,.s x4,vI x5,vT x6]],[⟨y1,x7,0,0,false⟩,⟨y1,x8,0,0,false⟩]⟩
theorem qB8(m k):JP m k=qDv m k:=qG
theorem qF2:okS tb qNJ:=λ m a=>tK (λ L=>qhH m L a.1 a.2.1 a.2.2.1) (qB8 m m)
def qvU(m k x0 x1 x2 x3 x4 x5 x6):=tb.QL qNB 6 m k [(0,.row 0 0),(2,vI x0),(4,.ptr 0 0),(7,vI x1)] ⟨[[vI x2,.s x3,vI x4,vT x5]],[⟨y1,x6,0,0,false⟩]⟩
theorem qtN(m k):Qq m (yp m) k=qvU m k:=qG
theorem quk:okS tb qNB:=λ m a=>tK (λ L=>qdG m (yp m) L a.1 a.2.1 a.2.2.1) (qtN m m)
theorem qGT:okP tb [] qSC:=okk
def qza(m k x0 x1):=tb.PL qMQ 4 m k [(0,.sl y1 x0 1),(3,vI x1)] ⟨[],[]⟩
theorem qwU(m k):Js m k=qza m k:=qG
theorem qAe:okP tb [] qMQ:=λ m a=>tK (λ L=>qfm m L a.1) (qwU m m)
def qku(m k x0 x1 x2):=tb.PL qz4 3 m k [(0,.sl y1 x0 1),(3,.row 0 0),(4,vI x1)] ⟨[],[⟨.term,x2,0,0,false⟩]⟩
def qkv(m k x0 x1 x2 x3):=tb.PL qz4 6 m k [(0,.sl y1 x0 1),(3,.row 0 0),(4,vI x1),(5,vI x2)] ⟨[],[⟨.term,x3,0,0,false⟩]⟩
def qkq(m k x0 x1 x2):=tb.PL qz4 10 m k [(0,.sl y1 x0 1),(3,.row 0 0),(6,vI x1)] ⟨[],[⟨.term,x2,0,0,false⟩]⟩
def qkw(m k x0 x1 x2 x3):=tb.PL qz4 13 m k [(0,.sl y1 x0 1),(3,.row 0 0),(6,vI x1),(7,vI x2)] ⟨[],[⟨.term,x3,0,0,false⟩]⟩
theorem qrf(m k):qm m k=(qku m k,qkv m k,qkq m k,qkw m k):=qG (M:=λ k=>(qku m k,qkv m k,qkq m k,qkw m k))
theorem qtQ:okP tb [] qz4:=λ m a=>tK (x:=qm m m) (λ L=>qcv m L.1 L.2.1 L.2.2.1 L.2.2.2 a.1) (qrf m m)
theorem qBN:okP tb [] qSV:=okk
theorem quX:okP tb [] qSr:=okk
def quZ(m k x0 x1):=tb.PL qOd 2 m k [(0,.sl y1 x0 1),(3,vI x1)] ⟨[],[]⟩
theorem qtY(m k):Q8 m k=quZ m k:=qG
theorem qva:okP tb [] qOd:=λ m a=>tK (λ L=>qdo m L a.1) (qtY m m)
def qDg(m k x0 x1 x2):=tb.PL qOR 9 m k [(1,.sl y1 x0 1),(8,.row 0 0),(9,vI x1)] ⟨[],[⟨y1,x2,0,0,false⟩]⟩
theorem qCr(m k):qaR m k=qDg m k:=qG
theorem qDo:okP tb [] qOR:=λ m a=>tK (λ L=>qif m L a.1 a.2.1) (qCr m m)
theorem qzV:okP tb [] qRD:=okk
def qyg(m k x0 x1 x2 x3 x4 x5 x6 x7 x8 x9):=tb.PL qOD 5 m k [(1,.ptr 0 0),(2,.ptr 1 0),(4,.row 1 0),(5,vI x0)] ⟨[[vI x1,.s x2,vI x3,vT x4],[vI x5,.s x6,vI x7,.row 0 0]],[⟨.term,x8,0,0,false⟩,⟨.term,x9,0,0,false⟩]⟩
theorem quv(m k):JO m (jq m) k=qyg m k:=qG
theorem qxq:okP tb [] qOD:=λ m a=>tK (λ L=>qek m (jq m) L a.1) (quv m m)
theorem qxN:okP tb [] i78:=okk
def qzN(m k x0 x1):=tb.PL i42 6 m k [(5,vT x0),(6,vI x1)] ⟨[],[]⟩
theorem qw6(m k):qaq m k=qzN m k:=qG
theorem qzx:okP tb [] i42:=λ m a=>tK (λ L=>qfE m L a.1) (qw6 m m)
theorem qwI:okP tb [] i12:=okk
theorem qrj:okP tb [] i63:=okk
def qCu(m k x0 x1):=tb.PL i30 5 m k [(3,vT x0),(4,vI x1)] ⟨[],[]⟩
theorem qzC(m k):qbn m k=qCu m k:=qG
theorem qBD:okP tb [] i30:=λ m a=>tK (λ L=>qgz m L a.1) (qzC m m)
theorem quR:okP tb [] i60:=okk
def qF5(m k x0 x1 x2):=tb.PL qO5 3 m k [(0,vT x0),(3,vT x1),(4,vI x2)] ⟨[],[]⟩
theorem qCo(m k):qcf m k=qF5 m k:=qG
theorem qFF:okP tb [] qO5:=λ m a=>tK (λ L=>qit m L a.1) (qCo m m)
def qBY(m k x0 x1 x2 x3):=tb.PL qOQ 4 m k [(1,vI x0),(5,.row 0 0),(6,vT x1),(7,vI x2)] ⟨[],[⟨.term,x3,0,0,false⟩]⟩
theorem qyF(m k):qa5 m k=qBY m k:=qG
theorem qBX:okP tb [] qOQ:=λ m a=>tK (λ L=>qgn m L a.1 a.2.1) (qyF m m)
theorem qBC:okP tb [] i87:=okk
theorem qCB:okP tb [] i97:=okk
theorem qCy:okP tb [] qSu:=okk
theorem qCm:okP tb [] qRS:=okk
def qzL(m k x0 x1 x2 x3 x4 x5 x6 x7 x8 x9 x10):=tb.QL i98 9 m k [(2,.row 0 0),(3,.ptr 0 0),(4,.ptr 1 0),(8,.b x0),(9,vI x1)] ⟨[[vI x2,.s x3,vI x4,vT x5],[vI x6,.s x7,vI x8,vT x9]],[⟨y3,x10,0,0,false⟩]⟩
theorem qvW(m k):qaw m (jP m) k=qzL m k:=qG
theorem qz2:okS tb i98:=λ m a=>tK (λ L=>qfw m (jP m) L a.1 a.2.1 a.2.2.1) (qvW m m)
def qoQ(m k x0 x1 x2 x3 x4 x5):=tb.PL i61 8 m k [(2,.ptr 0 0),(7,.row 0 0),(9,vI x0)] ⟨[[vI x1,.s x2,vI x3,vT x4]],[⟨y3,x5,0,0,false⟩]⟩
def qot(m k x0 x1 x2 x3 x4 x5 x6):=tb.PL i61 11 m k [(2,.ptr 0 0),(7,.row 0 0),(9,vI x0),(10,vI x1)] ⟨[[vI x2,.s x3,vI x4,vT x5]],[⟨y3,x6,0,0,false⟩]⟩
def qo0(m k x0 x1 x2 x3):=tb.PL i61 18 m k [(7,.row 0 0),(11,.row 1 0),(12,vT x0),(13,vI x1)] ⟨[],[⟨y3,x2,0,0,false⟩,⟨y3,x3,0,0,false⟩]⟩
def qoA(m k x0 x1 x2 x3 x4):=tb.PL i61 21 m k [(7,.row 0 0),(11,.row 1 0),(12,vT x0),(13,vI x1),(14,vI x2)] ⟨[],[⟨y3,x3,0,0,false⟩,⟨y3,x4,0,0,false⟩]⟩
theorem qwJ(m k):ql m k=(qoQ m k,qot m k,qo0 m k,qoA m k):=qG (M:=λ k=>(qoQ m k,qot m k,qo0 m k,qoA m k))
theorem qyL:okP tb [] i61:=λ m a=>tK (x:=ql m m) (λ L=>qfy m L.1 L.2.1 L.2.2.1 L.2.2.2 a.1 a.2.1) (qwJ m m)
theorem qB1:okP tb [] i28:=okk
def qoC(m k x0 x1 x2):=tb.PL i29 4 m k [(0,.sl y3 x0 1),(1,.sl y3 x1 1),(5,vI x2)] ⟨[],[]⟩
theorem qnW(m k):jB m k=qoC m k:=qG
theorem qoo:okP tb [] i29:=λ m a=>tK (λ L=>qae m L a.1 a.2.1) (qnW m m)
theorem qog:okP tb [] i8:=okk
end Go.AmZ
namespace Go.Proofs
open Go.Shelf
def Tryz.sortTrm_ren:Go.Shelf.Ren:=⟨λ|6=>139|15=>176|14=>175|28=>211|29=>179|20=>203|21=>204|22=>205|23=>206|24=>207|25=>208|26=>209|27=>210|46=>231|47=>232|48=>233|49=>234|50=>235|57=>242|n=>n,λ|22=>23|24=>25|25=>64|3=>3|39=>164|0=>0|53=>169|55=>144|4=>4|46=>188|45=>187|50=>192|5=>5|9=>9|66=>209|70=>83|76=>221|77=>222|n=>n,λ|n=>n⟩
theorem Tryz.sortTrm:Go.Proofs.SlLaysF0.n6 Tryz.prog Tryz.sortTrm_ren:={
 mixed:=by kernel_rfl
 f6:=⟨Tryz.f139.name,by decide,Tryz.func139.trans (congrArg some (by kernel_rfl))⟩
 f14:=⟨Tryz.f175.name,by decide,Tryz.func175.trans (congrArg some (by kernel_rfl))⟩
 f15:=Tryz.func176.trans (congrArg some (by kernel_rfl))
 f20:=⟨Tryz.f203.name,by decide,Tryz.func203.trans (congrArg some (by kernel_rfl))⟩
 f21:=⟨Tryz.f204.name,by decide,Tryz.func204.trans (congrArg some (by kernel_rfl))⟩
 f22:=⟨Tryz.f205.name,by decide,Tryz.func205.trans (congrArg some (by kernel_rfl))⟩
 f23:=⟨Tryz.f206.name,by decide,Tryz.func206.trans (congrArg some (by kernel_rfl))⟩
 f24:=⟨Tryz.f207.name,by decide,Tryz.func207.trans (congrArg some (by kernel_rfl))⟩
 f25:=⟨Tryz.f208.name,by decide,Tryz.func208.trans (congrArg some (by kernel_rfl))⟩
 f26:=⟨Tryz.f209.name,by decide,Tryz.func209.trans (congrArg some (by kernel_rfl))⟩
 f27:=⟨Tryz.f210.name,by decide,Tryz.func210.trans (congrArg some (by kernel_rfl))⟩
 f28:=Tryz.func211.trans (congrArg some (by kernel_rfl))
 f29:=Tryz.func179.trans (congrArg some (by kernel_rfl))
 f46:=⟨Tryz.f231.name,by decide,Tryz.func231.trans (congrArg some (by kernel_rfl))⟩
 f47:=Tryz.func232.trans (congrArg some (by kernel_rfl))
 f48:=Tryz.func233.trans (congrArg some (by kernel_rfl))
 f49:=⟨Tryz.f234.name,by decide,Tryz.func234.trans (congrArg some (by kernel_rfl))⟩
 f50:=⟨Tryz.f235.name,by decide,Tryz.func235.trans (congrArg some (by kernel_rfl))⟩
 f57:=⟨Tryz.f242.name,by decide,Tryz.func242.trans (congrArg some (by kernel_rfl))⟩
 t0:=Tryz.underlying0
 a0:=Tryz.isAgg0
 z0:=Tryz.sizeOf0
 v0:=Tryz.zeroValue0
 t3:=Tryz.underlying3
 a3:=Tryz.isAgg3
 z3:=Tryz.sizeOf3
 v3:=Tryz.zeroValue3
 t4:=Tryz.underlying4
 a4:=Tryz.isAgg4
 z4:=Tryz.sizeOf4
 v4:=Tryz.zeroValue4
 t5:=Tryz.underlying5
 a5:=Tryz.isAgg5
 z5:=Tryz.sizeOf5
 v5:=Tryz.zeroValue5
 t9:=Tryz.underlying9
 a9:=Tryz.isAgg9
 z9:=Tryz.sizeOf9
 v9:=Tryz.zeroValue9
 t22:=Tryz.underlying23
 a22:=Tryz.isAgg23
 z22:=Tryz.sizeOf23
 v22:=Tryz.zeroValue23
 t25:=Tryz.underlying64
 a25:=Tryz.isAgg64
 z25:=Tryz.sizeOf64
 v25:=Tryz.zeroValue64
 t39:=Tryz.underlying164
 a39:=Tryz.isAgg164
 z39:=Tryz.sizeOf164
 v39:=Tryz.zeroValue164
 t45:=Tryz.underlying187
 a45:=Tryz.isAgg187
 z45:=Tryz.sizeOf187
 v45:=Tryz.zeroValue187
 t46:=Tryz.underlying188
 a46:=Tryz.isAgg188
 z46:=Tryz.sizeOf188
 v46:=Tryz.zeroValue188
 t50:=Tryz.underlying192
 a50:=Tryz.isAgg192
 z50:=Tryz.sizeOf192
 v50:=Tryz.zeroValue192
 t53:=Tryz.underlying169
 a53:=Tryz.isAgg169
 z53:=Tryz.sizeOf169
 v53:=Tryz.zeroValue169
 t55:=Tryz.underlying144
 a55:=Tryz.isAgg144
 z55:=Tryz.sizeOf144
 v55:=Tryz.zeroValue144
 t66:=Tryz.underlying209
 a66:=Tryz.isAgg209
 z66:=Tryz.sizeOf209
 v66:=Tryz.zeroValue209
 t70:=Tryz.underlying83
 a70:=Tryz.isAgg83
 z70:=Tryz.sizeOf83
 v70:=Tryz.zeroValue83
 t76:=Tryz.underlying221
 a76:=Tryz.isAgg221
 z76:=Tryz.sizeOf221
 v76:=Tryz.zeroValue221
 t77:=Tryz.underlying222
 a77:=Tryz.isAgg222
 z77:=Tryz.sizeOf222
 v77:=Tryz.zeroValue222}
end Go.Proofs
namespace Go.Proofs
open Go.Shelf
def Tryz.sortBnd_ren:Go.Shelf.Ren:=⟨λ|6=>152|15=>176|14=>189|28=>211|29=>179|20=>215|21=>216|22=>217|23=>218|24=>219|25=>220|26=>221|27=>222|46=>236|47=>232|48=>233|49=>237|50=>238|57=>243|n=>n,λ|22=>48|24=>76|25=>150|3=>3|39=>164|0=>0|53=>169|55=>144|4=>4|46=>188|45=>187|50=>192|5=>5|9=>9|66=>209|70=>83|76=>221|77=>222|n=>n,λ|n=>n⟩
theorem Tryz.sortBnd:Go.Proofs.SlLaysF0.n6 Tryz.prog Tryz.sortBnd_ren:={
 mixed:=by kernel_rfl
 f6:=⟨Tryz.f152.name,by decide,Tryz.func152.trans (congrArg some (by kernel_rfl))⟩
 f14:=⟨Tryz.f189.name,by decide,Tryz.func189.trans (congrArg some (by kernel_rfl))⟩
 f15:=Tryz.func176.trans (congrArg some (by kernel_rfl))
 f20:=⟨Tryz.f215.name,by decide,Tryz.func215.trans (congrArg some (by kernel_rfl))⟩
 f21:=⟨Tryz.f216.name,by decide,Tryz.func216.trans (congrArg some (by kernel_rfl))⟩
 f22:=⟨Tryz.f217.name,by decide,Tryz.func217.trans (congrArg some (by kernel_rfl))⟩
 f23:=⟨Tryz.f218.name,by decide,Tryz.func218.trans (congrArg some (by kernel_rfl))⟩
 f24:=⟨Tryz.f219.name,by decide,Tryz.func219.trans (congrArg some (by kernel_rfl))⟩
 f25:=⟨Tryz.f220.name,by decide,Tryz.func220.trans (congrArg some (by kernel_rfl))⟩
 f26:=⟨Tryz.f221.name,by decide,Tryz.func221.trans (congrArg some (by kernel_rfl))⟩
 f27:=⟨Tryz.f222.name,by decide,Tryz.func222.trans (congrArg some (by kernel_rfl))⟩
 f28:=Tryz.func211.trans (congrArg some (by kernel_rfl))
 f29:=Tryz.func179.trans (congrArg some (by kernel_rfl))
 f46:=⟨Tryz.f236.name,by decide,Tryz.func236.trans (congrArg some (by kernel_rfl))⟩
 f47:=Tryz.func232.trans (congrArg some (by kernel_rfl))
 f48:=Tryz.func233.trans (congrArg some (by kernel_rfl))
 f49:=⟨Tryz.f237.name,by decide,Tryz.func237.trans (congrArg some (by kernel_rfl))⟩
 f50:=⟨Tryz.f238.name,by decide,Tryz.func238.trans (congrArg some (by kernel_rfl))⟩
 f57:=⟨Tryz.f243.name,by decide,Tryz.func243.trans (congrArg some (by kernel_rfl))⟩
 t0:=Tryz.underlying0
 a0:=Tryz.isAgg0
 z0:=Tryz.sizeOf0
 v0:=Tryz.zeroValue0
 t3:=Tryz.underlying3
 a3:=Tryz.isAgg3
 z3:=Tryz.sizeOf3
 v3:=Tryz.zeroValue3
 t4:=Tryz.underlying4
 a4:=Tryz.isAgg4
 z4:=Tryz.sizeOf4
 v4:=Tryz.zeroValue4
 t5:=Tryz.underlying5
 a5:=Tryz.isAgg5
 z5:=Tryz.sizeOf5
 v5:=Tryz.zeroValue5
 t9:=Tryz.underlying9
 a9:=Tryz.isAgg9
 z9:=Tryz.sizeOf9
 v9:=Tryz.zeroValue9
 t22:=Tryz.underlying48
 a22:=Tryz.isAgg48
 z22:=Tryz.sizeOf48
 v22:=Tryz.zeroValue48
 t25:=Tryz.underlying150
 a25:=Tryz.isAgg150
 z25:=Tryz.sizeOf150
 v25:=Tryz.zeroValue150
 t39:=Tryz.underlying164
 a39:=Tryz.isAgg164
 z39:=Tryz.sizeOf164
 v39:=Tryz.zeroValue164
 t45:=Tryz.underlying187
 a45:=Tryz.isAgg187
 z45:=Tryz.sizeOf187
 v45:=Tryz.zeroValue187
 t46:=Tryz.underlying188
 a46:=Tryz.isAgg188
 z46:=Tryz.sizeOf188
 v46:=Tryz.zeroValue188
 t50:=Tryz.underlying192
 a50:=Tryz.isAgg192
 z50:=Tryz.sizeOf192
 v50:=Tryz.zeroValue192
 t53:=Tryz.underlying169
 a53:=Tryz.isAgg169
 z53:=Tryz.sizeOf169
 v53:=Tryz.zeroValue169
 t55:=Tryz.underlying144
 a55:=Tryz.isAgg144
 z55:=Tryz.sizeOf144
 v55:=Tryz.zeroValue144
 t66:=Tryz.underlying209
 a66:=Tryz.isAgg209
 z66:=Tryz.sizeOf209
 v66:=Tryz.zeroValue209
 t70:=Tryz.underlying83
 a70:=Tryz.isAgg83
 z70:=Tryz.sizeOf83
 v70:=Tryz.zeroValue83
 t76:=Tryz.underlying221
 a76:=Tryz.isAgg221
 z76:=Tryz.sizeOf221
 v76:=Tryz.zeroValue221
 t77:=Tryz.underlying222
 a77:=Tryz.isAgg222
 z77:=Tryz.sizeOf222
 v77:=Tryz.zeroValue222}
end Go.Proofs
namespace Go.GxZ
open Go.RowKit
def Box(w:World)(b:Nat)(e d c a:Value):Prop:=
 w.cell? ⟨b,0,none⟩=some e/\w.cell? ⟨b,1,none⟩=some d/\w.cell? ⟨b,2,none⟩=some c/\w.cell? ⟨b,3,none⟩=some a
theorem Box.keep{w u:World}{b:Nat}{g f e d:Value}{B:Nat}(h:Box w b g f e d)(c:b<B)(a:Below B w u):Box u b g f e d:=
 ⟨(a.cell c).trans h.1,(a.cell c).trans h.2.1,(a.cell c).trans h.2.2.1,(a.cell c).trans h.2.2.2⟩
theorem qyG(w:World)(d c b a:Value)(t:TypeId):Box (w.alloc (Obj.cells #[d,c,b,a] t)) w.heap.size d c b a:=
 ⟨by rw[World.cell?_alloc_mark];rfl,by rw[World.cell?_alloc_mark];rfl,by rw[World.cell?_alloc_mark];rfl,by rw[World.cell?_alloc_mark];rfl⟩
theorem qTz(w:World)(e d c b:Value)(t:TypeId):
  ∃a,w.alloc (Obj.cells #[e,d,c,b] t)=a/\Below w.heap.size w a/\a.heap.size=w.heap.size+1/\∀u,Below a.heap.size a u->Box u w.heap.size e d c b:=
 ⟨_,rfl,(Below.refl _ _).alloc (wa _) _,by simp,λ _ f=>(qyG w e d c b t).keep (by simp) f⟩
theorem qMM(w:World)(d c b a f y1 y2 y3:Value)(t g:TypeId):
  ∃e,(w.alloc (Obj.cells #[d,c,b,a] t)).alloc (Obj.cells #[f,y1,y2,y3] g)=e/\Below w.heap.size w e/\e.heap.size=w.heap.size+2/\
   ∀u,Below e.heap.size e u->Box u w.heap.size d c b a/\Box u (w.heap.size+1) f y1 y2 y3:=by
 refine⟨_,rfl,((Below.refl _ _).alloc (wa _) _).alloc (by simp) _,by simp,λ u h=>⟨?_,?_⟩⟩
 .exact((qyG w d c b a t).keep (B:=w.heap.size+1) (by omega) (((Below.refl _ _).alloc (by simp) _))).keep (by simp;omega) h
 .have:=qyG (w.alloc (Obj.cells #[d,c,b,a] t)) f y1 y2 y3 g;rw[show(w.alloc (Obj.cells #[d,c,b,a] t)).heap.size=w.heap.size+1 by simp]at this;exact this.keep (by simp) h
theorem qBr(w:World)(b:Nat)(n y1 y2 y3 m l g f:Value)(h:Box w b n y1 y2 y3):
  ∃w',(((w.setCell ⟨b,0,none⟩ m).setCell ⟨b,1,none⟩ l).setCell ⟨b,2,none⟩ g).setCell ⟨b,3,none⟩ f=w'/\Box w' b m l g f/\(∀B,B<=b->∀w0,Below B w0 w->Below B w0 w')/\
   w'.heap.size=w.heap.size/\(∀k,k≠b->w'.heap[k]?=w.heap[k]?)/\(∀a,w'.frozen? a=w.frozen? a):=by
 let⟨r,q,p,o⟩:=h;have c:∀i j:Nat,i≠j->(⟨b,i,none⟩:Addr)≠⟨b,j,none⟩:=λ i j h k=>h (by cases k;rfl);refine⟨_,rfl,⟨?_,?_,?_,?_⟩,λ B e w0 h=>(((h.setCell e _).setCell e _).setCell e _).setCell e _,by simp,λ k d=>?_,λ a=>by simp⟩
 .rw[World.cell?_setCell_other _ _ _ _ (c 3 0 (by decide)),World.cell?_setCell_other _ _ _ _ (c 2 0 (by decide)),World.cell?_setCell_other _ _ _ _ (c 1 0 (by decide))];exact World.cell?_setCell_same _ _ _ r
 .rw[World.cell?_setCell_other _ _ _ _ (c 3 1 (by decide)),World.cell?_setCell_other _ _ _ _ (c 2 1 (by decide))];refine World.cell?_setCell_same _ _ _ (u:=y1) ?_;rw[World.cell?_setCell_other _ _ _ _ (c 0 1 (by decide))];exact q
 .rw[World.cell?_setCell_other _ _ _ _ (c 3 2 (by decide))];refine World.cell?_setCell_same _ _ _ (u:=y2) ?_;rw[World.cell?_setCell_other _ _ _ _ (c 1 2 (by decide)),World.cell?_setCell_other _ _ _ _ (c 0 2 (by decide))];exact p
 .refine World.cell?_setCell_same _ _ _ (u:=y3) ?_;rw[World.cell?_setCell_other _ _ _ _ (c 2 3 (by decide)),World.cell?_setCell_other _ _ _ _ (c 1 3 (by decide)),World.cell?_setCell_other _ _ _ _ (c 0 3 (by decide))];exact o
 .rw[Below.heap_setCell _ _ _ _ d,Below.heap_setCell _ _ _ _ d,Below.heap_setCell _ _ _ _ d,Below.heap_setCell _ _ _ _ d]
theorem Box.same{w u:World}{b:Nat}{g f e d:Value}(h:Box w b g f e d)(c:u.heap[b]?=w.heap[b]?):Box u b g f e d:=
 ⟨(World.cell?_of_block (w:=w) (a:=⟨b,0,none⟩) c).trans h.1,(World.cell?_of_block (w:=w) (a:=⟨b,1,none⟩) c).trans h.2.1,(World.cell?_of_block (w:=w) (a:=⟨b,2,none⟩) c).trans h.2.2.1,(World.cell?_of_block (w:=w) (a:=⟨b,3,none⟩) c).trans h.2.2.2⟩
end Go.GxZ
namespace Go.Proofs.YtinbdcelmgfniaaGreatDoor
open Go Go.RowKit Go.GxZ Go.AmZ Go.Lib
theorem qHp:qom Tryz.prog .term 23 25 56:=⟨by
 have h:(match yQ Tryz.prog 23 with|some ⟨_,_,_,_,.slice e k b z⟩=>Nat.beq e 25&&(Nat.beq k 4&&(Nat.beq b 56&&Nat.beq z.length 4))|_=>false)=true:=by kernel_rfl
 split at h
 .rename_i l j i g e k b z m;simp only[wc]at h;let⟨f,d,c,a⟩:=h;have f:=wm f;have d:=wm d;have c:=wm c;have a:=wm a;subst f;subst d;subst c;exact⟨l,j,i,g,z,m,a⟩
 .cases h⟩
theorem qJR{F:Val RD->Option qkZ}{k:Nat}{b:Val RD}{r:(Val RD×Unit)×(T×Unit)}(h:qpz F k b=some r):∃a nk nm sk lf,F b=some ((a,()),((nk,nm,sk,[],lf,()),()))/\qkC F k [(T.mk nk nm sk [],lf)] a=some r:=by
 unfold qpz at h;cases c:qeP F b with
 |none=>rw[c]at h;cases h
 |some x=>
   let⟨a,nk,nm,sk,lf⟩:=x;rw[c]at h;exact⟨a,nk,nm,sk,lf,qt6 c,h⟩
def qOY(a:Gh)(w0:World)(b:Val RD)(t:T)(e:Ending)(w':World):Prop:=∃(us:List Value) (Γ:Gh) (σ:St),e=.returned (.agg us.toArray)/\RS a w0 b Γ σ w'/\RepL Γ (qe .term t) us/\∀u∈us,u.oneCell'=true
theorem qM0:(Tryz.prog.info? 79).map (λ i=>(i.zero,i.size,i.bytes))=some (some (.agg #[.int .i64 0,.string ⟨#[]⟩,.int .i64 0,.slice none 0 0,.int .i64 0]),5,64):=by kernel_rfl
set_option maxHeartbeats 4000000 in
set_option maxRecDepth 1000000 in
theorem qLV{F:Val RD->Option qkZ}(hF:qT Tryz.prog 67 (sgP (qp5 F))){k:Nat}{Γ0:Gh}{σ0:St}{w0:World}{rd rd':Val RD}{t:T}(h0:Inv Γ0 σ0 w0)(hb : σ0.bx=[qe RD rd])(hr : σ0.rw=[])(hf:qpz F k rd=some ((rd',()),(t,()))) :
  Calls Tryz.prog 35 #[.pointer (some ⟨Γ0.β 0,0,none⟩)] w0 (qOY Γ0 w0 rd' t):=by
 have HF:=Lib.hid hF;have hS:RS Γ0 w0 rd Γ0 σ0 w0:=⟨.refl _ _,h0,hb⟩
 have HS:=Lib.hid hS;have HR:=Lib.hid hr;have HQ:=Lib.hid hf;clear hF hS hr hf h0 hb;generalize hβ : Γ0.β 0 = β;have Hβ := Lib.hid hβ;clear hβ
 go_enter Tryz.func35,Tryz.ntmps35
 obtain⟨rd1,nk,nm,sk,lf,hf1,hl1⟩:=qJR HQ.out
 have hc1:∀ o:Obj,Calls Tryz.prog 67 #[.pointer (some ⟨β,0,none⟩)] (w0.alloc o) λ e w'=>∃ Γ' σ' ku,e = .returned (.agg #[.int .i64 nk,.string ⟨nm.toArray⟩,.int .i64 sk,ku,.int .i64 lf])/\Ext Γ0 (w0.alloc o) Γ' w'/\RS Γ0 w0 rd1 Γ' σ' w' /\ σ'.rw = σ0.rw++[⟨4,[],0,0,false⟩]/\Rep Γ' (.rs σ0.rw.length 0 0 0 false) ku := λ o=>by
  rw[<- Hβ.out];exact qx3 HF.out hf1 (HS.out.alloc o)
 have HC1:=Lib.hid hc1;have HL1:=Lib.hid hl1;clear hc1 hl1 hf1
 go_wp2_with (go_at_call 67;refine(HC1.out _).mono ?_;rintro e w1 ⟨Γ1,σ1,ku,rfl,hx1,hS1,hrw1,hku1⟩)
 have hR1 : σ1.rw[σ0.rw.length]?=some ⟨4,[],0,0,false⟩:=by rw[hrw1];simp
 have hsz1:w0.heap.size+1<=w1.heap.size:=by have:=hx1.size;simpa using this
 have hres0:qc6 Γ0 (w0.alloc (Obj.cells #[.int .i64 0,.string ⟨#[]⟩,.int .i64 0,.slice none 0 0] 25)) w0.heap.size 25 :=
  ⟨qe9.new HS.out.i (wa _),by simp,heap_alloc_new w0 _⟩
 have hres1:=hres0.ext hx1;obtain⟨hS2,hK2⟩:=qQW (N:=79) (B:=w0.heap.size) hS1 (by omega) (nk:=nk) (sk:=sk) (nm:=nm) (lf:=lf) hR1 hku1;have hres2:qc6 Γ1 (w1.alloc (Obj.cells #[.int .i64 nk,.string ⟨nm.toArray⟩,.int .i64 sk,ku,.int .i64 lf] 79)) w0.heap.size 25:=hres1.same (by simp) (Below.heap_alloc _ _ _ hres1.2.1);have hbet:∀{Γ : Gh},Le Γ0 Γ -> Γ.β 0 = β := λ h=>(h.β 0 (by rw[HS.out.i.nb,HS.out.bx];exact Nat.zero_lt_one)).trans Hβ.out;have HBET:Hid (∀{Γ : Gh},Le Γ0 Γ -> Γ.β 0 = β):=@hbet;have HS2:=Lib.hid hS2;have HK2:=Lib.hid hK2;have HRES2:=Lib.hid hres2;have HSZ1:=Lib.hid hsz1;clear hR1 hres0 hres1 hS2 hK2 hres2 hx1 hS1 hrw1 hku1 hbet hsz1 HC1
 go_loopg [3] k (λ g1 v3 wr=>∃(st:List (T × Int)) (ids:List Nat) (g cap:Nat) (cs:List Value) (Γ : Gh) (σ : St) (rdx:Val RD),v3 = .slice (some ⟨g,0,none⟩) (st.length:Nat) cap/\Hid (RS Γ0 w0 rdx Γ σ wr)/\Hid (Stk w0.heap.size 79 Γ σ wr st ids g cap cs)/\Hid (qc6 Γ wr w0.heap.size 25/\w0.heap.size≠g)/\Hid (qkC F g1 st rdx=some ((rd',()),(t,()))))
 case atStart=>exact⟨_,_,_,_,_,_,_,_,rfl,HS2.out,HK2.out,⟨HRES2.out,by have:=HSZ1.out;omega⟩,HL1.out⟩
 case round =>
  obtain⟨st,ids,g,cap,cs,Γ,σ,rdx,rfl,HSr,HKr,HRr,HLr⟩:=hrel;clear HS2 HK2 HRES2 HL1 HSZ1
  obtain⟨m,hm⟩:∃ m,gk=m+1:=by
   cases gk with
   | zero=>exact absurd HLr.out (by intro h;cases h)
   | succ m=>exact⟨m,rfl⟩
  have HLm:Hid (qkC F (m+1) st rdx=some ((rd',()),(t,()))):=by rw[<- hm];exact HLr
  clear HLr;obtain⟨hw0,hw1,hw2⟩:=HSr.out.box;rw[HBET.out HSr.out.x.le]at hw0 hw1 hw2;clear hw0 hw1;rcases qJH (show qnj F (qkC F m) st rdx=some ((rd',()),(t,()))from HLm.out)with⟨hw,he⟩ | ⟨hw,p,top,lt,hlen,hp,hcase⟩
  ·rw[hw]at hw2;cases he;obtain⟨r0,r1,r2,r3,rf⟩:=HRr.out.1.cells;have RF:=Lib.hid rf;have f0:=rf 0;have f1:=rf 1;have f2:=rf 2;have f3:=rf 3;clear rf
   go_wp2_with fail
   obtain⟨w9,hw9,⟨b0,b1,b2,b3⟩,_⟩:=qBr wr w0.heap.size _ _ _ _ (.int .i64 0) (.string ⟨#[]⟩) (.int .i64 0) (.slice none 0 0) ⟨r0,r1,r2,r3⟩;have hS9:=HSr.out.put4 HRr.out.1.1 (wa _) (.int .i64 0) (.string ⟨#[]⟩) (.int .i64 0) (.slice none 0 0);rw[hw9]at hS9 |-
   refine bodyPost_ret (v := .agg #[.int .i64 0,.string ⟨#[]⟩,.int .i64 0,.slice none 0 0]) (by simp[results,Tryz.results35,go_sem,b0,b1,b2,b3]) rfl ?_;exact⟨_,Γ,σ,rfl,hS9,qhE (t := .mk 0 [] 0 []) qFc,qpm rfl⟩
  ·rw[hw]at hw2;obtain⟨r,hr,NC⟩:=HKr.out.at hp;have hcap:=qRe HKr.out.own;have hpm:p+1<=maxLen:=by omega
   unfold maxLen at hpm;have hwp:IntKind.i64.wrap (((p+1:Nat):Int)-1)=(p:Int):=by rw[IntKind.wrap_i64];omega
   obtain⟨Rp,kp,z1,z2,z3,z4,z5,z6,a0,a1,a2,a3,a4⟩:=NC;obtain⟨c4,f4⟩:=HKr.out.cell a4;have hz:(p:Int)<((p+1:Nat):Int):=by omega
   rcases hcase with⟨hlt,hroom,rd1,nk1,nm1,sk1,lf1,hf1,hih⟩ | ⟨hlt,hend⟩
   ·clear z1 z2 z3 z4 z5 z6 a0 a1 a2 a3;rw[hlen]
    go_upto_region 6 with(fail)
    have hwr:iw .i64 (zX lt 1)=wrap64 (lt-1):=by show IntKind.i64.wrap (lt-1)=_;rw[IntKind.wrap_i64];unfold wrap64;rfl
    rw[hwr]at hih;have hS2:=HSr.out.set HKr.out.priv (qcN HKr.out.own).1 (p*5+4) (.int .i64 (wrap64 (lt-1)));have hK2:=HKr.out.left hp (wrap64 (lt-1));have hR2:qc6 Γ (wr.setCell ⟨g,p*5+4,none⟩ (.int .i64 (wrap64 (lt-1)))) w0.heap.size 25:=HRr.out.1.same (by simp) (Below.heap_setCell _ _ _ _ HRr.out.2);have hc:=qx3 HF.out hf1 hS2;rw[HBET.out HSr.out.x.le]at hc;generalize wr.setCell ⟨g,p*5+4,none⟩ (.int .i64 (wrap64 (lt-1)))=w2 at *;have HC:=Lib.hid hc;have HK2:=Lib.hid hK2;have HR2:=Lib.hid hR2;have HIH:=Lib.hid hih;have HRM:=Lib.hid hroom;have HLEN:=Lib.hid hlen;have HNG:=Lib.hid HRr.out.2;clear hc hK2 hR2 hih hroom hS2 HSr HKr HRr hlen hcap hwp hz c4 f4 a4 hr hp hf1 hw2 hwr;obtain⟨i0,hi,hz0,hz1,hz2⟩:=info_parts qM0
    go_wp2_with (first
     | (go_at_call 67;refine HC.out.mono ?_;rintro e w3 ⟨Γ3,σ3,ku3,rfl,hx3,hS3,hrw3,hku3⟩
        have hK3:=HK2.out.later hx3 (σ' := σ3) (λ r _ R h=>by rw[hrw3,List.getElem?_append_left (getElem?_lt h)];exact h);have hR3:=HR2.out.ext hx3;have hnid : σ.rw.length ∉ ids:=HK2.out.id_lt;have hlen2:(st.set p (top,wrap64 (lt-1))).length=p+1:=by rw[wI];exact HLEN.out
        obtain⟨v4,w4,hrun4,g4,cap4,hv4,hS4,hK4,hsz4,hbl4,hg4⟩:=qNu Tryz.underlying81 hi hz0 hz1 hz2 rfl hS3 hK3 (wa _) (nk:=nk1) (nm:=nm1) (sk:=sk1) (lf:=lf1) (r := σ.rw.length) (by rw[hrw3];simp) hku3 hnid (by rw[hlen2];exact HRM.out) 81;have hR4:qc6 Γ3 w4 w0.heap.size 25:=hR3.same hsz4 (hbl4 _ hR3.2.1 HNG.out);have hng4:w0.heap.size≠g4:=by rcases hg4 with rfl | h;exact HNG.out;have:=hR3.2.1;omega
        rw[hlen2]at hrun4 hv4;subst hv4;have HS4:=Lib.hid hS4;have HK4:=Lib.hid hK4;have HR4:=Lib.hid hR4;have HNG4:=Lib.hid hng4;have HRUN:=Lib.hid hrun4;clear hx3 hS3 hrw3 hku3 hK3 hR3 hnid hlen2 hrun4 hS4 hK4 hsz4 hbl4 hg4 hR4 hng4)
     | (at_builtin;refine qz7 _ _ _ rfl rfl rfl rfl HRUN.out ?_))
    go_roundg m
    case measure=>omega
    case rel=>exact⟨_,_,g4,cap4,_,Γ3,σ3,rd1,by rw[wd,wI,HLEN.out];rfl,HS4.out,HK4.out,⟨HR4.out,HNG4.out⟩,HIH.out⟩
   ·obtain⟨c0,f0⟩:=HKr.out.cell a0;obtain⟨c1,f1⟩:=HKr.out.cell a1;obtain⟨c2,f2⟩:=HKr.out.cell a2;obtain⟨c3,f3⟩:=HKr.out.cell a3;have hgl:=(qcN HKr.out.own).2;have hbl:w0.heap.size<wr.heap.size:=HRr.out.1.2.1;have NC:qjh Γ σ cs p top lt r:=⟨Rp,kp,z1,z2,z3,z4,z5,z6,a0,a1,a2,a3,a4⟩
    have hk1:=z6.one rfl;obtain⟨pa,kn,kc,rfl⟩:∃ pa kn kc,kp = .slice pa kn kc:=by cases z6;exact⟨_,_,_,rfl⟩
    clear z1 z2 z3 z4 z5 z6 a0 a1 a2 f0 f1 f2 f3 f4;rcases hend with⟨rfl,he⟩ | ⟨q,par,n,rfl,hq,hroom,hih⟩
    ·cases he;rw[hlen];have hR5:∀ o:Obj,qc6 Γ (wr.alloc o) w0.heap.size 25 := λ o=>HRr.out.1.same (by simp) (Below.heap_alloc _ _ _ hbl);obtain⟨r0,r1,r2,r3,rf⟩:=HRr.out.1.cells;have f0:=rf 0;have f1:=rf 1;have f2:=rf 2;have f3:=rf 3;clear rf;have HNC:=Lib.hid NC;have HR5:=Lib.hid hR5;have HLT:=Lib.hid hlt;have HK1:=Lib.hid hk1;clear NC hR5 hk1
     go_wp2_with fail
     obtain⟨w9,hw9,⟨b0,b1,b2,b3⟩,_,hsz9,_⟩:=qBr wr w0.heap.size _ _ _ _ (.int .i64 t.kind) (.string ⟨t.name.toArray⟩) (.int .i64 t.sort) (.slice pa kn kc) ⟨r0,r1,r2,r3⟩;have hS9:=HSr.out.put4 HRr.out.1.1 (wa _) (.int .i64 t.kind) (.string ⟨t.name.toArray⟩) (.int .i64 t.sort) (.slice pa kn kc);rw[hw9]at hS9 |-
     have hl9:w0.heap.size<w9.heap.size:=by rw[hsz9];exact hbl
     refine bodyPost_ret (v := .agg #[.int .i64 t.kind,.string ⟨t.name.toArray⟩,.int .i64 t.sort,.slice pa kn kc]) (by simp[results,Tryz.results35,go_sem,b0,b1,b2,b3,hl9]) rfl ?_;have hS10:=hS9.alloc (.cells #[.int .i64 t.kind,.string ⟨t.name.toArray⟩,.int .i64 t.sort,.slice pa kn kc] 25);obtain⟨Γ1,σ9,kx,y1,y2,y3,y4,y5,y6,y7⟩:=qFe hS10.i HNC.out;obtain⟨_,kx',_,_,_,_,_,_,_,_,_,y8,_⟩:=HNC.out;have hcs:cs[0*5+3]?=some (.slice pa kn kc):=a3;rw[hcs]at y5;cases y5;exact⟨[.int .i64 t.kind,.string ⟨t.name.toArray⟩,.int .i64 t.sort,.slice pa kn kc],Γ1,σ9,rfl,⟨hS10.x.trans y3,y4,y1.trans hS10.bx⟩,qhE y6,qpm rfl⟩
    ·rw[hlen];have HNC:=Lib.hid NC;have HK1:=Lib.hid hk1;have HIH:=Lib.hid hih;have HRM:=Lib.hid hroom;have HQ2:=Lib.hid hq;have HP:=Lib.hid hp;have hqm:q+1+1<=2 ^ 63-1:=hpm;have hz2:¬ ((q:Int)+1=0):=by omega
     clear NC hk1 hih hroom hq HQ
     go_upto_region 11 with(fail)
     obtain⟨w5,hw5,hb5,hs5,hbx5⟩:=qTz wr (.int .i64 top.kind) (.string ⟨top.name.toArray⟩) (.int .i64 top.sort) (.slice pa kn kc) 25;have hS5:=HSr.out.alloc (.cells #[.int .i64 top.kind,.string ⟨top.name.toArray⟩,.int .i64 top.sort,.slice pa kn kc] 25);have hK5:=HKr.out.grown (World.grownBy_alloc wr (.cells #[.int .i64 top.kind,.string ⟨top.name.toArray⟩,.int .i64 top.sort,.slice pa kn kc] 25) none) (λ e=>by cases e);have hR5:qc6 Γ (wr.alloc (.cells #[.int .i64 top.kind,.string ⟨top.name.toArray⟩,.int .i64 top.sort,.slice pa kn kc] 25)) w0.heap.size 25:=HRr.out.1.same (by simp) (Below.heap_alloc _ _ _ hbl);rw[hw5]at hS5 hK5 hR5 |-
     have g5:=hbx5 _ (Below.refl _ _);have HS5:=Lib.hid hS5;have HK5:=Lib.hid hK5;have HR5:=Lib.hid hR5;have G5:=Lib.hid g5;have HNG:=Lib.hid HRr.out.2;have HA3:=Lib.hid a3;have HSZ5:=Lib.hid hs5;clear hbx5 hw5 hb5 hS5 hK5 hR5 g5 HSr HKr HRr c0 c1 c2 c3 c4 a4 a3 hw2 hgl hbl hs5 hlen hp hcap hwp hr
     have key:∀ bv:Value,RS Γ0 w0 rdx Γ σ (w5.alloc (.cells #[bv] 4)).drew/\Stk w0.heap.size 79 Γ σ (w5.alloc (.cells #[bv] 4)).drew st ids g cap cs/\qc6 Γ (w5.alloc (.cells #[bv] 4)).drew w0.heap.size 25/\Box (w5.alloc (.cells #[bv] 4)).drew wr.heap.size (.int .i64 top.kind) (.string ⟨top.name.toArray⟩) (.int .i64 top.sort) (.slice pa kn kc) := λ bv =>
      ⟨(HS5.out.alloc _).drew',(HK5.out.grown (World.grownBy_alloc w5 (.cells #[bv] 4) none) (λ e=>by cases e)).drew,(HR5.out.same (by simp) (Below.heap_alloc _ _ _ HR5.out.2.1)).drew,G5.out.same (Below.heap_alloc _ _ _ (by have:=HSZ5.out;omega))⟩
     have KEY:=Lib.hid key;clear key
     go_region
     ·obtain⟨w6,hw6⟩:∃ w6,(w5.alloc (.cells #[.bool false] 4)).drew=w6:=⟨_,rfl⟩
      obtain⟨k1,k2,k3,k4⟩:=KEY.out (.bool false);rw[hw6]at k1 k2 k3 k4 |-
      have HS6:=Lib.hid k1;have HK6:=Lib.hid k2;have HR6:=Lib.hid k3;have G6:=Lib.hid k4;clear KEY hw6 k1 k2 k3 k4 HS5 HK5 HR5 G5 HSZ5
      go_upto_region 14 with(fail)
      obtain⟨Γ7,σ7,kx,b4,hS7,hK7,hx7,hx6⟩:=qH0 HS6.out.drew' HK6.out.drew HP.out;rw[HA3.out]at b4;cases b4;have hql:q<st.length:=getElem?_lt HQ2.out;obtain⟨kq,rq,b0,_,_,v8,w8,hrun,⟨pa8,kc8,hv8⟩,Γ8,σ8,hx8,hS8,hK8⟩:=qHI qHp hS7 hK7 (wa _) (q:=q) (t:=par) (n:=n) (by rw[List.getElem?_take,if_pos (by omega)];exact HQ2.out) hx7 HRM.out 25 23;rw[xG,kw (by omega)]at hK8;subst hv8;obtain⟨c6,f6⟩:=hK7.cell b0;obtain⟨c0,c1,c2,c3⟩:=G6.out;have c7:∀ o:Obj,(w6.alloc o).cell? ⟨g,q*5+3,none⟩=some kq := λ o=>(World.cell?_alloc_lt _ _ _ (by show g<_;exact(qcN HK6.out.own).2)).trans c6;have hbk:=(hK7.priv.ext hx8 (by exact(qcN HK6.out.own).2)).2;have c8:w8.cell? ⟨g,q*5+3,none⟩=some kq:=(World.cell?_of_block (w:=w6) (a:=⟨g,q*5+3,none⟩) hbk).trans c6;have f8:w8.frozen? ⟨g,q*5+3,none⟩=false:=(World.frozen?_of_block (w:=w6) (a:=⟨g,q*5+3,none⟩) hbk).trans f6;have HR8:=Lib.hid ((HR6.out.drew.ext hx6).ext hx8);have HS8:=Lib.hid hS8;have HK8:=Lib.hid hK8;have hrun:(Builtin.append_ #[23,23] 23 #[kq,.slice (some ⟨w6.heap.size,0,none⟩) 1 1]).run Tryz.prog (w6.alloc (.cells #[.int .i64 top.kind,.string ⟨top.name.toArray⟩,.int .i64 top.sort,.slice pa kn kc] 25)).drew = .ok (.slice pa8 (par.kids.length+1) kc8) w8:=hrun;have HRUN:=Lib.hid hrun;have hl9:(st.take q++[(T.mk par.kind par.name par.sort (par.kids++[top]),n)]).length=q+1:=by rw[wd,wo];simp;omega
      have HL9:=Lib.hid hl9;clear hx8 hS8 hK8 hrun b0 hbk HS6 HK6 HR6 G6 hS7 hK7 hx7 hx6 hl9 hql;have hwq:IntKind.i64.wrap (q:Int)=(q:Int):=by rw[IntKind.wrap_i64];omega
      have hqz:(q:Int)<(q:Int)+1:=by omega
      go_region_law (first | (refine qoe rfl _ _ _ rfl rfl rfl HRUN.out ?_))
      all_goals
       go_wp2_with fail
       go_roundg m
       case measure=>omega
       case rel=>exact⟨_,_,g,cap,_,Γ8,σ8,rdx,by rw[HL9.out],HS8.out,HK8.out,⟨HR8.out.same (by simp) (Below.heap_setCell _ _ _ _ HNG.out),HNG.out⟩,HIH.out⟩
     ·obtain⟨w6,hw6⟩:∃ w6,(w5.alloc (.cells #[.bool true] 4)).drew=w6:=⟨_,rfl⟩
      obtain⟨k1,k2,k3,k4⟩:=KEY.out (.bool true);rw[hw6]at k1 k2 k3 k4 |-
      have HS6:=Lib.hid k1;have HK6:=Lib.hid k2;have HR6:=Lib.hid k3;have G6:=Lib.hid k4;clear KEY hw6 k1 k2 k3 k4 HS5 HK5 HR5 G5 HSZ5
      go_upto_region 12 with(fail)
      obtain⟨Γ7,σ7,kx,b4,hS7,hK7,hx7,hx6⟩:=qH0 HS6.out.drew' HK6.out.drew HP.out;rw[HA3.out]at b4;cases b4;have hql:q<st.length:=getElem?_lt HQ2.out;obtain⟨kq,rq,b0,_,⟨pa7,kc7,rfl⟩,v8,w8,hrun,⟨pa8,kc8,hv8⟩,Γ8,σ8,hx8,hS8,hK8⟩:=qHI qHp hS7 hK7 (wa _) (q:=q) (t:=par) (n:=n) (x := .mk 0 [] 0 []) (by rw[List.getElem?_take,if_pos (by omega)];exact HQ2.out) qFc HRM.out 25 23;rw[xG,kw (by omega)]at hK8;subst hv8;obtain⟨c6,f6⟩:=hK7.cell b0;obtain⟨c0,c1,c2,c3⟩:=G6.out;have c7:∀ o:Obj,(w6.alloc o).cell? ⟨g,q*5+3,none⟩=some (.slice pa7 par.kids.length kc7) := λ o=>(World.cell?_alloc_lt _ _ _ (by show g<_;exact(qcN HK6.out.own).2)).trans c6;have hwl:wr.heap.size<w6.heap.size:=qtt c0;have hbk:=(hK7.priv.ext hx8 (by exact(qcN HK6.out.own).2)).2;have c8:w8.cell? ⟨g,q*5+3,none⟩=some (.slice pa7 par.kids.length kc7):=(World.cell?_of_block (w:=w6) (a:=⟨g,q*5+3,none⟩) hbk).trans c6;have f8:w8.frozen? ⟨g,q*5+3,none⟩=false:=(World.frozen?_of_block (w:=w6) (a:=⟨g,q*5+3,none⟩) hbk).trans f6;have hR8:qc6 Γ8 (w8.setCell ⟨g,q*5+3,none⟩ (.slice pa8 (par.kids.length+1) kc8)) w0.heap.size 25:=((HR6.out.drew.ext hx6).ext hx8).same (by simp) (Below.heap_setCell _ _ _ _ HNG.out);have hl9:(st.take q).length=q:=by rw[wo];omega
      obtain⟨b,kc9,y1,y2,y3,y4,y5,Γ9,σ9,hx9,hS9,hK9⟩:=qQP hS8 hK8 (q:=q) (ks:=par.kids) (z := .mk 0 [] 0 []) (x:=top) (n:=n) (by rw[List.getElem?_append_right (by omega),hl9,kP];rfl) rfl (hx7.mono hx8.le)
      have y6:pa8=some ⟨b,0,none⟩/\kc8=kc9:=by
       rw[List.getElem?_take,if_pos (by omega),List.getElem?_set_self (by rw[hK7.own.1,wo];omega)]at y1;cases y1;exact⟨rfl,rfl⟩
      obtain⟨rfl,rfl⟩:=y6;obtain⟨u0,d0⟩:=y4 0 (by decide);obtain⟨u1,d1⟩:=y4 1 (by decide);obtain⟨u2,d2⟩:=y4 2 (by decide);obtain⟨u3,d3⟩:=y4 3 (by decide);have g0:=y5 (par.kids.length*4);have g1:=y5 (par.kids.length*4+1);have g2:=y5 (par.kids.length*4+2);have g3:=y5 (par.kids.length*4+3);have hres:b≠w0.heap.size := λ e=>hR8.1.own (e▸y3);have hR9:=(hR8.ext hx9)
      have hrun:(Builtin.append_ #[23,23] 23 #[.slice pa7 par.kids.length kc7,.slice (some ⟨w6.heap.size,0,none⟩) 1 1]).run Tryz.prog (w6.alloc (.cells #[.int .i64 0,.string ⟨#[]⟩,.int .i64 0,.slice none 0 0] 25)).drew = .ok (.slice (some ⟨b,0,none⟩) (par.kids.length+1) kc8) w8:=hrun;obtain⟨w9,hw9⟩:∃ w9,w8.setCell ⟨g,q*5+3,none⟩ (.slice (some ⟨b,0,none⟩) (par.kids.length+1) kc8)=w9:=⟨_,rfl⟩
      rw[hw9]at hS9 hK9 hR9 d0 d1 d2 d3 g0 g1 g2 g3;rw[wO]at d0
      have hl10:((st.take q++[(T.mk par.kind par.name par.sort (par.kids++[T.mk 0 [] 0 []]),n)]).set q (T.mk par.kind par.name par.sort (par.kids++[top]),n))=st.take q++[(T.mk par.kind par.name par.sort (par.kids++[top]),n)]:=by
       rw[vP _ _ (by omega),hl9,kP];rfl
      have hK9:Stk w0.heap.size 79 Γ9 σ9 _ ((st.take q++[(T.mk par.kind par.name par.sort (par.kids++[T.mk 0 [] 0 []]),n)]).set q (T.mk par.kind par.name par.sort (par.kids++[top]),n)) _ g cap _:=hK9;rw[hl10]at hK9;have hl11:(st.take q++[(T.mk par.kind par.name par.sort (par.kids++[top]),n)]).length=q+1:=by rw[wd,hl9];rfl
      have HL11:=Lib.hid hl11;have HS9:=Lib.hid hS9;have HK9:=Lib.hid hK9;have HR9:=Lib.hid hR9;have HRUN:=Lib.hid hrun;have HW9:=Lib.hid hw9;have hwq:IntKind.i64.wrap (q:Int)=(q:Int):=by rw[IntKind.wrap_i64];omega
      have hqz:(q:Int)<(q:Int)+1:=by omega
      have hnz:(par.kids.length:Int)<(par.kids.length:Int)+1:=by omega
      clear hx8 hS8 hK8 hrun b0 hbk HS6 HK6 HR6 G6 hS7 hK7 hx7 hx6 hl9 hql hR8 hx9 hS9 hK9 hR9 hw9 hl10 hl11 y1 y2 y3 y4 y5 hres
      go_region_law (first | (refine qoe rfl _ _ _ rfl rfl rfl HRUN.out ?_))
      all_goals
       rw[HW9.out]
       go_wp2_with fail
       go_roundg m
       case measure=>omega
       case rel=>exact⟨_,_,g,cap,_,Γ9,σ9,rdx,by rw[HL11.out],HS9.out,HK9.out,⟨HR9.out,HNG.out⟩,HIH.out⟩
end Go.Proofs.YtinbdcelmgfniaaGreatDoor
namespace Go.AmZ
open Go Go.RowKit Go.GxZ
theorem qMR{ds:List AV}{e:Val RD}(h:qL RD (ds.take (Ty.size RD))=some e)(j:ds.drop (Ty.size RD)=[]):ds=qe RD e:=by
 have k:ds.take (Ty.size RD)=ds:=kV (List.drop_eq_nil_iff.1 j);rw[k]at h;have h:=qR.1 h;let⟨s,f,w⟩:=e;change qqq (yJ .str) (qqq (yJ (.int .i64)) (yJ .bool)) ds=_ at h;unfold qqq at h;split at h<;>try cases h
 rename_i x r c;split at h<;>cases h;rename_i y d;split at d<;>try cases d
 rename_i l g a;split at d<;>cases d;rename_i b;have c:qdp ds=some (s,r):=c;have a:JJ .i64 r=some (f,g):=a;have b:qdr g=some (w,[]):=b;unfold qdp at c;split at c<;>cases c;unfold JJ at a;split at a<;>try cases a
 rename_i i;split at a<;>cases a;have i:=of_decide_eq_true (by assumption);subst i;unfold qdr at b;split at b<;>cases b;rfl
theorem qQN{σ:St}{ys:List AV}{a:qaJ [.box [.val RD]]}(h:dS σ [.box [.val RD]] 0 0 ys=some a):ys=[.ptr 0 0]/\σ.bx=[qe RD a.1]/\σ.rw=[]:=by
 cases ys with
 |nil=>simp[dS]at h
 |cons y ys=>
   simp only[dS]at h;cases c:qjv σ [.val RD] 0 0 y with
   |none=>rw[c]at h;cases h
   |some p=>
     let⟨v,n⟩:=p;rw[c]at h;simp only at h;unfold qjv at c;split at c<;>try cases c
     rename_i j f;have f:=qEF f;subst f;split at c<;>try cases c
     rename_i ds k g;have k:=wm k;subst k;simp only[qgX]at c;split at c<;>try cases c
     rename_i x m;split at c<;>cases c;rename_i d
     have l:ds.drop (Ty.size RD)=[]/\n=0:=by
      cases i:ds.drop (Ty.size RD)with
      |nil=>rw[i]at d;simp[qgX]at d;exact⟨rfl,d.symm⟩
      |cons z r=>rw[i]at d;simp[qgX]at d
     obtain⟨l,rfl⟩:=l;split at h<;>cases h;rename_i hdS;obtain⟨rfl,q,o⟩:=qlL hdS;have e:=qMR m l;let⟨b,c⟩:=xV.1 q.symm;refine⟨rfl,?_,wi o.symm⟩;rw[c]at g |-
     cases g;rw[e];rfl
end Go.AmZ
namespace Go.Proofs.YtinbdcelmgfniaaGreatDoor
open Go Go.RowKit Go.GxZ Go.AmZ Go.Lib
theorem hand_read{F:Val RD->Option qkZ}(q:qT Tryz.prog 67 (sgP (qp5 F)))(k:Nat):qT Tryz.prog 35 (sgP ⟨[.box [.val RD]],[.one (.val .term)],λ x=>qpz F k x.1⟩):=by
 refine⟨QO Tryz.func35 (by kernel_rfl),λ Γ σ w l h r i g a=>?_⟩;let⟨B,b,y,m⟩:= σ;unfold sgP at a;split at a<;>try cases a
 rename_i x p;let⟨z,_⟩:=x;obtain⟨rfl,j,c⟩:=qQN p;have c:b=[]:=c;subst c;split at a<;>cases a;rename_i n d;let⟨⟨o,_⟩,t,_⟩:=n;obtain⟨u0,A,rfl,f,g⟩:=g.uncons;have:=g.nil_inv;subst this;cases f;refine(qLV q i j rfl d).mono ?_;rintro e w' ⟨us,Γ',σ',rfl,v,u,s⟩;exact qKO i (by rw[j];rfl) rfl v u s
end Go.Proofs.YtinbdcelmgfniaaGreatDoor
namespace Go.AmZ
open Go Go.GxZ
set_option linter.unusedVariables false
set_option maxRecDepth 100000
open Go.Proofs.Tryz (func8 func10 func11 func12 func13 func14 func15 func26 func27 func28 func29 func30 func32 func33 func34 func36 func37 func38 func39 func40 func41 func42 func43 func44 func45 func46 func47 func50 func51 func52 func55 func56 func57 func58 func59 func60 func61 func62 func63 func64 func66 func67 func68 func69 func70 func71 func72 func73 func74 func75 func76 func77 func78 func79 func80 func81 func82 func83 func84 func85 func86 func87 func88 func89 func90 func91 func92 func93 func94 func95 func96 func97 func98 func99 func100 func101 func102 func103 func105 func106 func107 func108 func109 func110 func111 func112 func113 func114 func115 func117 func118 func119 func120 func121 func122 func123 func124 func125 func126 func127 func128 func129 func130 func131 func133 func134 func135 func136 func137 func138 func141 func142 func143 func144 func149 func150 func151 func153 func154 func155 func156 func157 func158 func159 func160 func161 func162 func163 func164 func165 func166 func167 func168 func169 func170 func171 func172 func173 func174 func177 func184 func185 func186 func187 func190 func191 func192 func194 func195 func196 func197 func198 func199 func200 func201 func202 func214 func223 func224 func227 func228 func229 func230 func241)
theorem qkB(m:Nat)(h:yr Go.Proofs.Tryz.prog (tb.at m).pc.cfg):qT Go.Proofs.Tryz.prog 35 (sgP ⟨[.box [.val RD]],[.one (.val .term)],λ x=>jA (m+1) x.1⟩):=Go.Proofs.YtinbdcelmgfniaaGreatDoor.hand_read (F:=qy m) (h.prim 67 _ (by kernel_rfl)) m
theorem qco(m:Nat)(h:yr Go.Proofs.Tryz.prog (tb.at m).pc.cfg):qT Go.Proofs.Tryz.prog 139 (mgP ⟨.term,[.clo 89 0],λ x=>q9 (m+1) x.1⟩):=qA2 (τ:=.term) Go.Proofs.Tryz.sortTrm (λ _=>rfl) Go.Proofs.Tryz.isAgg25 Go.Proofs.Tryz.sizeOf25 (qEB (τ:=.term) (ρ:=y2) (qzc h (by kernel_rfl)) (F:=λ x y=>qz m x y) (by kernel_rfl) (λ _=>rfl)) (QO Go.Proofs.Tryz.func139 (by kernel_rfl)) (λ _ _ h=>h)
theorem qbi(m:Nat)(h:yr Go.Proofs.Tryz.prog (tb.at m).pc.cfg):qT Go.Proofs.Tryz.prog 140 (sgP ⟨[.row .term,.clo 141 0],[.one (.row .term)],λ x=>qM (m+1) x.1⟩):=qDC (qEB (τ:=.term) (ρ:=.bool) (qzc h (by kernel_rfl)) (F:=λ x y=>ji m x y) (by kernel_rfl) (λ _=>rfl)) (λ _ _ h=>qJy h)
theorem qaB(m:Nat)(h:yr Go.Proofs.Tryz.prog (tb.at m).pc.cfg):qT Go.Proofs.Tryz.prog 152 (mgP ⟨y3,[.clo 153 0],λ x=>yD (m+1) x.1⟩):=qA2 (τ:=y3) Go.Proofs.Tryz.sortBnd (λ _=>rfl) Go.Proofs.Tryz.isAgg76 Go.Proofs.Tryz.sizeOf76 (qEB (τ:=y3) (ρ:=y2) (qzc h (by kernel_rfl)) (F:=λ x y=>qf0 m x y) (by kernel_rfl) (λ _=>rfl)) (QO Go.Proofs.Tryz.func152 (by kernel_rfl)) (λ _ _ h=>h)
theorem tb_ok:∀ m,yr Go.Proofs.Tryz.prog (tb.at m).pc.cfg:=Tb.all_ok (by kernel_rfl) qKS (by kernel_rfl) (nS func111 qwA (nS func67 qmB (nP func40 qyB (nP func28 qB1 (nP func14 qre (nP func11 qr1 (nP func10 qzH (nP func8 qog trivial trivial) trivial) (nP func13 qBG (nP func12 qwI trivial trivial) trivial)) (nP func26 qo3 ⟨qfe (m:=0),(nP func15 qEl trivial trivial),trivial⟩ (nP func27 qvD trivial trivial))) ⟨⟨qpq (QO Go.Proofs.Tryz.func35 (by kernel_rfl)) λ _=>rfl,λ m h=>qkB m h⟩,(nP func32 qFo (nP func30 qBD (nP func29 qoo trivial trivial) trivial) (nP func34 qDc (nP func33 qCd trivial trivial) trivial)),(nP func38 qCG (nP func37 qyc (nP func36 qCt trivial trivial) trivial) (nP func39 qCD trivial trivial))⟩) (nP func55 qyJ (nS func46 qtV (nP func43 qux (nP func42 qzx (nP func41 qzf trivial trivial) trivial) (nP func45 qDE (nP func44 qxl trivial trivial) trivial)) (nP func51 qx0 (nP func50 qqF (nP func47 qFj trivial trivial) trivial) (nP func52 qxI trivial trivial))) (nP func61 qyL (nP func58 qqV (nP func57 qyU (nS func56 qtA trivial trivial) trivial) (nP func60 quR (nP func59 qyQ trivial trivial) trivial)) (nP func64 qCl (nP func63 qrj (nP func62 qEZ trivial trivial) trivial) (nP func66 quM trivial trivial))))) (nP func89 qxv (nP func78 qxN (nP func73 qvr (nP func70 qz9 (nP func69 qui (nS func68 qCk trivial trivial) trivial) (nP func72 qtO ⟨⟨⟨func71,λ _=>rfl,qoh,⟨func71,λ _=>rfl,qnI,trivial⟩⟩,vK _ _⟩,trivial,trivial⟩ trivial)) (nP func76 qBU (nP func75 qy6 (nP func74 qCI trivial trivial) trivial) (nP func77 qAk trivial trivial))) (nS func84 ql9 (nP func81 qyw (nP func80 qyo (nP func79 qwx trivial trivial) trivial) (nP func83 qq8 (nS func82 Jv trivial trivial) trivial)) (nP func87 qBC (nP func86 qwp (nP func85 qkk trivial trivial) trivial) (nP func88 qmk trivial trivial)))) (nS func100 qmE (nP func95 qFI (nP func92 qyM (nP func91 qyA (nP func90 qzm trivial trivial) trivial) (nS func94 qzJ (nP func93 qzb trivial trivial) trivial)) (nS func98 qz2 (nP func97 qCB (nP func96 qB5 trivial trivial) trivial) (nP func99 qvv trivial trivial))) (nP func106 qBz (nP func103 qvy (nP func102 qyr (nS func101 qmF trivial trivial) trivial) (nP func105 qw0 ⟨λ c hc=>qq7 (m:=0) hc,trivial,trivial⟩ trivial)) (nS func109 qqk (nP func108 qxq (nP func107 qv8 trivial trivial) trivial) (nS func110 qmD trivial trivial)))))) (nP func160 qtE (nP func134 qy4 (nP func122 qB6 (nP func117 qBF (nP func114 qDJ (nP func113 qiu (nP func112 qBX trivial trivial) trivial) ⟨λ c hc=>qpY (m:=0) hc,(nP func115 qDF trivial trivial),trivial⟩) (nP func120 qvL (nS func119 qrU (nS func118 qqY trivial trivial) trivial) (nP func121 qzE trivial trivial))) (nP func128 qIZ (nP func125 qCm (nP func124 qCy (nP func123 qy2 trivial trivial) trivial) (nP func127 qtW (nP func126 qD6 trivial trivial) trivial)) (nP func131 qxs (nP func130 qvj (nP func129 qyu trivial trivial) trivial) (nP func133 qxF trivial trivial)))) (nS func149 qr7 ⟨⟨qpq (QO Go.Proofs.Tryz.func140 (by kernel_rfl)) λ _=>rfl,λ m h=>qbi m h⟩,(nP func137 quX (nP func136 qDs (nP func135 qum trivial trivial) trivial) ⟨⟨qAp (QO Go.Proofs.Tryz.func139 (by kernel_rfl)) λ _=>rfl,λ m h=>qco m h⟩,(nP func138 qzV trivial trivial),trivial⟩),(nP func143 qFF (nP func142 qB0 (nP func141 qtC trivial trivial) trivial) (nP func144 qk9 trivial trivial))⟩ (nP func155 qGn ⟨⟨qAp (QO Go.Proofs.Tryz.func152 (by kernel_rfl)) λ _=>rfl,λ m h=>qaB m h⟩,(nS func151 qq0 (nP func150 qwR trivial trivial) trivial),(nP func154 qEP (nP func153 qqG trivial trivial) trivial)⟩ (nP func158 qJB (nP func157 qxj (nP func156 qHb trivial trivial) trivial) (nS func159 qq1 trivial trivial))))) (nP func191 qrc (nP func171 qCp (nP func166 qG0 (nP func163 qf7 (nP func162 qwt (nP func161 qtJ trivial trivial) trivial) (nP func165 qCb (nP func164 qxG trivial trivial) trivial)) (nP func169 qCn (nP func168 qBM (nP func167 qAb trivial trivial) trivial) (nP func170 qtS trivial trivial))) (nS func185 qn4 (nP func174 qDo (nP func173 qBN (nP func172 qGT trivial trivial) trivial) (nS func184 qbm (nP func177 qET trivial trivial) trivial)) ⟨qdQ (m:=0),(nS func187 qEA ⟨func186,trivial,trivial⟩ trivial),(nP func190 qxD trivial trivial)⟩)) (nP func202 qva (nP func197 qAi (nS func194 qsy ⟨qf3 (m:=0),(nS func192 qsN trivial trivial),trivial⟩ (nP func196 qwk (nP func195 qrv trivial trivial) trivial)) (nP func200 qtQ (nP func199 qAe (nS func198 quk trivial trivial) trivial) (nS func201 qF2 trivial trivial))) (nP func227 qaW (nP func224 qpw (nP func223 Q3 (nS func214 qbY trivial trivial) trivial) ⟨qd6 (m:=0),⟨qd5 (m:=0),trivial,trivial⟩,trivial⟩) (nP func230 quz (nP func229 qEg (nP func228 qpa trivial trivial) trivial) (nP func241 qbF trivial trivial)))))))
end Go.AmZ
namespace Go.GxZ
open Go.RowKit Go.ChangeShapes Go.WideShapes Go.ChangeAt
open Go.WideMaps Go.WideElems
section
variable {H:Type}{enc:TypeId×Value->H}{P:Program}
theorem qqS(f:laidOutB P=true){W i:World}(g:Below W.heap.size W i):∀{ts:List TypeId}{vs:List Value}{ds:List (DataW H)}{ps:List MemPlace},
  (∀t∈ts,P.readableRec t=true/\t<P.types.size)->DataW.TrodAll enc P W 0 (λ _=>true) true ts vs ds ps->(∀x∈ps,x.block<W.heap.size)->
  DataW.TrodAll enc P i 0 (λ b=>decide (b<W.heap.size)) true ts vs ds ps
 |[],[],[],_,_,h,_=>h
 |t::ts,v::vs,d::ds,_,e,⟨p,q,m,l,k⟩,a=>by
   subst k;refine⟨p,q,?_,?_,rfl⟩
   .exact Below.trod f (e t (wh ..)).1 (e t (wh ..)).2 m g λ x c=>a x (vg _ c)
   .exact qqS f g (λ t j=>e t (we _ j)) l λ x c=>a x (xY _ c)
 |[],[],_::_,_,_,h,_|[],_::_,_,_,_,h,_|_::_,[],_,_,_,h,_|_::_,_::_,[],_,_,h,_=>h.elim
theorem qMP{f:Func}{s:ChangeSpec}{b g a:Bool}{W A:World}{d:Array Value}{ds k:List (DataW H)}{c:List MemPlace}{ts:List TypeId}{T:TypeId}
  (E:laidOutB P=true) (m:f.params.toList=ts) (C:ts.all (λ t=>P.readableRec t&&decide (t<P.types.size))=true) (u:s.vars=[])
  (n:f.resultTypes = #[T]) (G:P.underlying T=some .bool)
  (y:DataW.Whole enc P f.params.toList s.vars b W d.toList ds k c)
  (i:(s.fn H (ds++k)).results=[.lit (.bool true)]) (e:(s.fn H (ds++k)).args=ds) (l:(s.fn H (ds++k)).vars=[])
  (w:Below W.heap.size W A):s.post enc P f b g a false W d (.bool true) A:=by
 have j:=y;have o:=λ x B=>j.lt x B;obtain⟨p,q,I,z,rfl,F,D⟩:=y;rw[u]at z;have r:k=[]/\q=[]:=trodVars_none z;obtain⟨rfl,rfl⟩:=r;rw[wy]at *;refine⟨ds,[],p,[],p,[],?_,?_,?_,?_,?_,λ h=>by cases h⟩
 .exact j
 .rw[n,wy,i];exact trodAll_mk1 (shut_bool G _)
 .rw[wy,e];refine qqS E w (ts:=f.params.toList) ?_ I o;intro t v;rw[m]at v;have:=ww.1 C t v;simpa using this
 .rw[wy,l,u];rfl
 .exact w.frame _
end
end Go.GxZ
namespace Go.Proofs.YtinbdcelmgfniaaGreatDoor
theorem Tryz.own:ownKnob Tryz.prog.godebug=none:=by kernel_rfl
theorem Tryz.laidOut:laidOutB Tryz.prog=true:=by kernel_rfl
end Go.Proofs.YtinbdcelmgfniaaGreatDoor
namespace Go.AmZ
open Go Go.GxZ Go.RowKit
theorem qA6:∀(τ:Ty) (v:Val τ),Ql τ (yR τ v)=some v:=by
 intro τ v;have h:=j9 τ v;cases τ<;>exact h
def qGa:List ATy->Bool
 |[]=>true
 |.val _::r=>qGa r
 |.fn::_=>false
theorem qsK:∀(ts:List ATy) (a:qed ts),qGa ts=true->qdW ts (Qv ts a [])=some a/\qf6 (Qv ts a [])=[]
 |[],_,_=>⟨rfl,rfl⟩
 |.val τ::r,a,h=>by
   let⟨d,c⟩:=qsK r a.2 h;constructor
   .show qn1 (Ql τ) (qdW r) (yR τ a.1::Qv r a.2 [])=_;simp only[qn1,qA6,d]
   .show qf6 (yR τ a.1::Qv r a.2 [])=[];have:=(qeE (qA6 τ a.1)).2;cases b:yR τ a.1<;>first|exact c|exact absurd b (this _ _)
 |.fn::_,_,h=>by cases h
theorem law_calls{P:Program}{f:FuncId}{c:TC}(o:qT P f (JB (jC c f))){ts:List ATy}{fn:qed ts->Option (qg4 [.bool])}(q:c.pf f []=some ⟨ts,[.bool],fn⟩)(m:qGa ts=true){a:qed ts}(h:fn a=some true)
  {W:World}{d:List Value} (k:RepL (ghW W) (Qv ts a []) d):Calls P f d.toArray W λ e w'=>e=.returned (.bool true)/\Below W.heap.size W w':=by
 let⟨u,t⟩:=qsK ts a m
 have n:jC c f (Qv ts a [])=some (.v (.bool true)):=by
  unfold jC;rw[t,q];simp only;rw[u];simp only;rw[h];rfl
 have l:JB (jC c f) emp (Qv ts a [])=some (.v (.bool true),none):=by
  show(match jC c f (Qv ts a [])with|some v=>some (v,none)|none=>none)=_;rw[n]
 have:=o.2 (ghW W) emp W (Qv ts a []) d _ (qQk W) k l;refine Calls.mono this ?_;rintro e w' ⟨v,Γ',rfl,g,_,j,_⟩;have h:=zp j;subst h;refine⟨rfl,g.os,g.tape,g.output,g.size,λ b s=>g.block b s ?_⟩;rintro(⟨i,p,_⟩|⟨r,k,_⟩)
 .exact absurd p (wN _)
 .exact absurd k (wN _)
theorem qF1{Γ:Gh}{τ:Ty}{x:Val τ}{v:Value}(h:RepL Γ (qe τ x) v.cells.toList)(l:∀u∈v.cells.toList,u.oneCell'=true)(j:τ.agg=true->τ.size≠1)(e:τ.agg=false->∀cs,v≠.agg cs):Rep Γ (yR τ x) v:=by
 have c:=h.len;rw[yj]at c
 have agg:yR τ x=.agg (qe τ x)->τ.agg=true->Rep Γ (yR τ x) v:=by
  intro f g;rw[f];have d:=j g;cases v with
  |agg cs=>exact .agg _ _ h.len l h.rep
  |_=>exact absurd (show τ.size=1 by rw[<-c];rfl) d
 have one:∀{y:AV},qe τ x=[y]->yR τ x=y->τ.agg=false->Rep Γ (yR τ x) v:=by
  intro y f i g
  have k:v.cells = #[v]:=by
   cases v with
   |agg cs=>exact absurd rfl (e g cs)
   |_=>rfl
  rw[f,k]at h;rw[i];exact h.rep 0 y v rfl rfl
 cases τ with
 |term|pair a b|one a=>exact agg rfl rfl
 |_=>exact one rfl rfl rfl
open Go.ChangeShapes Go.WideShapes Go.ChangeAt Go.WideMaps Go.WideElems
theorem qQ9{P:Program}{n:Nat}{τ:Ty}{t:TypeId}{W:World}{zk:Nat}{v:Value}(c:tyM P n τ t=true)(f:Value.okWide P W .any zk t v):τ.agg=false->∀cs,v≠.agg cs:=by
 intro g cs;cases n with
 |zero=>cases τ<;>simp[tyM]at c
 |succ n=>
 cases τ with
 |map a b=>simp[tyM]at c
 |int k=>
   simp only[tyM]at c;split at c
   .rename_i d;obtain⟨_,rfl⟩:=okWide_int d f;intro h;cases h
   .cases c
 |bool=>
   simp only[tyM]at c;split at c
   .rename_i d;obtain⟨_,rfl⟩:=okWide_bool d f;intro h;cases h
   .cases c
 |str=>
   simp only[tyM]at c;split at c
   .rename_i d;obtain⟨_,rfl⟩:=okWide_string d f;intro h;cases h
   .cases c
 |list a=>
   simp only[tyM]at c;split at c
   .rename_i e d;obtain⟨_,_,_,rfl⟩:=okWide_slice d f;intro h;cases h
   .cases c
 |_=>cases g
theorem arg_val{H:Type}{enc:TypeId×Value->H}{P:Program}{W:World}{n:Nat}{τ:Ty}{t:TypeId}{v:Value}{d:DataW H}{ps:List MemPlace}{zk:Nat}(b:tyM P n τ t=true)(f:τ.agg=true->τ.size≠1)(e:Value.okWide P W .any zk t v)
  (h:DataW.Trod enc P W 0 (λ _=>true) true t v d ps) (c:∀k∈d.weights P t,k<=reachBytes):∃x:Val τ,Rep (ghW W) (yR τ x) v/\qj2 τ x:=by
 let⟨a,g⟩:=h;let⟨x,l,j,i⟩:=qMN a n τ t v.cells.toList (d,ps) b g c;exact⟨x,qF1 l j f (qQ9 b e),i⟩
end Go.AmZ
