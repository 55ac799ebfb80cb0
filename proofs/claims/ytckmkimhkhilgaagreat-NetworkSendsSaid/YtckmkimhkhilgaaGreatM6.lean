/- Part 6 of what the proofs stand on: plain functions of the program, and that they are its functions. -/
import Derived.Test.YtckmkimhkhilgaaGreatM4
import Derived.Test.YtckmkimhkhilgaaGreatM3
import Derived.KernelRfl
import Derived.Shelf.SlSortCmp.NoneTotal
import Derived.Test.YtckmkimhkhilgaaGreatProg
import Derived.Test.YtckmkimhkhilgaaGreatM5
import Derived.SliceStrings
import Derived.SizedLaws
import Derived.Test.YtckmkimhkhilgaaGreatM1
import Derived.ProofKit
import Derived.Test.YtckmkimhkhilgaaGreatRows
set_option linter.unusedVariables false
set_option linter.unusedSimpArgs false
namespace Go.AmZ
open Go Go.GxZ
set_option linter.unusedVariables false
set_option maxRecDepth 100000
open Go.Proofs.Tryz (f4 f10 f12 f13 f14 f15 f16 f17 f18 f19 f20 f28 f31 f32 f33 f34 f35 f36 f37 f38 f39 f40 f41 f42 f43 f52 f53 f54 f55 f56 f57 f58 f59 f60 f61 f62 f63 f64 f65 f66 f68 f69 f70 f71 f72 f73 f74 f75 f76 f77 f78 f79 f80 f81 f82 f83 f84 f85 f86 f87 f88 f91 f92 f93 f94 f95 f97 f98 f99 f100 f101 f102 f103 f104 f105 f106 f109 f110 f111 f112 f113 f114 f115 f116 f117 f120 f121 f122 f123 f124 f125 f126 f127 f128 f129 f132 f133 f134 f135 f136 f137 f138 f139 f140 f141 f142 f143 f145 f146 f147 f148 f149 f150 f151 f152 f153 f154 f165 f166 f167 f170 f171 f173 f174 f175 f176 f177 f178 f179 f185 f186 f189 f190 f191 f192 f196)
noncomputable def i4:FI:=⟨f4,[.val (.list .term)],[.bool],[(8,[(3,.box [.keep,.row (.pair (.int .i64) (.pair (.int .i64) (.pair .str .bool))) false]),(5,.keep),(32,.list .term),(33,.keep),(34,.keep)])],[],λ m x=>law31_NetworkSends m x.1⟩
noncomputable def i10:FI:=⟨f10,[],[.bool],[],[],λ m x=>qcX m⟩
noncomputable def i12:SI:=⟨f12,[.val (.int .i64)],[.opt [.val (.int .i64),.row (.pair (.int .i64) (.pair (.int .i64) (.pair .str .bool)))],.one (.val (.int .i64))],[],[],λ m x=>qe9 m x.1⟩
noncomputable def i13:SI:=⟨f13,[.box [.val (.int .i64),.row (.pair (.int .i64) (.pair (.int .i64) (.pair .str .bool)))],.val (.int .i64),.val (.int .i64),.val .term],[.one (.val (.int .i64)),.one (.val (.int .i64))],[],[],λ m x=>jI m x.1 x.2.1 x.2.2.1 x.2.2.2.1⟩
noncomputable def i14:FI:=⟨f14,[.val .term],[.str,(.int .i64)],[],[],λ m x=>qdF m x.1⟩
noncomputable def i15:SI:=⟨f15,[.box [.val (.int .i64),.row (.pair (.int .i64) (.pair (.int .i64) (.pair .str .bool)))],.val (.int .i64)],[.one (.val .str),.one (.val (.int .i64))],[],[],λ m x=>Qe m x.1 x.2.1⟩
noncomputable def i16:SI:=⟨f16,[.box [.val (.int .i64),.row (.pair (.int .i64) (.pair (.int .i64) (.pair .str .bool)))],.val (.int .i64),.val (.int .i64),.val (.int .u8)],[.one (.val (.int .i64))],[],[],λ m x=>qb8 m x.1 x.2.1 x.2.2.1 x.2.2.2.1⟩
noncomputable def i17:SI:=⟨f17,[.box [.val (.int .i64),.row (.pair (.int .i64) (.pair (.int .i64) (.pair .str .bool)))],.val (.int .i64)],[.one (.val .term),.one (.val (.int .i64)),.one (.val (.int .i64))],[],[],λ m x=>QY m x.1 x.2.1⟩
noncomputable def i18:FI:=⟨f18,[.val .term,.val .term],[.bool],[],[],λ m x=>QA m x.1 x.2.1⟩
noncomputable def i19:FI:=⟨f19,[.val (.list .term),.val (.int .i64),.val (.int .i64)],[.bool],[(4,[(0,.list .term),(2,.keep),(7,.keep)])],[],λ m x=>qhY m x.1 x.2.1 x.2.2.1⟩
noncomputable def i20:FI:=⟨f20,[.val .str],[.str],[],[],λ m x=>qgW m x.1⟩
noncomputable def i28:SI:=⟨f28,[.box [.val (.int .i64),.row (.pair (.int .i64) (.pair (.int .i64) (.pair .str .bool)))],.val (.int .i64)],[.one (.val (.int .i64)),.one (.val (.int .i64))],[],[],λ m x=>qbo m x.1 x.2.1⟩
noncomputable def i31:FI:=⟨f31,[.val .str],[.term],[],[],λ m x=>qlE m x.1⟩
noncomputable def i32:SI:=⟨f32,[.box [.val (.int .i64),.row (.pair (.int .i64) (.pair (.int .i64) (.pair .str .bool)))],.val (.int .i64)],[.one (.val .bool)],[],[],λ m x=>jo m x.1 x.2.1⟩
noncomputable def i33:FI:=⟨f33,[.val .term],[.str,(.int .i64)],[],[],λ m x=>qbd m x.1⟩
noncomputable def i34:SI:=⟨f34,[.box [.val (.int .i64),.row (.pair (.int .i64) (.pair (.int .i64) (.pair .str .bool)))],.val (.pair (.int .i64) (.pair (.int .i64) (.pair .str .bool)))],[.one (.val (.int .i64)),.one (.val (.int .i64))],[],[],λ m x=>Q8 m x.1 x.2.1⟩
noncomputable def i35:FI:=⟨f35,[.val .str],[.str],[],[],λ m x=>qf2 m x.1⟩
noncomputable def i36:FI:=⟨f36,[.val .term],[(.int .i64)],[],[],λ m x=>qe0 m x.1⟩
noncomputable def i37:FI:=⟨f37,[.val .term],[.str],[(7,[(1,.box [.keep,.keep,.keep,.list .term]),(3,.keep),(4,.keep)])],[],λ m x=>yy m x.1⟩
noncomputable def i38:SI:=⟨f38,[.box [.val (.int .i64),.row (.pair (.int .i64) (.pair (.int .i64) (.pair .str .bool)))],.val (.int .i64)],[.elt 0,.one (.val (.int .i64))],[],[],λ m x=>QZ m x.1 x.2.1⟩
noncomputable def i39:FI:=⟨f39,[.val .str],[.str,(.int .i64)],[],[],λ m x=>qoZ m x.1⟩
noncomputable def i40:FI:=⟨f40,[.val .str],[.term,(.int .i64),(.int .i64)],[],[],λ m x=>qg1 m x.1⟩
noncomputable def i41:FI:=⟨f41,[.val .term,.val .term],[(.int .i64)],[(18,[(2,.box [.keep,.keep,.keep,.list .term]),(3,.box [.keep,.keep,.keep,.list .term]),(9,.keep)])],[],λ m x=>zr m x.1 x.2.1⟩
noncomputable def i42:FI:=⟨f42,[.val .term,.val (.int .i64)],[(.int .i64)],[(5,[(1,.keep),(2,.box [.keep,.keep,.keep,.list .term]),(5,.keep)])],[],λ m x=>yo m x.1 x.2.1⟩
noncomputable def i43:FI:=⟨f43,[.val .str],[(.int .u32)],[(4,[(0,.keep),(3,.keep),(4,.keep),(5,.keep)])],[],λ m x=>qe3 m x.1⟩
noncomputable def i52:FI:=⟨f52,[.val .str,.val (.int .i64)],[.term],[],[],λ m x=>qna m x.1 x.2.1⟩
noncomputable def i53:FI:=⟨f53,[.val .term],[(.int .i64)],[],[],λ m x=>qb0 m x.1⟩
noncomputable def i54:FI:=⟨f54,[.val .term],[(.list .term)],[],[],λ m x=>qhX m x.1⟩
noncomputable def i55:FI:=⟨f55,[.val .term],[.bool],[],[],λ m x=>qbV m x.1⟩
noncomputable def i56:SI:=⟨f56,[.row (.int .u8),.val .term],[.one (.row (.int .u8))],[(8,[(0,.row (.int .u8) false),(46,.list .term),(47,.keep),(48,.keep)])],[],λ m x=>zB m x.1 x.2.1⟩
noncomputable def i57:FI:=⟨f57,[.val .str],[(.int .u32)],[(3,[(0,.keep),(3,.keep),(4,.keep),(7,.keep),(8,.keep)])],[],λ m x=>qgK m x.1⟩
noncomputable def i58:FI:=⟨f58,[.val .term],[(.int .i64)],[],[],λ m x=>qc0 m x.1⟩
noncomputable def i59:FI:=⟨f59,[.val .term],[.bool],[],[],λ m x=>qdC m x.1⟩
noncomputable def i60:FI:=⟨f60,[.val .term],[.bool],[(6,[(5,.list .term),(6,.keep)])],[],λ m x=>qe8 m x.1⟩
noncomputable def i61:FI:=⟨f61,[.val .str],[(.int .i64)],[(3,[(0,.keep),(3,.list .str),(4,.keep)])],[],λ m x=>qfc m x.1⟩
noncomputable def i62:FI:=⟨f62,[.val .str],[.bool],[],[],λ m x=>qcN m x.1⟩
noncomputable def i63:SI:=⟨f63,[.box [.val (.pair .str (.pair (.int .i64) .bool))]],[.one (.val .term)],[(2,[(0,.box [.keep,.keep,.keep]),(2,.box [.keep,.keep,.keep,.row .term false]),(3,.list (.pair .term (.int .i64)))])],[],λ m x=>qcr m x.1⟩
noncomputable def i64:FI:=⟨f64,[.val .term],[(.int .i64)],[],[],λ m x=>ya m x.1⟩
noncomputable def i65:FI:=⟨f65,[.val (.int .i64),.val (.int .i64)],[(.int .i64)],[],[],λ m x=>JD m x.1 x.2.1⟩
noncomputable def i66:FI:=⟨f66,[.val .term],[(.int .i64)],[(3,[(1,.box [.keep,.keep,.keep,.list .term]),(3,.keep),(4,.keep)])],[],λ m x=>yL m x.1⟩
noncomputable def i68:FI:=⟨f68,[.val .term],[(.int .i64)],[(3,[(1,.box [.keep,.keep,.keep,.list .term]),(3,.keep),(4,.keep)])],[],λ m x=>yU m x.1⟩
noncomputable def i69:FI:=⟨f69,[.val .term],[(.int .i64)],[(13,[(1,.box [.keep,.keep,.keep,.list .term]),(38,.list .term),(39,.keep),(40,.keep)]),(22,[(62,.list .term),(63,.keep),(64,.keep)])],[],λ m x=>qD m x.1⟩
noncomputable def i70:FI:=⟨f70,[.val .term,.val (.int .i64)],[(.list .term)],[],[],λ m x=>qhO m x.1 x.2.1⟩
noncomputable def i71:FI:=⟨f71,[.val .term],[.term,(.int .i64)],[],[],λ m x=>qcO m x.1⟩
noncomputable def i72:FI:=⟨f72,[.val .term,.val .term],[.bool],[],[],λ m x=>Qu m x.1 x.2.1⟩
noncomputable def i73:FI:=⟨f73,[.val .term,.fn],[.bool],[(4,[(1,.keep),(18,.list .term),(19,.keep),(20,.keep)])],[],λ m x=>qL m x.1⟩
noncomputable def i74:FI:=⟨f74,[.val .str],[.bool],[],[],λ m x=>qbX m x.1⟩
noncomputable def i75:FI:=⟨f75,[.val .str],[(.pair .str (.pair (.int .i64) (.pair (.int .i64) (.int .i64))))],[(2,[(0,.keep),(2,.box [.keep,.keep,.keep,.keep]),(5,.list (.pair .str (.pair (.int .i64) (.pair (.int .i64) (.int .i64))))),(6,.keep),(7,.keep)])],[],λ m x=>qaW m x.1⟩
noncomputable def i76:SI:=⟨f76,[.val (.list (.pair .str (.pair (.int .i64) (.int .i64)))),.clo 78 1,.box [.val .term]],[.one (.val (.int .i64))],[(2,[(0,.list (.pair .str (.pair (.int .i64) (.int .i64)))),(1,.fn [.box [.keep,.keep,.keep,.list .term]]),(7,.keep),(8,.keep)])],[],λ m x=>qC m x.1 x.2.1⟩
noncomputable def i77:FI:=⟨f77,[],[(.list (.pair .str (.pair (.int .i64) (.int .i64))))],[],[],λ m x=>Jc m⟩
noncomputable def i78:SI:=⟨f78,[.val (.pair .str (.pair (.int .i64) (.int .i64))),.box [.val .term]],[.one (.val .bool)],[],[],λ m x=>JL m x.1 x.2.1⟩
noncomputable def i79:FI:=⟨f79,[.val (.pair .str (.pair (.int .i64) (.int .i64)))],[.bool],[],[],λ m x=>jK m x.1⟩
noncomputable def i80:FI:=⟨f80,[.val .term],[(.int .i64)],[],[],λ m x=>yB m x.1⟩
noncomputable def i81:FI:=⟨f81,[.val .term],[(.int .i64)],[(11,[(1,.box [.keep,.keep,.keep,.list .term]),(4,.keep)])],[],λ m x=>yA m x.1⟩
noncomputable def i82:FI:=⟨f82,[.val .term],[(.list .term)],[],[],λ m x=>qgw m x.1⟩
noncomputable def i83:FI:=⟨f83,[.val .term],[.term,(.int .i64)],[],[],λ m x=>qdJ m x.1⟩
noncomputable def i84:FI:=⟨f84,[.val .term],[(.list .term)],[(3,[(1,.box [.keep,.keep,.keep,.list .term]),(3,.row .term true),(4,.keep)])],[],λ m x=>jw m x.1⟩
noncomputable def i85:FI:=⟨f85,[.val .str],[(.int .i64)],[(3,[(0,.keep),(3,.list (.pair .str (.pair (.int .i64) (.pair (.int .i64) (.int .i64))))),(4,.keep)])],[],λ m x=>qck m x.1⟩
noncomputable def i86:FI:=⟨f86,[],[(.list .str)],[],[],λ m x=>qlU m⟩
noncomputable def i87:SI:=⟨f87,[.box [.val (.pair .str (.pair (.int .i64) .bool))]],[.one (.val (.pair .term (.int .i64)))],[],[],λ m x=>qcz m x.1⟩
noncomputable def i88:SI:=⟨f88,[.val .term,.val (.int .i64),.box [.val (.int .i64)],.box [.val (.int .i64)]],[.one (.val (.int .i64))],[(17,[(1,.keep),(2,.box [.keep]),(3,.box [.keep]),(57,.list .term),(58,.keep),(59,.keep)])],[],λ m x=>zK m x.1 x.2.1 x.2.2.1 x.2.2.2.1⟩
noncomputable def i91:SI:=⟨f91,[.val .term,.clo 92 2,.box [.val (.int .i64)],.box [.row .term]],[],[(3,[(1,.fn [.box [.keep],.box [.row .term false]]),(10,.list .term),(11,.keep),(12,.keep)])],[],λ m x=>zp m x.1 x.2.1 x.2.2.1⟩
noncomputable def i92:SI:=⟨f92,[.val .term,.box [.val (.int .i64)],.box [.row .term]],[],[],[],λ m x=>QF m x.1 x.2.1 x.2.2.1⟩
noncomputable def i93:SI:=⟨f93,[.row .term],[.one (.row .term)],[(4,[(0,.row .term false),(9,.keep),(10,.keep)])],[],λ m x=>qdD m x.1⟩
noncomputable def i94:FI:=⟨f94,[.val .term],[.term,(.int .i64)],[(5,[(1,.box [.keep,.keep,.keep,.list .term]),(2,.box [.keep,.keep,.keep,.row .term false]),(4,.box [.keep,.keep,.keep,.row .term false]),(19,.list .term),(20,.keep),(21,.keep)])],[],λ m x=>zV m x.1⟩
noncomputable def i95:FI:=⟨f95,[.val .term,.val .term],[(.int .i64)],[(11,[(2,.box [.keep,.keep,.keep,.list .term]),(3,.box [.keep,.keep,.keep,.list .term]),(5,.keep),(6,.keep)])],[],λ m x=>qu m x.1 x.2.1⟩
noncomputable def i97:FI:=⟨f97,[.val .term],[(.int .i64)],[(5,[(1,.box [.keep,.keep,.keep,.list .term]),(4,.keep)])],[],λ m x=>yY m x.1⟩
noncomputable def i98:FI:=⟨f98,[.val .term],[.bool],[(3,[(1,.box [.keep,.keep,.keep,.list .term]),(3,.list (.pair .str (.pair (.int .i64) (.pair (.int .i64) (.int .i64))))),(4,.keep)])],[],λ m x=>qgV m x.1⟩
noncomputable def i99:FI:=⟨f99,[.val .term],[.bool],[(4,[(1,.box [.keep,.keep,.keep,.list .term]),(3,.keep)])],[],λ m x=>qdY m x.1⟩
noncomputable def qHf:FI:=⟨f100,[.val .term,.val (.int .i64)],[(.list .term)],[(4,[(1,.keep),(5,.row .term false),(6,.list .term),(7,.keep)])],[],λ m x=>qg5 m x.1 x.2.1⟩
noncomputable def qHi:FI:=⟨f101,[.val .term],[.term,(.int .i64)],[(5,[(1,.box [.keep,.keep,.keep,.list .term]),(2,.box [.keep,.keep,.keep,.row .term false]),(4,.row .term false),(5,.keep)])],[],λ m x=>yv m x.1⟩
noncomputable def qJR:FI:=⟨f102,[],[(.list (.pair .str (.pair (.int .i64) (.pair (.int .i64) (.int .i64)))))],[],[],λ m x=>qfo m⟩
noncomputable def qJa:SI:=⟨f103,[.box [.val (.pair .str (.pair (.int .i64) .bool))],.val (.int .i64),.val (.int .i64)],[.one (.val (.int .i64))],[],[],λ m x=>jF m x.1 x.2.1 x.2.2.1⟩
noncomputable def qGz:SI:=⟨f104,[.box [.val (.pair .str (.pair (.int .i64) .bool))]],[.one (.val .str)],[(4,[(0,.box [.keep,.keep,.keep]),(4,.keep),(14,.keep),(15,.keep)])],[],λ m x=>qcl m x.1⟩
noncomputable def qGT:FI:=⟨f105,[.val .str],[.bool],[(4,[(0,.keep),(38,.keep),(39,.keep)])],[],λ m x=>qbn m x.1⟩
noncomputable def qHu:FI:=⟨f106,[.val .str],[.bool],[(4,[(0,.keep),(3,.keep)])],[],λ m x=>qaB m x.1⟩
noncomputable def qKc:FI:=⟨f109,[.val .term,.val .term],[.bool],[],[],λ m x=>yj m x.1 x.2.1⟩
noncomputable def qGE:FI:=⟨f110,[.val .term],[.term],[(4,[(1,.box [.keep,.keep,.keep,.row .term false]),(2,.box [.keep,.keep,.keep,.row .term false]),(9,.list .term),(10,.keep),(11,.keep)])],[],λ m x=>yJ m x.1⟩
noncomputable def qJS:FI:=⟨f111,[.val .term],[.term],[],[],λ m x=>qaj m x.1⟩
noncomputable def qGj:FI:=⟨f112,[.val (.list .term)],[.term,(.int .i64)],[(6,[(2,.box [.keep,.keep,.keep,.row .term true]),(5,.list .term),(15,.list .term),(16,.keep),(17,.keep)])],[],λ m x=>qmu m x.1⟩
noncomputable def qJI:FI:=⟨f113,[.val .term],[(.list (.pair .term (.int .i64))),(.int .i64)],[],[],λ m x=>qaf m x.1⟩
noncomputable def qzv:FI:=⟨f114,[.val (.list (.pair .term (.int .i64)))],[.term,(.int .i64)],[(6,[(2,.box [.keep,.keep,.keep,.row .term false]),(5,.row .term false),(6,.row .term false),(18,.list (.pair .term (.int .i64))),(19,.keep),(20,.keep)]),(11,[(2,.box [.keep,.keep,.keep,.row .term false]),(5,.row .term false),(6,.row .term false),(8,.box [.keep,.keep,.keep,.list .term,.keep]),(18,.list (.pair .term (.int .i64))),(19,.keep),(20,.keep),(34,.keep),(35,.keep)]),(15,[(2,.box [.keep,.keep,.keep,.row .term false]),(5,.row .term false),(6,.row .term false),(8,.box [.keep,.keep,.keep,.list .term,.keep]),(18,.list (.pair .term (.int .i64))),(19,.keep),(20,.keep),(46,.keep),(47,.keep)])],[],λ m x=>jY m x.1⟩
noncomputable def qJF:FI:=⟨f115,[.val .term,.val .term],[.term,(.int .i64)],[],[],λ m x=>qd0 m x.1 x.2.1⟩
noncomputable def qKi:FI:=⟨f116,[.val (.int .i64),.val (.int .i64)],[(.int .i64)],[],[],λ m x=>qci m x.1 x.2.1⟩
noncomputable def qF8:FI:=⟨f117,[.val .term],[(.int .i64)],[(3,[(3,.keep),(7,.list .term),(8,.keep),(9,.keep)])],[],λ m x=>jC m x.1⟩
noncomputable def qKp:FI:=⟨f120,[.val .term],[(.int .i64)],[],[],λ m x=>qgf m x.1⟩
noncomputable def qGi:FI:=⟨f121,[.val (.list .term)],[(.list .term)],[(3,[(0,.list .term),(3,.list .term),(4,.keep)])],[],λ m x=>qib m x.1⟩
noncomputable def qKf:FI:=⟨f122,[.val .str,.val (.list .term)],[.term],[],[],λ m x=>jA m x.1 x.2.1⟩
noncomputable def qI3:FI:=⟨f123,[.val .term],[.term,.bool],[],[],λ m x=>qcT m x.1⟩
noncomputable def qFD:FI:=⟨f124,[.val (.list .term)],[.term,(.int .i64)],[(6,[(0,.list .term),(2,.box [.keep,.keep,.keep,.row .term true]),(5,.list .term),(6,.keep)])],[],λ m x=>qia m x.1⟩
noncomputable def qJC:FI:=⟨f125,[.val .term],[.term,(.int .i64)],[],[],λ m x=>qaX m x.1⟩
noncomputable def qJs:FI:=⟨f126,[.val .term,.val .term],[.term,(.int .i64)],[],[],λ m x=>qeY m x.1 x.2.1⟩
noncomputable def qJn:FI:=⟨f127,[.val (.int .u8)],[.bool],[],[],λ m x=>qfZ m x.1⟩
noncomputable def qJf:FI:=⟨f128,[.val (.int .u8)],[.bool],[],[],λ m x=>qbW m x.1⟩
noncomputable def qJr:FI:=⟨f129,[.val (.int .u8)],[.bool],[],[],λ m x=>qfb m x.1⟩
noncomputable def qI2:FI:=⟨f132,[.val .term,.val .str],[.bool],[],[],λ m x=>yH m x.1 x.2.1⟩
noncomputable def qF7:FI:=⟨f133,[.val (.list .term),.val (.list .term)],[(.int .i64)],[(4,[(14,.list .term),(15,.keep),(16,.keep)])],[],λ m x=>qie m x.1 x.2.1⟩
noncomputable def qGy:FI:=⟨f134,[.val (.list .term),.val (.list .term)],[(.list .term)],[(2,[(0,.list .term),(1,.list .term),(5,.row .term false)])],[],λ m x=>qht m x.1 x.2.1⟩
noncomputable def qGK:FI:=⟨f135,[.val .term],[(.list .term)],[(6,[(3,.list .term),(31,.list .term),(32,.keep),(33,.keep)])],[],λ m x=>zX m x.1⟩
noncomputable def qGL:FI:=⟨f136,[.val (.list .term)],[(.list .term)],[(3,[(3,.row .term false),(9,.list .term),(10,.keep),(11,.keep)])],[],λ m x=>Jj m x.1⟩
noncomputable def qFP:SI:=⟨f137,[.row (.pair .term (.int .i64)),.val .term,.val (.int .i64)],[.one (.row (.pair .term (.int .i64))),.one (.val .bool)],[(12,[(0,.row (.pair .term (.int .i64)) false),(2,.keep),(52,.list .term),(53,.keep),(54,.keep)])],[],λ m x=>zd m x.1 x.2.1 x.2.2.1⟩
noncomputable def qHw:FI:=⟨f138,[.val (.list (.pair .term (.int .i64)))],[(.int .i64)],[(4,[(0,.list (.pair .term (.int .i64))),(9,.list (.pair .term (.int .i64))),(10,.keep),(11,.keep)])],[],λ m x=>Jl m x.1⟩
noncomputable def qGP:FI:=⟨f139,[.val .term],[.term],[(3,[(1,.box [.keep,.keep,.keep,.row .term false]),(2,.box [.keep,.keep,.keep,.row .term false]),(10,.row .term false),(11,.keep),(12,.keep)])],[],λ m x=>zg m x.1⟩
noncomputable def qKm:FI:=⟨f140,[.val .str,.val (.list .term)],[.term],[],[],λ m x=>qcd m x.1 x.2.1⟩
noncomputable def qCC:FI:=⟨f141,[.val (.list (.list .term))],[(.list .term)],[(3,[(0,.list (.list .term)),(3,.keep),(9,.list (.list .term)),(10,.keep),(11,.keep)]),(11,[(6,.row .term false),(25,.list (.list .term)),(26,.keep),(27,.keep)])],[],λ m x=>zi m x.1⟩
noncomputable def qFx:FI:=⟨f142,[.val (.list (.pair .term (.int .i64))),.val (.list (.pair .term (.int .i64)))],[(.list (.pair .term (.int .i64))),(.int .i64)],[(9,[(8,.row (.pair .term (.int .i64)) false),(23,.list (.pair .term (.int .i64))),(24,.keep),(25,.keep)])],[],λ m x=>qdB m x.1 x.2.1⟩
noncomputable def qKn:FI:=⟨f143,[.val .str,.val (.list .term)],[.term],[],[],λ m x=>qej m x.1 x.2.1⟩
noncomputable def qGx:FI:=⟨f145,[.val (.list .term),.val .term],[(.list .term)],[(4,[(0,.list .term),(3,.box [.keep,.keep,.keep,.list .term]),(5,.row .term false),(6,.keep),(7,.keep)])],[],λ m x=>qfU m x.1 x.2.1⟩
noncomputable def qKk:FI:=⟨f146,[.val .term,.val .str],[.bool],[],[],λ m x=>qaG m x.1 x.2.1⟩
noncomputable def qFJ:FI:=⟨f147,[.val (.list .term),.val .term],[(.int .i64)],[(4,[(0,.list .term),(3,.box [.keep,.keep,.keep,.list .term]),(5,.keep)])],[],λ m x=>qe4 m x.1 x.2.1⟩
noncomputable def qJ0:FI:=⟨f148,[],[.term],[],[],λ m x=>qgp m⟩
noncomputable def qF2:FI:=⟨f149,[.val (.list .term),.val (.list .term)],[(.list .term)],[(3,[(1,.list .term),(5,.plist .term),(6,.keep)])],[],λ m x=>qeq m x.1 x.2.1⟩
noncomputable def qFp:FI:=⟨f150,[.val .term],[(.list .term)],[(7,[(1,.box [.keep,.keep,.keep,.list .term]),(3,.list .term),(4,.keep)])],[],λ m x=>zC m x.1⟩
noncomputable def qJL:FI:=⟨f151,[.val (.list .term)],[.term],[],[],λ m x=>qgY m x.1⟩
noncomputable def qJv:FI:=⟨f152,[.val .term],[(.list (.pair .term (.int .i64))),(.int .i64)],[],[],λ m x=>qfI m x.1⟩
noncomputable def qJQ:FI:=⟨f153,[.val (.list (.pair .term (.int .i64)))],[.term,(.int .i64)],[],[],λ m x=>qa5 m x.1⟩
noncomputable def qFy:FI:=⟨f154,[.val (.list (.pair .term (.int .i64))),.val (.list (.pair .term (.int .i64)))],[(.list (.pair .term (.int .i64))),(.int .i64)],[(9,[(1,.list (.pair .term (.int .i64))),(8,.row (.pair .term (.int .i64)) false),(9,.keep)])],[],λ m x=>qh3 m x.1 x.2.1⟩
noncomputable def qF3:FI:=⟨f165,[.val .term,.val (.list (.int .i64)),.val .term],[.term,(.int .i64)],[(4,[(5,.box [.keep,.keep,.keep,.list .term]),(6,.box [.keep,.keep,.keep,.row .term false]),(8,.box [.keep,.keep,.keep,.list .term]),(9,.box []),(14,.list (.int .i64)),(15,.keep),(16,.keep)])],[],λ m x=>qdK m x.1 x.2.1 x.2.2.1⟩
noncomputable def qKd:FI:=⟨f166,[.val .term],[.bool],[],[],λ m x=>JK m x.1⟩
noncomputable def qJM:SI:=⟨f167,[.row (.pair .term (.int .i64)),.val (.pair .term (.int .i64))],[.one (.row (.pair .term (.int .i64)))],[],[],λ m x=>JO m x.1 x.2.1⟩
noncomputable def qFV:SI:=⟨f170,[.val (.list (.pair .term (.int .i64)))],[.one (.row (.pair .term (.int .i64)))],[(3,[(3,.row (.pair .term (.int .i64)) false),(6,.list (.pair .term (.int .i64))),(7,.keep),(8,.keep)])],[],λ m x=>qbf m x.1⟩
noncomputable def qI4:FI:=⟨f171,[.val (.list (.pair .term (.int .i64)))],[(.list (.pair .term (.int .i64))),(.int .i64)],[],[],λ m x=>qbg m x.1⟩
noncomputable def qF6:FI:=⟨f173,[.val (.list .term),.val .term],[(.list .term)],[(5,[(0,.list .term),(3,.box [.keep,.keep,.keep,.list .term]),(5,.row .term false),(6,.keep)])],[],λ m x=>qdN m x.1 x.2.1⟩
noncomputable def qG8:FI:=⟨f174,[.val .term],[.bool],[(7,[(1,.box [.keep,.keep,.keep,.list .term]),(3,.keep),(4,.keep)])],[],λ m x=>yw m x.1⟩
noncomputable def qHg:SI:=⟨f175,[.row (.pair .term (.int .i64)),.val .term,.val (.int .i64)],[.one (.row (.pair .term (.int .i64)))],[(6,[(0,.row (.pair .term (.int .i64)) false),(2,.keep),(4,.box [.keep,.keep,.keep,.list .term]),(7,.keep)])],[],λ m x=>zM m x.1 x.2.1 x.2.2.1⟩
noncomputable def qFI:FI:=⟨f176,[.val (.list (.pair .term (.int .i64)))],[(.int .i64)],[(4,[(0,.list (.pair .term (.int .i64))),(3,.keep)])],[],λ m x=>qbB m x.1⟩
noncomputable def qvq:FI:=⟨f177,[.val (.list (.pair .term (.int .i64)))],[(.list .term)],[(3,[(0,.list (.pair .term (.int .i64))),(3,.row .term false),(4,.keep)]),(6,[(0,.list (.pair .term (.int .i64))),(3,.row .term false),(4,.keep),(5,.keep)]),(10,[(0,.list (.pair .term (.int .i64))),(3,.row .term false),(6,.keep)]),(13,[(0,.list (.pair .term (.int .i64))),(3,.row .term false),(6,.keep),(7,.keep)])],[],λ m x=>qbU m x.1⟩
noncomputable def qFY:SI:=⟨f178,[.row (.pair .term (.int .i64)),.val .term,.val (.int .i64)],[.one (.row (.pair .term (.int .i64)))],[(4,[(0,.row (.pair .term (.int .i64)) false),(2,.keep),(4,.box [.keep,.keep,.keep,.list .term]),(7,.row (.pair .term (.int .i64)) false),(8,.keep),(9,.keep)])],[],λ m x=>qfW m x.1 x.2.1 x.2.2.1⟩
noncomputable def qFs:FI:=⟨f179,[.val (.list (.pair .term (.int .i64)))],[(.int .i64)],[(2,[(0,.list (.pair .term (.int .i64))),(3,.keep)])],[],λ m x=>qcS m x.1⟩
noncomputable def qHk:FI:=⟨f185,[.val (.list (.pair .term (.int .i64))),.val .term,.fn],[(.int .i64),.bool],[(3,[(0,.list (.pair .term (.int .i64))),(2,.keep),(4,.box [.keep,.keep,.keep,.list .term]),(8,.keep),(9,.keep),(10,.keep)])],[],λ m x=>qB m x.1 x.2.1⟩
noncomputable def qJl:FI:=⟨f186,[.val (.pair .term (.int .i64)),.val .term],[(.int .i64)],[],[],λ m x=>QM m x.1 x.2.1⟩
noncomputable def qI5:FI:=⟨f189,[.val (.list (.pair .term (.int .i64))),.fn],[.bool],[],[],λ m x=>qS m x.1⟩
noncomputable def qJJ:FI:=⟨f190,[.val (.pair .term (.int .i64))],[.bool],[],[],λ m x=>J1 m x.1⟩
noncomputable def qFL:FI:=⟨f191,[.val (.list .term),.val .term],[.bool],[(2,[(0,.list .term),(3,.box [.keep,.keep,.keep,.list .term]),(5,.keep)])],[],λ m x=>qh8 m x.1 x.2.1⟩
noncomputable def qJw:FI:=⟨f192,[.val .term],[.bool],[],[],λ m x=>JX m x.1⟩
noncomputable def qHa:FI:=⟨f196,[.val (.list (.pair .term (.int .i64))),.fn],[(.int .i64)],[(2,[(0,.list (.pair .term (.int .i64))),(1,.keep),(7,.keep),(8,.keep)])],[],λ m x=>zc m x.1⟩
noncomputable def elT (f:Nat):Option Ty :=
cond (Nat.blt f 83)
 (cond (Nat.blt f 61)
 (cond (Nat.blt f 46)
 (cond (Nat.beq f 22) (some .term) (none))
 (cond (Nat.blt f 48)
 (cond (Nat.beq f 46) (some (.pair (.int .u8) (.pair (.int .i64) (.pair (.int .i64) (.pair (.int .u8) (.pair .term (.int .u8))))))) (none))
 (cond (Nat.beq f 48) (some (.pair (.int .i64) (.pair (.int .i64) (.pair .str .bool)))) (none))))
 (cond (Nat.blt f 66)
 (cond (Nat.beq f 61) (some .bool) (none))
 (cond (Nat.blt f 71)
 (cond (Nat.beq f 66) (some (.int .i64)) (none))
 (cond (Nat.beq f 71) (some (.pair (.int .i64) (.pair (.int .i64) (.pair .str .bool)))) (none)))))
 (cond (Nat.blt f 124)
 (cond (Nat.blt f 114)
 (cond (Nat.beq f 83) (some (.int .u8)) (none))
 (cond (Nat.blt f 119)
 (cond (Nat.beq f 114) (some (.pair .str (.pair (.int .i64) (.int .i64)))) (none))
 (cond (Nat.beq f 119) (some .str) (none))))
 (cond (Nat.blt f 139)
 (cond (Nat.blt f 132)
 (cond (Nat.beq f 124) (some (.pair .term (.int .i64))) (none))
 (cond (Nat.beq f 132) (some (.pair .str (.pair (.int .i64) (.pair (.int .i64) (.int .i64))))) (none)))
 (cond (Nat.blt f 178)
 (cond (Nat.beq f 139) (some (.pair .term (.int .i64))) (none))
 (cond (Nat.beq f 178) (some (.list .term)) (none)))))
noncomputable def tb:Tb:=⟨tyT,elT,.node 102 (.node 63 (.node 37 (.node 19 (.node 14 (.node 12 (.node 10 (.node 4 .leaf .leaf (.pure [([],i4)])) .leaf (.pure [([],i10)])) (.node 13 .leaf .leaf (.st i13)) (.st i12)) (.node 17 (.node 16 (.node 15 .leaf .leaf (.st i15)) .leaf (.st i16)) (.node 18 .leaf .leaf (.pure [([],i18)])) (.st i17)) (.pure [([],i14)])) (.node 33 (.node 31 (.node 28 (.node 20 .leaf .leaf (.pure [([],i20)])) .leaf (.st i28)) (.node 32 .leaf .leaf (.st i32)) (.pure [([],i31)])) (.node 35 (.node 34 .leaf .leaf (.st i34)) (.node 36 .leaf .leaf (.pure [([],i36)])) (.pure [([],i35)])) (.pure [([],i33)])) (.pure [([],i19)])) (.node 54 (.node 42 (.node 40 (.node 39 (.node 38 .leaf .leaf (.st i38)) .leaf (.pure [([],i39)])) (.node 41 .leaf .leaf (.pure [([],i41)])) (.pure [([],i40)])) (.node 52 (.node 43 .leaf .leaf (.pure [([],i43)])) (.node 53 .leaf .leaf (.pure [([],i53)])) (.pure [([],i52)])) (.pure [([],i42)])) (.node 59 (.node 57 (.node 56 (.node 55 .leaf .leaf (.pure [([],i55)])) .leaf (.st i56)) (.node 58 .leaf .leaf (.pure [([],i58)])) (.pure [([],i57)])) (.node 61 (.node 60 .leaf .leaf (.pure [([],i60)])) (.node 62 .leaf .leaf (.pure [([],i62)])) (.pure [([],i61)])) (.pure [([],i59)])) (.pure [([],i54)])) (.pure [([],i37)])) (.node 82 (.node 73 (.node 69 (.node 66 (.node 65 (.node 64 .leaf .leaf (.pure [([],i64)])) .leaf (.pure [([],i65)])) (.node 68 .leaf .leaf (.pure [([],i68)])) (.pure [([],i66)])) (.node 71 (.node 70 .leaf .leaf (.pure [([],i70)])) (.node 72 .leaf .leaf (.pure [([],i72)])) (.pure [([],i71)])) (.pure [([],i69)])) (.node 78 (.node 76 (.node 75 (.node 74 .leaf .leaf (.pure [([],i74)])) .leaf (.pure [([],i75)])) (.node 77 .leaf .leaf (.pure [([],i77)])) (.st i76)) (.node 80 (.node 79 .leaf .leaf (.pure [([],i79)])) (.node 81 .leaf .leaf (.pure [([],i81)])) (.pure [([],i80)])) (.st i78)) (.pure [([74],i73)])) (.node 93 (.node 87 (.node 85 (.node 84 (.node 83 .leaf .leaf (.pure [([],i83)])) .leaf (.pure [([],i84)])) (.node 86 .leaf .leaf (.pure [([],i86)])) (.pure [([],i85)])) (.node 91 (.node 88 .leaf .leaf (.st i88)) (.node 92 .leaf .leaf (.st i92)) (.st i91)) (.st i87)) (.node 98 (.node 96 (.node 95 (.node 94 .leaf .leaf (.pure [([],i94)])) .leaf (.pure [([],i95)])) (.node 97 .leaf .leaf (.pure [([],i97)])) (.hp ⟨[],[(.list (.pair .str (.pair (.int .i64) (.pair (.int .i64) (.int .i64)))))],λ x=>qhm 0⟩)) (.node 100 (.node 99 .leaf .leaf (.pure [([],i99)])) (.node 101 .leaf .leaf (.pure [([],qHi)])) (.pure [([],qHf)])) (.pure [([],i98)])) (.st i93)) (.pure [([],i82)])) (.st i63)) (.node 141 (.node 121 (.node 111 (.node 107 (.node 105 (.node 104 (.node 103 .leaf .leaf (.st qJa)) .leaf (.st qGz)) (.node 106 .leaf .leaf (.pure [([],qHu)])) (.pure [([],qGT)])) (.node 109 (.node 108 .leaf .leaf (.hx λ m=>⟨[.row .term,.clo 109 0],[.one (.row .term)],λ x=>qH m x.1⟩)) (.node 110 .leaf .leaf (.pure [([],qGE)])) (.pure [([],qKc)])) (.hm λ m=>⟨.term,[.clo 95 0],λ x=>qW m x.1⟩)) (.node 116 (.node 114 (.node 113 (.node 112 .leaf .leaf (.pure [([],qGj)])) .leaf (.pure [([],qJI)])) (.node 115 .leaf .leaf (.pure [([],qJF)])) (.pure [([],qzv)])) (.node 118 (.node 117 .leaf .leaf (.pure [([],qF8)])) (.node 120 .leaf .leaf (.pure [([],qKp)])) (.hp ⟨[.val .str,.val .str],[(.int .i64)],λ x=>strings_Compare 0 x.1 x.2.1⟩)) (.pure [([],qKi)])) (.pure [([],qJS)])) (.node 132 (.node 126 (.node 124 (.node 123 (.node 122 .leaf .leaf (.pure [([],qKf)])) .leaf (.pure [([],qI3)])) (.node 125 .leaf .leaf (.pure [([],qJC)])) (.pure [([],qFD)])) (.node 128 (.node 127 .leaf .leaf (.pure [([],qJn)])) (.node 129 .leaf .leaf (.pure [([],qJr)])) (.pure [([],qJf)])) (.pure [([],qJs)])) (.node 137 (.node 135 (.node 134 (.node 133 .leaf .leaf (.pure [([],qF7)])) .leaf (.pure [([],qGy)])) (.node 136 .leaf .leaf (.pure [([],qGL)])) (.pure [([],qGK)])) (.node 139 (.node 138 .leaf .leaf (.pure [([],qHw)])) (.node 140 .leaf .leaf (.pure [([],qKm)])) (.pure [([],qGP)])) (.st qFP)) (.pure [([],qI2)])) (.pure [([],qGi)])) (.node 170 (.node 151 (.node 147 (.node 145 (.node 143 (.node 142 .leaf .leaf (.pure [([],qFx)])) .leaf (.pure [([],qKn)])) (.node 146 .leaf .leaf (.pure [([],qKk)])) (.pure [([],qGx)])) (.node 149 (.node 148 .leaf .leaf (.pure [([],qJ0)])) (.node 150 .leaf .leaf (.pure [([],qFp)])) (.pure [([],qF2)])) (.pure [([],qFJ)])) (.node 166 (.node 154 (.node 153 (.node 152 .leaf .leaf (.pure [([],qJv)])) .leaf (.pure [([],qJQ)])) (.node 165 .leaf .leaf (.pure [([],qF3)])) (.pure [([],qFy)])) (.node 168 (.node 167 .leaf .leaf (.st qJM)) (.node 169 .leaf .leaf (.hs ⟨[.nil,.val (.int .i64)],[.one (.row .term)],λ x=>yE 0 x.1⟩)) (.hs ⟨[.val (.list .term)],[.one (.row .term)],λ x=>zJ 0 x.1⟩)) (.pure [([],qKd)])) (.pure [([],qJL)])) (.node 185 (.node 176 (.node 174 (.node 173 (.node 171 .leaf .leaf (.pure [([],qI4)])) .leaf (.pure [([],qF6)])) (.node 175 .leaf .leaf (.st qHg)) (.pure [([],qG8)])) (.node 178 (.node 177 .leaf .leaf (.pure [([],qvq)])) (.node 179 .leaf .leaf (.pure [([],qFs)])) (.st qFY)) (.pure [([],qFI)])) (.node 190 (.node 188 (.node 187 (.node 186 .leaf .leaf (.pure [([],qJl)])) .leaf (.hs ⟨[.row (.pair .term (.int .i64)),.val (.int .i64),.val (.list (.pair .term (.int .i64)))],[.one (.row (.pair .term (.int .i64)))],λ x=>zt 0 x.1 x.2.1 x.2.2.1⟩)) (.node 189 .leaf .leaf (.pure [([190],qI5)])) (.hs ⟨[.row (.pair .term (.int .i64)),.val (.int .i64),.val (.int .i64)],[.one (.row (.pair .term (.int .i64)))],λ x=>zw 0 x.1 x.2.1 x.2.2.1⟩)) (.node 192 (.node 191 .leaf .leaf (.pure [([],qFL)])) (.node 196 .leaf .leaf (.pure [([190],qHa)])) (.pure [([],qJw)])) (.pure [([],qJJ)])) (.pure [([186],qHk)])) (.st qFV)) (.pure [([],qCC)])) (.pure [([],qJR)])⟩
end Go.AmZ
namespace Go.AmZ
open Go Go.GxZ
set_option linter.unusedVariables false
set_option maxRecDepth 100000
theorem quG (m a0):qe9 (m+1) a0=tb.runS1 m i12 (a0,()):=by kernel_rfl
theorem qka (m a0 a1):jo (m+1) a0 a1=tb.runS1 m i32 (a0,a1,()):=by kernel_rfl
theorem qxK (m a0):qfZ (m+1) a0=tb.runP1 m qJn [] (a0,()):=by kernel_rfl
noncomputable def qmC (m k x0 x1 x2):=tb.PL qGT 4 m k [(0,.s x0),(38,.i .i64 x1),(39,.i .i64 x2)] ⟨[],[]⟩
theorem qsC (m k):jX m k=qmC m k:=za (M:=qmC m) rfl (λ _=>by kernel_rfl) k
theorem qvp (m a0):qbn (m+1) a0=tb.runP1 m qGT [] (a0,()):=(congrArg (λ L=>qd6 m L a0) (qsC m m)).trans (by kernel_rfl)
noncomputable def qn4 (m k x0 x1 x2 x3 x4 x5):=tb.QL i88 17 m k [(1,.i .i64 x0),(2,.ptr 0 0),(3,.ptr 1 0),(57,.sl .term x1 1),(58,.i .i64 x2),(59,.i .i64 x3)] ⟨[[.i .i64 x4],[.i .i64 x5]],[]⟩
theorem qvf (m k):jh m (zK m) k=qn4 m k:=za (M:=qn4 m) rfl (λ _=>by kernel_rfl) k
theorem qwS (m a0 a1 a2 a3):zK (m+1) a0 a1 a2 a3=tb.runS1 m i88 (a0,a1,a2,a3,()):=(congrArg (λ L=>qfl m (zK m) L a0 a1 a2 a3) (qvf m m)).trans (by kernel_rfl)
theorem qxf (m a0):ya (m+1) a0=tb.runP1 m i64 [] (a0,()):=by kernel_rfl
noncomputable def qj6 (m k x0 x1 x2 x3 x4 x5 x6 x7):=tb.PL i75 2 m k [(0,.s x0),(2,.ptr 0 0),(5,.sl (.pair .str (.pair (.int .i64) (.pair (.int .i64) (.int .i64)))) x1 1),(6,.i .i64 x2),(7,.i .i64 x3)] ⟨[[.s x4,.i .i64 x5,.i .i64 x6,.i .i64 x7]],[]⟩
theorem qqf (m k):Qv m k=qj6 m k:=za (M:=qj6 m) rfl (λ _=>by kernel_rfl) k
theorem qrM (m a0):qaW (m+1) a0=tb.runP1 m i75 [] (a0,()):=(congrArg (λ L=>qcF m L a0) (qqf m m)).trans (by kernel_rfl)
noncomputable def qlp (m k x0 x1 x2 x3 x4 x5 x6):=tb.PL i69 13 m k [(1,.ptr 0 0),(38,.sl .term x0 1),(39,.i .i64 x1),(40,.i .i64 x2)] ⟨[[.i .i64 x3,.s x4,.i .i64 x5,.sl .term x6 1]],[]⟩
noncomputable def qkL (m k x0 x1 x2):=tb.PL i69 22 m k [(62,.sl .term x0 1),(63,.i .i64 x1),(64,.i .i64 x2)] ⟨[],[]⟩
theorem qq9 (m k):qP m (qD m) k=(qlp m k,qkL m k):=za (M := λ k=>(qlp m k,qkL m k)) rfl (λ _=>by kernel_rfl) k
theorem qsu (m a0):qD (m+1) a0=tb.runP1 m i69 [] (a0,()):=(congrArg (a₁ := qP m (qD m) m) (λ L=>qdi m (qD m) L.1 L.2 a0) (qq9 m m)).trans (by kernel_rfl)
theorem qtv (m a0):qb0 (m+1) a0=tb.runP1 m i53 [] (a0,()):=by kernel_rfl
theorem qkD (m a0 a1 a2):QF (m+1) a0 a1 a2=tb.runS1 m i92 (a0,a1,a2,()):=by kernel_rfl
noncomputable def qg8 (m k x0 x1 x2 x3 x4):=tb.QL i91 3 m k [(1,.fn 92 [.ptr 0 0,.ptr 1 0]),(10,.sl .term x0 1),(11,.i .i64 x1),(12,.i .i64 x2)] ⟨[[.i .i64 x3],[.row 0 0]],[⟨.term,x4,0,0,false⟩]⟩
theorem qm8 (m k):jz m (zp m) k=qg8 m k:=za (M:=qg8 m) rfl (λ _=>by kernel_rfl) k
theorem qof (m a0 a1_0 a1_1):zp (m+1) a0 a1_0 a1_1=tb.runS1 m i91 (a0,a1_0,a1_1,()):=(congrArg (λ L=>qaM m (zp m) L a0 a1_0 a1_1) (qm8 m m)).trans (by kernel_rfl)
theorem qzu (m a0 a1):qci (m+1) a0 a1=tb.runP1 m qKi [] (a0,a1,()):=by kernel_rfl
noncomputable def qo7 (m k x0 x1 x2 x3):=tb.PL qF8 3 m k [(3,.i .i64 x0),(7,.sl .term x1 1),(8,.i .i64 x2),(9,.i .i64 x3)] ⟨[],[]⟩
theorem qwV (m k):qbt m (jC m) k=qo7 m k:=za (M:=qo7 m) rfl (λ _=>by kernel_rfl) k
theorem qzN (m a0):jC (m+1) a0=tb.runP1 m qF8 [] (a0,()):=(congrArg (λ L=>qgL m (jC m) L a0) (qwV m m)).trans (by kernel_rfl)
noncomputable def qlj (m k x0 x1 x2 x3 x4 x5 x6 x7 x8 x9):=tb.PL i95 11 m k [(2,.ptr 0 0),(3,.ptr 1 0),(5,.i .i64 x0),(6,.i .i64 x1)] ⟨[[.i .i64 x2,.s x3,.i .i64 x4,.sl .term x5 1],[.i .i64 x6,.s x7,.i .i64 x8,.sl .term x9 1]],[]⟩
theorem qr1 (m k):jH m (qu m) k=qlj m k:=za (M:=qlj m) rfl (λ _=>by kernel_rfl) k
theorem qsM (m a0 a1):qu (m+1) a0 a1=tb.runP1 m i95 [] (a0,a1,()):=(congrArg (λ L=>qdr m (qu m) L a0 a1) (qr1 m m)).trans (by kernel_rfl)
theorem qqu (m a0 a1):yj (m+1) a0 a1=tb.runP1 m qKc [] (a0,a1,()):=by kernel_rfl
noncomputable def qn0 (m k x0 x1 x2 x3 x4 x5 x6 x7 x8 x9 x10):=tb.PL qGE 4 m k [(1,.ptr 0 0),(2,.ptr 1 0),(9,.sl .term x0 1),(10,.i .i64 x1),(11,.i .i64 x2)] ⟨[[.i .i64 x3,.s x4,.i .i64 x5,.row 0 0],[.i .i64 x6,.s x7,.i .i64 x8,.row 1 0]],[⟨.term,x9,0,0,false⟩,⟨.term,x10,0,0,false⟩]⟩
theorem qvh (m k):qay m (yJ m) k=qn0 m k:=za (M:=qn0 m) rfl (λ _=>by kernel_rfl) k
theorem qwT (m a0):yJ (m+1) a0=tb.runP1 m qGE [] (a0,()):=(congrArg (λ L=>qfk m (yJ m) L a0) (qvh m m)).trans (by kernel_rfl)
noncomputable def qlb (m k x0 x1 x2):=tb.QL i93 4 m k [(0,.row 0 0),(9,.i .i64 x0),(10,.i .i64 x1)] ⟨[],[⟨.term,x2,0,0,false⟩]⟩
theorem qq6 (m k):Jf m k=qlb m k:=za (M:=qlb m) rfl (λ _=>by kernel_rfl) k
theorem qtK (m a0):qdD (m+1) a0=tb.runS1 m i93 (a0,()):=(congrArg (λ L=>qdv m L a0) (qq6 m m)).trans (by kernel_rfl)
theorem quO (m a0 a1):qhO (m+1) a0 a1=tb.runP1 m i70 [] (a0,a1,()):=by kernel_rfl
theorem qzC (m a0):qhX (m+1) a0=tb.runP1 m i54 [] (a0,()):=by kernel_rfl
theorem qvt (m a0 a1):Qu (m+1) a0 a1=tb.runP1 m i72 [] (a0,a1,()):=by kernel_rfl
theorem qzF (m a0 a1):yH (m+1) a0 a1=tb.runP1 m qI2 [] (a0,a1,()):=by kernel_rfl
theorem qqt (m a0):qaj (m+1) a0=tb.runP1 m qJS [] (a0,()):=by kernel_rfl
noncomputable def J0 (m k x0 x1 x2 x3 x4):=tb.PL qCC 3 m k [(0,.sl (.list .term) x0 1),(3,.i .i64 x1),(9,.sl (.list .term) x2 1),(10,.i .i64 x3),(11,.i .i64 x4)] ⟨[],[]⟩
noncomputable def JZ (m k x0 x1 x2 x3):=tb.PL qCC 11 m k [(6,.row 0 0),(25,.sl (.list .term) x0 1),(26,.i .i64 x1),(27,.i .i64 x2)] ⟨[],[⟨.term,x3,0,0,false⟩]⟩
theorem qey (m k):qm m k=(J0 m k,JZ m k):=za (M := λ k=>(J0 m k,JZ m k)) rfl (λ _=>by kernel_rfl) k
theorem qeU (m a0):zi (m+1) a0=tb.runP1 m qCC [] (a0,()):=(congrArg (a₁ := qm m m) (λ L=>yK m L.1 L.2 a0) (qey m m)).trans (by kernel_rfl)
noncomputable def qoj (m k x0 x1 x2):=tb.PL qF7 4 m k [(14,.sl .term x0 1),(15,.i .i64 x1),(16,.i .i64 x2)] ⟨[],[]⟩
theorem qxa (m k):qbm m k=qoj m k:=za (M:=qoj m) rfl (λ _=>by kernel_rfl) k
theorem qyF (m a0 a1):qie (m+1) a0 a1=tb.runP1 m qF7 [] (a0,a1,()):=(congrArg (λ L=>qgg m L a0 a1) (qxa m m)).trans (by kernel_rfl)
noncomputable def qqE (m k x0 x1 x2):=tb.PL qGy 2 m k [(0,.sl .term x0 1),(1,.sl .term x1 1),(5,.row 0 0)] ⟨[],[⟨.term,x2,0,0,false⟩]⟩
theorem qz1 (m k):qcv m k=qqE m k:=za (M:=qqE m) rfl (λ _=>by kernel_rfl) k
theorem qAl (m a0 a1):qht (m+1) a0 a1=tb.runP1 m qGy [] (a0,a1,()):=(congrArg (λ L=>qhQ m L a0 a1) (qz1 m m)).trans (by kernel_rfl)
noncomputable def qly (m k x0 x1 x2 x3):=tb.PL qGK 6 m k [(3,.sl .term x0 1),(31,.sl .term x1 1),(32,.i .i64 x2),(33,.i .i64 x3)] ⟨[],[]⟩
theorem qrJ (m k):Qk m (zX m) k=qly m k:=za (M:=qly m) rfl (λ _=>by kernel_rfl) k
theorem qt8 (m a0):zX (m+1) a0=tb.runP1 m qGK [] (a0,()):=(congrArg (λ L=>qdc m (zX m) L a0) (qrJ m m)).trans (by kernel_rfl)
noncomputable def qkY (m k x0 x1 x2 x3 x4 x5 x6 x7 x8 x9 x10 x11 x12 x13 x14):=tb.PL qF3 4 m k [(5,.ptr 0 0),(6,.ptr 1 0),(8,.ptr 2 0),(9,.ptr 2 0),(14,.sl (.int .i64) x0 1),(15,.i .i64 x1),(16,.i .i64 x2)] ⟨[[.i .i64 x3,.s x4,.i .i64 x5,.sl .term x6 1],[.i .i64 x7,.s x8,.i .i64 x9,.row 0 0],[.i .i64 x10,.s x11,.i .i64 x12,.sl .term x13 1]],[⟨.term,x14,0,0,false⟩]⟩
theorem qrU (m k):qak m k=qkY m k:=za (M:=qkY m) rfl (λ _=>by kernel_rfl) k
theorem qsR (m a0 a1 a2):qdK (m+1) a0 a1 a2=tb.runP1 m qF3 [] (a0,a1,a2,()):=(congrArg (λ L=>qdo m L a0 a1 a2) (qrU m m)).trans (by kernel_rfl)
noncomputable def qtZ (m k x0 x1 x2 x3):=tb.PL qGL 3 m k [(3,.row 0 0),(9,.sl .term x0 1),(10,.i .i64 x1),(11,.i .i64 x2)] ⟨[],[⟨.term,x3,0,0,false⟩]⟩
theorem qAL (m k):qdx m (Jj m) k=qtZ m k:=za (M:=qtZ m) rfl (λ _=>by kernel_rfl) k
theorem qCS (m a0):Jj (m+1) a0=tb.runP1 m qGL [] (a0,()):=(congrArg (λ L=>qiZ m (Jj m) L a0) (qAL m m)).trans (by kernel_rfl)
noncomputable def qtd (m k x0 x1 x2 x3 x4 x5 x6 x7):=tb.PL qGj 6 m k [(2,.ptr 0 0),(5,.sl .term x0 1),(15,.sl .term x1 1),(16,.i .i64 x2),(17,.i .i64 x3)] ⟨[[.i .i64 x4,.s x5,.i .i64 x6,.row 0 0]],[⟨.term,x7,0,0,true⟩]⟩
theorem qAz (m k):qd2 m k=qtd m k:=za (M:=qtd m) rfl (λ _=>by kernel_rfl) k
theorem qDg (m a0):qmu (m+1) a0=tb.runP1 m qGj [] (a0,()):=(congrArg (λ L=>qi9 m L a0) (qAz m m)).trans (by kernel_rfl)
theorem qoW (m a0):JK (m+1) a0=tb.runP1 m qKd [] (a0,()):=by kernel_rfl
noncomputable def qiR (m k x0 x1 x2 x3 x4 x5 x6 x7 x8 x9):=tb.PL qGP 3 m k [(1,.ptr 0 0),(2,.ptr 1 0),(10,.row 0 0),(11,.i .i64 x0),(12,.i .i64 x1)] ⟨[[.i .i64 x2,.s x3,.i .i64 x4,.row 0 0],[.i .i64 x5,.s x6,.i .i64 x7,.row 1 0]],[⟨.term,x8,0,0,false⟩,⟨.term,x9,0,0,false⟩]⟩
theorem qop (m k):j8 m (zg m) k=qiR m k:=za (M:=qiR m) rfl (λ _=>by kernel_rfl) k
theorem qqp (m a0):zg (m+1) a0=tb.runP1 m qGP [] (a0,()):=(congrArg (λ L=>qbH m (zg m) L a0) (qop m m)).trans (by kernel_rfl)
theorem qnl (m a0 a1):QM (m+1) a0 a1=tb.runP1 m qJl [] (a0,a1,()):=by kernel_rfl
noncomputable def ye (m k x0 x1 x2 x3 x4 x5 x6 x7):=tb.PL qHk 3 m k [(0,.sl (.pair .term (.int .i64)) x0 1),(2,.fn 186 []),(4,.ptr 0 0),(8,.i .i64 x1),(9,.i .i64 x2),(10,.i .i64 x3)] ⟨[[.i .i64 x4,.s x5,.i .i64 x6,.sl .term x7 1]],[]⟩
theorem Qi (m k):qn m k=ye m k:=za (M:=ye m) rfl (λ _=>by kernel_rfl) k
theorem Qs (m a0 a1):qB (m+1) a0 a1=tb.runP1 m qHk [186] (a0,a1,()):=(congrArg (λ L=>qG m L a0 a1) (Qi m m)).trans (by kernel_rfl)
theorem qpC (m a0 a1):JO (m+1) a0 a1=tb.runS1 m qJM (a0,a1,()):=by kernel_rfl
noncomputable def qg7 (m k x0 x1 x2 x3 x4):=tb.QL qFP 12 m k [(0,.row 0 0),(2,.i .i64 x0),(52,.sl .term x1 1),(53,.i .i64 x2),(54,.i .i64 x3)] ⟨[],[⟨(.pair .term (.int .i64)),x4,0,0,false⟩]⟩
theorem qmL (m k):y9 m (zd m) k=qg7 m k:=za (M:=qg7 m) rfl (λ _=>by kernel_rfl) k
theorem qoe (m a0 a1 a2):zd (m+1) a0 a1 a2=tb.runS1 m qFP (a0,a1,a2,()):=(congrArg (λ L=>qaL m (zd m) L a0 a1 a2) (qmL m m)).trans (by kernel_rfl)
theorem quf (m a0):qaf (m+1) a0=tb.runP1 m qJI [] (a0,()):=by kernel_rfl
noncomputable def qiW (m k x0 x1 x2 x3):=tb.PL qHw 4 m k [(0,.sl (.pair .term (.int .i64)) x0 1),(9,.sl (.pair .term (.int .i64)) x1 1),(10,.i .i64 x2),(11,.i .i64 x3)] ⟨[],[]⟩
theorem qoX (m k):jv m k=qiW m k:=za (M:=qiW m) rfl (λ _=>by kernel_rfl) k
theorem qqs (m a0):Jl (m+1) a0=tb.runP1 m qHw [] (a0,()):=(congrArg (λ L=>qbG m L a0) (qoX m m)).trans (by kernel_rfl)
theorem qsW (m a0 a1):qcd (m+1) a0 a1=tb.runP1 m qKm [] (a0,a1,()):=by kernel_rfl
noncomputable def qjL (m k x0 x1 x2 x3 x4 x5 x6 x7 x8):=tb.PL qzv 6 m k [(2,.ptr 0 0),(5,.row 1 0),(6,.row 2 0),(18,.sl (.pair .term (.int .i64)) x0 1),(19,.i .i64 x1),(20,.i .i64 x2)] ⟨[[.i .i64 x3,.s x4,.i .i64 x5,.row 0 0]],[⟨.term,x6,0,0,false⟩,⟨.term,x7,0,0,false⟩,⟨.term,x8,0,0,false⟩]⟩
noncomputable def qkk (m k x0 x1 x2 x3 x4 x5 x6 x7 x8 x9 x10 x11 x12 x13 x14 x15):=tb.PL qzv 11 m k [(2,.ptr 0 0),(5,.row 1 0),(6,.row 2 0),(8,.ptr 1 0),(18,.sl (.pair .term (.int .i64)) x0 1),(19,.i .i64 x1),(20,.i .i64 x2),(34,.i .i64 x3),(35,.i .i64 x4)] ⟨[[.i .i64 x5,.s x6,.i .i64 x7,.row 0 0],[.i .i64 x8,.s x9,.i .i64 x10,.sl .term x11 1,.i .i64 x12]],[⟨.term,x13,0,0,false⟩,⟨.term,x14,0,0,false⟩,⟨.term,x15,0,0,false⟩]⟩
noncomputable def qkt (m k x0 x1 x2 x3 x4 x5 x6 x7 x8 x9 x10 x11 x12 x13 x14 x15):=tb.PL qzv 15 m k [(2,.ptr 0 0),(5,.row 1 0),(6,.row 2 0),(8,.ptr 1 0),(18,.sl (.pair .term (.int .i64)) x0 1),(19,.i .i64 x1),(20,.i .i64 x2),(46,.i .i64 x3),(47,.i .i64 x4)] ⟨[[.i .i64 x5,.s x6,.i .i64 x7,.row 0 0],[.i .i64 x8,.s x9,.i .i64 x10,.sl .term x11 1,.i .i64 x12]],[⟨.term,x13,0,0,false⟩,⟨.term,x14,0,0,false⟩,⟨.term,x15,0,0,false⟩]⟩
theorem qqo (m k):qw m k=(qjL m k,qkk m k,qkt m k):=za (M := λ k=>(qjL m k,qkk m k,qkt m k)) rfl (λ _=>by kernel_rfl) k
theorem qrV (m a0):jY (m+1) a0=tb.runP1 m qzv [] (a0,()):=(congrArg (a₁ := qw m m) (λ L=>qcJ m L.1 L.2.1 L.2.2 a0) (qqo m m)).trans (by kernel_rfl)
noncomputable def qh7 (m k x0 x1 x2 x3):=tb.QL qFV 3 m k [(3,.row 0 0),(6,.sl (.pair .term (.int .i64)) x0 1),(7,.i .i64 x1),(8,.i .i64 x2)] ⟨[],[⟨(.pair .term (.int .i64)),x3,0,0,false⟩]⟩
theorem qoi (m k):jM m k=qh7 m k:=za (M:=qh7 m) rfl (λ _=>by kernel_rfl) k
theorem qpa (m a0):qbf (m+1) a0=tb.runS1 m qFV (a0,()):=(congrArg (λ L=>qba m L a0) (qoi m m)).trans (by kernel_rfl)
theorem qmK (m a0):J1 (m+1) a0=tb.runP1 m qJJ [] (a0,()):=by kernel_rfl
noncomputable def jL (m k x0 x1 x2):=tb.PL qHa 2 m k [(0,.sl (.pair .term (.int .i64)) x0 1),(1,.fn 190 []),(7,.i .i64 x1),(8,.i .i64 x2)] ⟨[],[]⟩
theorem qaP (m k):qz m k=jL m k:=za (M:=jL m) rfl (λ _=>by kernel_rfl) k
theorem qaQ (m a0):zc (m+1) a0=tb.runP1 m qHa [190] (a0,()):=(congrArg (λ L=>zy m L a0) (qaP m m)).trans (by kernel_rfl)
theorem qai (m a0):qS (m+1) a0=tb.runP1 m qI5 [190] (a0,()):=by kernel_rfl
theorem qo6 (m a0):qbg (m+1) a0=tb.runP1 m qI4 [] (a0,()):=by kernel_rfl
noncomputable def qld (m k x0 x1 x2 x3):=tb.PL qFx 9 m k [(8,.row 0 0),(23,.sl (.pair .term (.int .i64)) x0 1),(24,.i .i64 x1),(25,.i .i64 x2)] ⟨[],[⟨(.pair .term (.int .i64)),x3,0,0,false⟩]⟩
theorem qr5 (m k):Ji m k=qld m k:=za (M:=qld m) rfl (λ _=>by kernel_rfl) k
theorem qsp (m a0 a1):qdB (m+1) a0 a1=tb.runP1 m qFx [] (a0,a1,()):=(congrArg (λ L=>qdd m L a0 a1) (qr5 m m)).trans (by kernel_rfl)
theorem qwI (m a0 a1):qej (m+1) a0 a1=tb.runP1 m qKn [] (a0,a1,()):=by kernel_rfl
theorem qtT (m a0 a1):qd0 (m+1) a0 a1=tb.runP1 m qJF [] (a0,a1,()):=by kernel_rfl
noncomputable def qjY (m k x0 x1 x2 x3 x4 x5 x6 x7 x8 x9 x10 x11 x12 x13 x14):=tb.PL i94 5 m k [(1,.ptr 0 0),(2,.ptr 1 0),(4,.ptr 2 0),(19,.sl .term x0 1),(20,.i .i64 x1),(21,.i .i64 x2)] ⟨[[.i .i64 x3,.s x4,.i .i64 x5,.sl .term x6 1],[.i .i64 x7,.s x8,.i .i64 x9,.row 0 0],[.i .i64 x10,.s x11,.i .i64 x12,.row 1 0]],[⟨.term,x13,0,0,false⟩,⟨.term,x14,0,0,false⟩]⟩
theorem qqg (m k):QD m (zV m) k=qjY m k:=za (M:=qjY m) rfl (λ _=>by kernel_rfl) k
theorem qrS (m a0):zV (m+1) a0=tb.runP1 m i94 [] (a0,()):=(congrArg (λ L=>qcn m (zV m) L a0) (qqg m m)).trans (by kernel_rfl)
theorem qqZ (m a0):qcO (m+1) a0=tb.runP1 m i71 [] (a0,()):=by kernel_rfl
theorem qqq (m a0):qbX (m+1) a0=tb.runP1 m i74 [] (a0,()):=by kernel_rfl
noncomputable def qfQ (m k x0 x1 x2):=tb.PL i73 4 m k [(1,.fn 74 []),(18,.sl .term x0 1),(19,.i .i64 x1),(20,.i .i64 x2)] ⟨[],[]⟩
theorem qlH (m k):yu m (qL m) k=qfQ m k:=za (M:=qfQ m) rfl (λ _=>by kernel_rfl) k
theorem ql0 (m a0):qL (m+1) a0=tb.runP1 m i73 [74] (a0,()):=(congrArg (λ L=>JI m (qL m) L a0) (qlH m m)).trans (by kernel_rfl)
theorem qs7 (m a0):qbV (m+1) a0=tb.runP1 m i55 [] (a0,()):=by kernel_rfl
theorem qjO (m a0 a1):JL (m+1) a0 a1=tb.runS1 m i78 (a0,a1,()):=by kernel_rfl
noncomputable def yF (m k x0 x1 x2 x3 x4 x5 x6):=tb.QL i76 2 m k [(0,.sl (.pair .str (.pair (.int .i64) (.int .i64))) x0 1),(1,.fn 78 [.ptr 0 0]),(7,.i .i64 x1),(8,.i .i64 x2)] ⟨[[.i .i64 x3,.s x4,.i .i64 x5,.sl .term x6 1]],[]⟩
theorem QN (m k):qr m k=yF m k:=za (M:=yF m) rfl (λ _=>by kernel_rfl) k
theorem QT (m a0 a1_0):qC (m+1) a0 a1_0=tb.runS1 m i76 (a0,a1_0,()):=(congrArg (λ L=>qI m L a0 a1_0) (QN m m)).trans (by kernel_rfl)
theorem qoc (m):Jc (m+1)=tb.runP1 m i77 [] (()):=by kernel_rfl
theorem qiF (m a0):jK (m+1) a0=tb.runP1 m i79 [] (a0,()):=by kernel_rfl
noncomputable def qiO (m k x0 x1 x2 x3):=tb.QL i56 8 m k [(0,.row 0 0),(46,.sl .term x0 1),(47,.i .i64 x1),(48,.i .i64 x2)] ⟨[],[⟨(.int .u8),x3,0,0,false⟩]⟩
theorem qpz (m k):ju m (zB m) k=qiO m k:=za (M:=qiO m) rfl (λ _=>by kernel_rfl) k
theorem qqh (m a0 a1):zB (m+1) a0 a1=tb.runS1 m i56 (a0,a1,()):=(congrArg (λ L=>qbJ m (zB m) L a0 a1) (qpz m m)).trans (by kernel_rfl)
theorem qov (m a0):qbd (m+1) a0=tb.runP1 m i33 [] (a0,()):=by kernel_rfl
theorem qlJ (m a0 a1):Q8 (m+1) a0 a1=tb.runS1 m i34 (a0,a1,()):=by kernel_rfl
noncomputable def qn3 (m k x0 x1 x2 x3 x4):=tb.PL i57 3 m k [(0,.s x0),(3,.i .u32 x1),(4,.i .u32 x2),(7,.i .i64 x3),(8,.i .i64 x4)] ⟨[],[]⟩
theorem quk (m k):qaC m k=qn3 m k:=za (M:=qn3 m) rfl (λ _=>by kernel_rfl) k
theorem qwD (m a0):qgK (m+1) a0=tb.runP1 m i57 [] (a0,()):=(congrArg (λ L=>qfg m L a0) (quk m m)).trans (by kernel_rfl)
theorem qyq (m a0):qf2 (m+1) a0=tb.runP1 m i35 [] (a0,()):=by kernel_rfl
theorem qkK (m a0 a1 a2 a3):jI (m+1) a0 a1 a2 a3=tb.runS1 m i13 (a0,a1,a2,a3,()):=by kernel_rfl
theorem qil (m a0 a1):QZ (m+1) a0 a1=tb.runS1 m i38 (a0,a1,()):=by kernel_rfl
theorem qkm (m a0 a1 a2 a3):qb8 (m+1) a0 a1 a2 a3=tb.runS1 m i16 (a0,a1,a2,a3,()):=by kernel_rfl
theorem qxG (m a0):qoZ (m+1) a0=tb.runP1 m i39 [] (a0,()):=by kernel_rfl
theorem qkG (m a0 a1 a2):jF (m+1) a0 a1 a2=tb.runS1 m qJa (a0,a1,a2,()):=by kernel_rfl
noncomputable def qeL (m k x0 x1 x2 x3 x4 x5):=tb.QL qGz 4 m k [(0,.ptr 0 0),(4,.i .i64 x0),(14,.i .i64 x1),(15,.i .i64 x2)] ⟨[[.s x3,.i .i64 x4,.b x5]],[]⟩
theorem qkl (m k):qe2 m k=qeL m k:=za (M:=qeL m) rfl (λ _=>by kernel_rfl) k
theorem qkH (m a0):qcl (m+1) a0=tb.runS1 m qGz (a0,()):=(congrArg (λ L=>qeM m L a0) (qkl m m)).trans (by kernel_rfl)
theorem qkJ (m a0):qcz (m+1) a0=tb.runS1 m i87 (a0,()):=by kernel_rfl
noncomputable def qeJ (m k x0 x1 x2 x3 x4 x5 x6 x7):=tb.QL i63 2 m k [(0,.ptr 0 0),(2,.ptr 1 0),(3,.sl (.pair .term (.int .i64)) x0 1)] ⟨[[.s x1,.i .i64 x2,.b x3],[.i .i64 x4,.s x5,.i .i64 x6,.row 0 0]],[⟨.term,x7,0,0,false⟩]⟩
theorem qko (m k):qfa m k=qeJ m k:=za (M:=qeJ m) rfl (λ _=>by kernel_rfl) k
theorem qkI (m a0):qcr (m+1) a0=tb.runS1 m i63 (a0,()):=(congrArg (λ L=>qeK m L a0) (qko m m)).trans (by kernel_rfl)
theorem qpt (m a0):qg1 (m+1) a0=tb.runP1 m i40 [] (a0,()):=by kernel_rfl
theorem qix (m a0 a1):QY (m+1) a0 a1=tb.runS1 m i17 (a0,a1,()):=by kernel_rfl
theorem qtI (m a0 a1):JD (m+1) a0 a1=tb.runP1 m i65 [] (a0,a1,()):=by kernel_rfl
noncomputable def qnR (m k x0 x1 x2 x3 x4 x5):=tb.PL i66 3 m k [(1,.ptr 0 0),(3,.i .i64 x0),(4,.i .i64 x1)] ⟨[[.i .i64 x2,.s x3,.i .i64 x4,.sl .term x5 1]],[]⟩
theorem qva (m k):qaH m (yL m) k=qnR m k:=za (M:=qnR m) rfl (λ _=>by kernel_rfl) k
theorem qxn (m a0):yL (m+1) a0=tb.runP1 m i66 [] (a0,()):=(congrArg (λ L=>qfi m (yL m) L a0) (qva m m)).trans (by kernel_rfl)
noncomputable def qj5 (m k x0 x1 x2 x3 x4 x5 x6 x7 x8):=tb.PL i41 18 m k [(2,.ptr 0 0),(3,.ptr 1 0),(9,.i .i64 x0)] ⟨[[.i .i64 x1,.s x2,.i .i64 x3,.sl .term x4 1],[.i .i64 x5,.s x6,.i .i64 x7,.sl .term x8 1]],[]⟩
theorem qqm (m k):QI m (zr m) k=qj5 m k:=za (M:=qj5 m) rfl (λ _=>by kernel_rfl) k
theorem qqM (m a0 a1):zr (m+1) a0 a1=tb.runP1 m i41 [] (a0,a1,()):=(congrArg (λ L=>qcs m (zr m) L a0 a1) (qqm m m)).trans (by kernel_rfl)
theorem qxd (m a0 a1):QA (m+1) a0 a1=tb.runP1 m i18 [] (a0,a1,()):=by kernel_rfl
theorem qi2 (m a0 a1):qbo (m+1) a0 a1=tb.runS1 m i28 (a0,a1,()):=by kernel_rfl
theorem qwC (m a0 a1):qna (m+1) a0 a1=tb.runP1 m i52 [] (a0,a1,()):=by kernel_rfl
theorem qvv (m a0):qlE (m+1) a0=tb.runP1 m i31 [] (a0,()):=by kernel_rfl
theorem quF (m):qcX (m+1)=tb.runP1 m i10 [] (()):=by kernel_rfl
noncomputable def qmc (m k x0 x1 x2 x3 x4 x5):=tb.PL i68 3 m k [(1,.ptr 0 0),(3,.i .i64 x0),(4,.i .i64 x1)] ⟨[[.i .i64 x2,.s x3,.i .i64 x4,.sl .term x5 1]],[]⟩
theorem qsf (m k):JQ m (yU m) k=qmc m k:=za (M:=qmc m) rfl (λ _=>by kernel_rfl) k
theorem qui (m a0):yU (m+1) a0=tb.runP1 m i68 [] (a0,()):=(congrArg (λ L=>qel m (yU m) L a0) (qsf m m)).trans (by kernel_rfl)
theorem qsN (m a0):qbW (m+1) a0=tb.runP1 m qJf [] (a0,()):=by kernel_rfl
theorem quK (m a0):qfb (m+1) a0=tb.runP1 m qJr [] (a0,()):=by kernel_rfl
noncomputable def qk0 (m k x0 x1):=tb.PL qHu 4 m k [(0,.s x0),(3,.i .i64 x1)] ⟨[],[]⟩
theorem qq7 (m k):Jm m k=qk0 m k:=za (M:=qk0 m) rfl (λ _=>by kernel_rfl) k
theorem qsE (m a0):qaB (m+1) a0=tb.runP1 m qHu [] (a0,()):=(congrArg (λ L=>qdj m L a0) (qq7 m m)).trans (by kernel_rfl)
theorem qw7 (m a0):qgf (m+1) a0=tb.runP1 m qKp [] (a0,()):=by kernel_rfl
noncomputable def qmg (m k x0 x1 x2 x3 x4):=tb.PL i97 5 m k [(1,.ptr 0 0),(4,.i .i64 x0)] ⟨[[.i .i64 x1,.s x2,.i .i64 x3,.sl .term x4 1]],[]⟩
theorem qtP (m k):JT m (yY m) k=qmg m k:=za (M:=qmg m) rfl (λ _=>by kernel_rfl) k
theorem qvA (m a0):yY (m+1) a0=tb.runP1 m i97 [] (a0,()):=(congrArg (λ L=>qeh m (yY m) L a0) (qtP m m)).trans (by kernel_rfl)
theorem quJ (m a0):yB (m+1) a0=tb.runP1 m i80 [] (a0,()):=by kernel_rfl
theorem qrq (m):qfo (m+1)=tb.runP1 m qJR [] (()):=by kernel_rfl
noncomputable def qnW (m k x0 x1 x2):=tb.PL i85 3 m k [(0,.s x0),(3,.sl (.pair .str (.pair (.int .i64) (.pair (.int .i64) (.int .i64)))) x1 1),(4,.i .i64 x2)] ⟨[],[]⟩
theorem qvk (m k):qal m k=qnW m k:=za (M:=qnW m) rfl (λ _=>by kernel_rfl) k
theorem qwJ (m a0):qck (m+1) a0=tb.runP1 m i85 [] (a0,()):=(congrArg (λ L=>qfw m L a0) (qvk m m)).trans (by kernel_rfl)
noncomputable def qnU (m k x0 x1 x2 x3 x4 x5):=tb.PL i98 3 m k [(1,.ptr 0 0),(3,.sl (.pair .str (.pair (.int .i64) (.pair (.int .i64) (.int .i64)))) x0 1),(4,.i .i64 x1)] ⟨[[.i .i64 x2,.s x3,.i .i64 x4,.sl .term x5 1]],[]⟩
theorem qvl (m k):qax m k=qnU m k:=za (M:=qnU m) rfl (λ _=>by kernel_rfl) k
theorem qwO (m a0):qgV (m+1) a0=tb.runP1 m i98 [] (a0,()):=(congrArg (λ L=>qfj m L a0) (qvl m m)).trans (by kernel_rfl)
noncomputable def qk3 (m k x0 x1 x2 x3 x4):=tb.PL i99 4 m k [(1,.ptr 0 0),(3,.i .i64 x0)] ⟨[[.i .i64 x1,.s x2,.i .i64 x3,.sl .term x4 1]],[]⟩
theorem qrI (m k):Jh m k=qk3 m k:=za (M:=qk3 m) rfl (λ _=>by kernel_rfl) k
theorem qt0 (m a0):qdY (m+1) a0=tb.runP1 m i99 [] (a0,()):=(congrArg (λ L=>qdb m L a0) (qrI m m)).trans (by kernel_rfl)
noncomputable def qmy (m k x0 x1 x2 x3 x4):=tb.PL i81 11 m k [(1,.ptr 0 0),(4,.i .i64 x0)] ⟨[[.i .i64 x1,.s x2,.i .i64 x3,.sl .term x4 1]],[]⟩
theorem qub (m k):QP m (yA m) k=qmy m k:=za (M:=qmy m) rfl (λ _=>by kernel_rfl) k
theorem qvm (m a0):yA (m+1) a0=tb.runP1 m i81 [] (a0,()):=(congrArg (λ L=>qem m (yA m) L a0) (qub m m)).trans (by kernel_rfl)
theorem qun (m a0):qc0 (m+1) a0=tb.runP1 m i58 [] (a0,()):=by kernel_rfl
noncomputable def qoA (m k x0 x1 x2 x3 x4 x5):=tb.PL i84 3 m k [(1,.ptr 0 0),(3,.row 0 0),(4,.i .i64 x0)] ⟨[[.i .i64 x1,.s x2,.i .i64 x3,.sl .term x4 1]],[⟨.term,x5,0,0,true⟩]⟩
theorem qwF (m k):qbr m (jw m) k=qoA m k:=za (M:=qoA m) rfl (λ _=>by kernel_rfl) k
theorem qzf (m a0):jw (m+1) a0=tb.runP1 m i84 [] (a0,()):=(congrArg (λ L=>qgA m (jw m) L a0) (qwF m m)).trans (by kernel_rfl)
noncomputable def qoF (m k x0 x1 x2 x3 x4 x5 x6 x7):=tb.PL qGx 4 m k [(0,.sl .term x0 1),(3,.ptr 0 0),(5,.row 0 0),(6,.b x1),(7,.i .i64 x2)] ⟨[[.i .i64 x3,.s x4,.i .i64 x5,.sl .term x6 1]],[⟨.term,x7,0,0,false⟩]⟩
theorem qwY (m k):qbC m k=qoF m k:=za (M:=qoF m) rfl (λ _=>by kernel_rfl) k
theorem qyZ (m a0 a1):qfU (m+1) a0 a1=tb.runP1 m qGx [] (a0,a1,()):=(congrArg (λ L=>qgQ m L a0 a1) (qwY m m)).trans (by kernel_rfl)
noncomputable def qoD (m k x0 x1 x2):=tb.PL qGi 3 m k [(0,.sl .term x0 1),(3,.sl .term x1 1),(4,.i .i64 x2)] ⟨[],[]⟩
theorem qw1 (m k):qby m k=qoD m k:=za (M:=qoD m) rfl (λ _=>by kernel_rfl) k
theorem qym (m a0):qib (m+1) a0=tb.runP1 m qGi [] (a0,()):=(congrArg (λ L=>qgS m L a0) (qw1 m m)).trans (by kernel_rfl)
noncomputable def qnY (m k x0 x1 x2 x3):=tb.PL qHf 4 m k [(1,.i .i64 x0),(5,.row 0 0),(6,.sl .term x1 1),(7,.i .i64 x2)] ⟨[],[⟨.term,x3,0,0,false⟩]⟩
theorem qvw (m k):qaw m k=qnY m k:=za (M:=qnY m) rfl (λ _=>by kernel_rfl) k
theorem qwM (m a0 a1):qg5 (m+1) a0 a1=tb.runP1 m qHf [] (a0,a1,()):=(congrArg (λ L=>qfv m L a0 a1) (qvw m m)).trans (by kernel_rfl)
theorem qwG (m a0):qgw (m+1) a0=tb.runP1 m i82 [] (a0,()):=by kernel_rfl
theorem qsw (m a0):qdC (m+1) a0=tb.runP1 m i59 [] (a0,()):=by kernel_rfl
theorem qy0 (m a0 a1):jA (m+1) a0 a1=tb.runP1 m qKf [] (a0,a1,()):=by kernel_rfl
theorem qAu (m a0 a1):qaG (m+1) a0 a1=tb.runP1 m qKk [] (a0,a1,()):=by kernel_rfl
theorem qrw (m a0):qcT (m+1) a0=tb.runP1 m qI3 [] (a0,()):=by kernel_rfl
noncomputable def qmB (m k x0 x1 x2 x3 x4 x5):=tb.PL qFJ 4 m k [(0,.sl .term x0 1),(3,.ptr 0 0),(5,.i .i64 x1)] ⟨[[.i .i64 x2,.s x3,.i .i64 x4,.sl .term x5 1]],[]⟩
theorem qtG (m k):JY m k=qmB m k:=za (M:=qmB m) rfl (λ _=>by kernel_rfl) k
theorem quC (m a0 a1):qe4 (m+1) a0 a1=tb.runP1 m qFJ [] (a0,a1,()):=(congrArg (λ L=>qeG m L a0 a1) (qtG m m)).trans (by kernel_rfl)
theorem qxb (m):qgp (m+1)=tb.runP1 m qJ0 [] (()):=by kernel_rfl
noncomputable def qo2 (m k x0 x1 x2 x3 x4 x5):=tb.PL qFL 2 m k [(0,.sl .term x0 1),(3,.ptr 0 0),(5,.i .i64 x1)] ⟨[[.i .i64 x2,.s x3,.i .i64 x4,.sl .term x5 1]],[]⟩
theorem qxj (m k):qbw m k=qo2 m k:=za (M:=qo2 m) rfl (λ _=>by kernel_rfl) k
theorem qy7 (m a0 a1):qh8 (m+1) a0 a1=tb.runP1 m qFL [] (a0,a1,()):=(congrArg (λ L=>qgt m L a0 a1) (qxj m m)).trans (by kernel_rfl)
noncomputable def qkR (m k x0 x1 x2 x3 x4 x5 x6):=tb.PL qF6 5 m k [(0,.sl .term x0 1),(3,.ptr 0 0),(5,.row 0 0),(6,.i .i64 x1)] ⟨[[.i .i64 x2,.s x3,.i .i64 x4,.sl .term x5 1]],[⟨.term,x6,0,0,false⟩]⟩
theorem qqY (m k):Jp m k=qkR m k:=za (M:=qkR m) rfl (λ _=>by kernel_rfl) k
theorem qtY (m a0 a1):qdN (m+1) a0 a1=tb.runP1 m qF6 [] (a0,a1,()):=(congrArg (λ L=>qda m L a0 a1) (qqY m m)).trans (by kernel_rfl)
noncomputable def qnS (m k x0 x1 x2):=tb.PL qF2 3 m k [(1,.sl .term x0 1),(5,.sl .term x1 1),(6,.i .i64 x2)] ⟨[],[]⟩
theorem quW (m k):JF m k=qnS m k:=za (M:=qnS m) rfl (λ _=>by kernel_rfl) k
theorem qxm (m a0 a1):qeq (m+1) a0 a1=tb.runP1 m qF2 [] (a0,a1,()):=(congrArg (λ L=>qfp m L a0 a1) (quW m m)).trans (by kernel_rfl)
noncomputable def qiT (m k x0 x1 x2 x3 x4 x5):=tb.PL qFp 7 m k [(1,.ptr 0 0),(3,.sl .term x0 1),(4,.i .i64 x1)] ⟨[[.i .i64 x2,.s x3,.i .i64 x4,.sl .term x5 1]],[]⟩
theorem qpr (m k):jy m (zC m) k=qiT m k:=za (M:=qiT m) rfl (λ _=>by kernel_rfl) k
theorem qqi (m a0):zC (m+1) a0=tb.runP1 m qFp [] (a0,()):=(congrArg (λ L=>qbD m (zC m) L a0) (qpr m m)).trans (by kernel_rfl)
theorem qwW (m a0):qgY (m+1) a0=tb.runP1 m qJL [] (a0,()):=by kernel_rfl
noncomputable def qoC (m k x0 x1 x2 x3 x4 x5 x6):=tb.PL qFD 6 m k [(0,.sl .term x0 1),(2,.ptr 0 0),(5,.sl .term x1 1),(6,.i .i64 x2)] ⟨[[.i .i64 x3,.s x4,.i .i64 x5,.row 0 0]],[⟨.term,x6,0,0,true⟩]⟩
theorem qw6 (m k):qbu m k=qoC m k:=za (M:=qoC m) rfl (λ _=>by kernel_rfl) k
theorem qxM (m a0):qia (m+1) a0=tb.runP1 m qFD [] (a0,()):=(congrArg (λ L=>qgE m L a0) (qw6 m m)).trans (by kernel_rfl)
theorem qrh (m a0):JX (m+1) a0=tb.runP1 m qJw [] (a0,()):=by kernel_rfl
noncomputable def qmD (m k x0 x1 x2 x3 x4 x5):=tb.PL qG8 7 m k [(1,.ptr 0 0),(3,.i .i64 x0),(4,.i .i64 x1)] ⟨[[.i .i64 x2,.s x3,.i .i64 x4,.sl .term x5 1]],[]⟩
theorem qtD (m k):QO m (yw m) k=qmD m k:=za (M:=qmD m) rfl (λ _=>by kernel_rfl) k
theorem qug (m a0):yw (m+1) a0=tb.runP1 m qG8 [] (a0,()):=(congrArg (λ L=>qeB m (yw m) L a0) (qtD m m)).trans (by kernel_rfl)
noncomputable def qoU (m k x0 x1 x2 x3 x4 x5 x6 x7 x8):=tb.QL qFY 4 m k [(0,.row 0 0),(2,.i .i64 x0),(4,.ptr 0 0),(7,.row 1 0),(8,.b x1),(9,.i .i64 x2)] ⟨[[.i .i64 x3,.s x4,.i .i64 x5,.sl .term x6 1]],[⟨(.pair .term (.int .i64)),x7,0,0,false⟩,⟨(.pair .term (.int .i64)),x8,0,0,false⟩]⟩
theorem qxo (m k):Jt m k=qoU m k:=za (M:=qoU m) rfl (λ _=>by kernel_rfl) k
theorem qyd (m a0 a1 a2):qfW (m+1) a0 a1 a2=tb.runS1 m qFY (a0,a1,a2,()):=(congrArg (λ L=>qgG m L a0 a1 a2) (qxo m m)).trans (by kernel_rfl)
noncomputable def qj3 (m k x0 x1 x2 x3 x4 x5 x6):=tb.QL qHg 6 m k [(0,.row 0 0),(2,.i .i64 x0),(4,.ptr 0 0),(7,.i .i64 x1)] ⟨[[.i .i64 x2,.s x3,.i .i64 x4,.sl .term x5 1]],[⟨(.pair .term (.int .i64)),x6,0,0,false⟩]⟩
theorem qqk (m k):jO m (zM m) k=qj3 m k:=za (M:=qj3 m) rfl (λ _=>by kernel_rfl) k
theorem qqR (m a0 a1 a2):zM (m+1) a0 a1 a2=tb.runS1 m qHg (a0,a1,a2,()):=(congrArg (λ L=>qcB m (zM m) L a0 a1 a2) (qqk m m)).trans (by kernel_rfl)
theorem qAB (m a0):qfI (m+1) a0=tb.runP1 m qJv [] (a0,()):=by kernel_rfl
noncomputable def qml (m k x0 x1):=tb.PL qFI 4 m k [(0,.sl (.pair .term (.int .i64)) x0 1),(3,.i .i64 x1)] ⟨[],[]⟩
theorem qs4 (m k):QR m k=qml m k:=za (M:=qml m) rfl (λ _=>by kernel_rfl) k
theorem qu9 (m a0):qbB (m+1) a0=tb.runP1 m qFI [] (a0,()):=(congrArg (λ L=>qes m L a0) (qs4 m m)).trans (by kernel_rfl)
noncomputable def qiU (m k x0 x1 x2):=tb.PL qvq 3 m k [(0,.sl (.pair .term (.int .i64)) x0 1),(3,.row 0 0),(4,.i .i64 x1)] ⟨[],[⟨.term,x2,0,0,false⟩]⟩
noncomputable def qiP (m k x0 x1 x2 x3):=tb.PL qvq 6 m k [(0,.sl (.pair .term (.int .i64)) x0 1),(3,.row 0 0),(4,.i .i64 x1),(5,.i .i64 x2)] ⟨[],[⟨.term,x3,0,0,false⟩]⟩
noncomputable def qiN (m k x0 x1 x2):=tb.PL qvq 10 m k [(0,.sl (.pair .term (.int .i64)) x0 1),(3,.row 0 0),(6,.i .i64 x1)] ⟨[],[⟨.term,x2,0,0,false⟩]⟩
noncomputable def qiK (m k x0 x1 x2 x3):=tb.PL qvq 13 m k [(0,.sl (.pair .term (.int .i64)) x0 1),(3,.row 0 0),(6,.i .i64 x1),(7,.i .i64 x2)] ⟨[],[⟨.term,x3,0,0,false⟩]⟩
theorem qpc (m k):qk m k=(qiU m k,qiP m k,qiN m k,qiK m k):=za (M := λ k=>(qiU m k,qiP m k,qiN m k,qiK m k)) rfl (λ _=>by kernel_rfl) k
theorem qqr (m a0):qbU (m+1) a0=tb.runP1 m qvq [] (a0,()):=(congrArg (a₁ := qk m m) (λ L=>qbR m L.1 L.2.1 L.2.2.1 L.2.2.2 a0) (qpc m m)).trans (by kernel_rfl)
theorem qxp (m a0):qa5 (m+1) a0=tb.runP1 m qJQ [] (a0,()):=by kernel_rfl
theorem qrT (m a0):qaX (m+1) a0=tb.runP1 m qJC [] (a0,()):=by kernel_rfl
noncomputable def qjH (m k x0 x1):=tb.PL qFs 2 m k [(0,.sl (.pair .term (.int .i64)) x0 1),(3,.i .i64 x1)] ⟨[],[]⟩
theorem qqn (m k):QH m k=qjH m k:=za (M:=qjH m) rfl (λ _=>by kernel_rfl) k
theorem qrf (m a0):qcS (m+1) a0=tb.runP1 m qFs [] (a0,()):=(congrArg (λ L=>qcI m L a0) (qqn m m)).trans (by kernel_rfl)
noncomputable def qoY (m k x0 x1 x2):=tb.PL qFy 9 m k [(1,.sl (.pair .term (.int .i64)) x0 1),(8,.row 0 0),(9,.i .i64 x1)] ⟨[],[⟨(.pair .term (.int .i64)),x2,0,0,false⟩]⟩
theorem qw8 (m k):qag m k=qoY m k:=za (M:=qoY m) rfl (λ _=>by kernel_rfl) k
theorem qzb (m a0 a1):qh3 (m+1) a0 a1=tb.runP1 m qFy [] (a0,a1,()):=(congrArg (λ L=>qgX m L a0 a1) (qw8 m m)).trans (by kernel_rfl)
theorem qvo (m a0 a1):qeY (m+1) a0 a1=tb.runP1 m qJs [] (a0,a1,()):=by kernel_rfl
noncomputable def qlx (m k x0 x1 x2 x3 x4 x5 x6 x7 x8 x9):=tb.PL qHi 5 m k [(1,.ptr 0 0),(2,.ptr 1 0),(4,.row 1 0),(5,.i .i64 x0)] ⟨[[.i .i64 x1,.s x2,.i .i64 x3,.sl .term x4 1],[.i .i64 x5,.s x6,.i .i64 x7,.row 0 0]],[⟨.term,x8,0,0,false⟩,⟨.term,x9,0,0,false⟩]⟩
theorem qru (m k):Jo m (yv m) k=qlx m k:=za (M:=qlx m) rfl (λ _=>by kernel_rfl) k
theorem qtl (m a0):yv (m+1) a0=tb.runP1 m qHi [] (a0,()):=(congrArg (λ L=>qdn m (yv m) L a0) (qru m m)).trans (by kernel_rfl)
theorem qtW (m a0):qdJ (m+1) a0=tb.runP1 m i83 [] (a0,()):=by kernel_rfl
noncomputable def qlZ (m k x0 x1):=tb.PL i60 6 m k [(5,.sl .term x0 1),(6,.i .i64 x1)] ⟨[],[]⟩
theorem qto (m k):JS m k=qlZ m k:=za (M:=qlZ m) rfl (λ _=>by kernel_rfl) k
theorem qvy (m a0):qe8 (m+1) a0=tb.runP1 m i60 [] (a0,()):=(congrArg (λ L=>qeb m L a0) (qto m m)).trans (by kernel_rfl)
theorem qvc (m a0):qe0 (m+1) a0=tb.runP1 m i36 [] (a0,()):=by kernel_rfl
theorem qvz (m):qlU (m+1)=tb.runP1 m i86 [] (()):=by kernel_rfl
noncomputable def qmz (m k x0 x1 x2):=tb.PL i61 3 m k [(0,.s x0),(3,.sl .str x1 1),(4,.i .i64 x2)] ⟨[],[]⟩
theorem qsl (m k):JV m k=qmz m k:=za (M:=qmz m) rfl (λ _=>by kernel_rfl) k
theorem qu5 (m a0):qfc (m+1) a0=tb.runP1 m i61 [] (a0,()):=(congrArg (λ L=>qed m L a0) (qsl m m)).trans (by kernel_rfl)
theorem qr6 (m a0):qcN (m+1) a0=tb.runP1 m i62 [] (a0,()):=by kernel_rfl
noncomputable def qmv (m k x0 x1 x2 x3 x4 x5):=tb.PL i37 7 m k [(1,.ptr 0 0),(3,.s x0),(4,.i .i64 x1)] ⟨[[.i .i64 x2,.s x3,.i .i64 x4,.sl .term x5 1]],[]⟩
theorem qs5 (m k):QQ m (yy m) k=qmv m k:=za (M:=qmv m) rfl (λ _=>by kernel_rfl) k
theorem quQ (m a0):yy (m+1) a0=tb.runP1 m i37 [] (a0,()):=(congrArg (λ L=>qd8 m (yy m) L a0) (qs5 m m)).trans (by kernel_rfl)
theorem qsO (m a0):qdF (m+1) a0=tb.runP1 m i14 [] (a0,()):=by kernel_rfl
theorem qkn (m a0 a1):Qe (m+1) a0 a1=tb.runS1 m i15 (a0,a1,()):=by kernel_rfl
noncomputable def qk4 (m k x0 x1 x2 x3 x4 x5):=tb.PL i42 5 m k [(1,.i .i64 x0),(2,.ptr 0 0),(5,.i .i64 x1)] ⟨[[.i .i64 x2,.s x3,.i .i64 x4,.sl .term x5 1]],[]⟩
theorem qq5 (m k):Jb m (yo m) k=qk4 m k:=za (M:=qk4 m) rfl (λ _=>by kernel_rfl) k
theorem qt9 (m a0 a1):yo (m+1) a0 a1=tb.runP1 m i42 [] (a0,a1,()):=(congrArg (λ L=>qdp m (yo m) L a0 a1) (qq5 m m)).trans (by kernel_rfl)
noncomputable def qox (m k x0 x1 x2):=tb.PL i19 4 m k [(0,.sl .term x0 1),(2,.i .i64 x1),(7,.i .i64 x2)] ⟨[],[]⟩
theorem qwE (m k):qbq m k=qox m k:=za (M:=qox m) rfl (λ _=>by kernel_rfl) k
theorem qxQ (m a0 a1 a2):qhY (m+1) a0 a1 a2=tb.runP1 m i19 [] (a0,a1,a2,()):=(congrArg (λ L=>qgu m L a0 a1 a2) (qwE m m)).trans (by kernel_rfl)
noncomputable def qmm (m k x0 x1 x2 x3):=tb.PL i43 4 m k [(0,.s x0),(3,.i .u32 x1),(4,.i .u32 x2),(5,.i .i64 x3)] ⟨[],[]⟩
theorem qtu (m k):JW m k=qmm m k:=za (M:=qmm m) rfl (λ _=>by kernel_rfl) k
theorem quZ (m a0):qe3 (m+1) a0=tb.runP1 m i43 [] (a0,()):=(congrArg (λ L=>qeI m L a0) (qtu m m)).trans (by kernel_rfl)
theorem qw5 (m a0):qgW (m+1) a0=tb.runP1 m i20 [] (a0,()):=by kernel_rfl
noncomputable def qf5 (m k x0 x1 x2 x3 x4 x5):=tb.PL i4 8 m k [(3,.ptr 0 0),(5,.i .i64 x0),(32,.sl .term x1 1),(33,.i .i64 x2),(34,.i .i64 x3)] ⟨[[.i .i64 x4,.row 0 0]],[⟨(.pair (.int .i64) (.pair (.int .i64) (.pair .str .bool))),x5,0,0,false⟩]⟩
theorem qlT (m k):yp m k=qf5 m k:=za (M:=qf5 m) rfl (λ _=>by kernel_rfl) k
theorem qmw (m a0):law31_NetworkSends (m+1) a0=tb.runP1 m i4 [] (a0,()):=(congrArg (λ L=>JM m L a0) (qlT m m)).trans (by kernel_rfl)
end Go.AmZ
namespace Go.Proofs
open Go.Shelf
def Tryz.sortTrm_ren:Go.Shelf.Ren:=⟨λ | 6=>107 | 15=>131 | 14=>130 | 28=>163 | 29=>164 | 20=>155 | 21=>156 | 22=>157 | 23=>158 | 24=>159 | 25=>160 | 26=>161 | 27=>162 | 46=>180 | 47=>181 | 48=>182 | 49=>183 | 50=>184 | 57=>193 | n=>n,λ | 22=>22 | 24=>24 | 25=>86 | 3=>3 | 39=>95 | 0=>0 | 53=>88 | 55=>175 | 4=>4 | 46=>167 | 45=>166 | 50=>171 | 5=>5 | 9=>9 | 66=>184 | 70=>126 | 76=>197 | 77=>198 | n=>n,λ | n=>n⟩
theorem Tryz.sortTrm:Go.Proofs.SlLaysF0.n6 Tryz.prog Tryz.sortTrm_ren:={
 mixed:=by kernel_rfl
 f6:=⟨Tryz.f107.name,by decide,Tryz.func107.trans (congrArg some (by kernel_rfl))⟩
 f14:=⟨Tryz.f130.name,by decide,Tryz.func130.trans (congrArg some (by kernel_rfl))⟩
 f15:=Tryz.func131.trans (congrArg some (by kernel_rfl))
 f20:=⟨Tryz.f155.name,by decide,Tryz.func155.trans (congrArg some (by kernel_rfl))⟩
 f21:=⟨Tryz.f156.name,by decide,Tryz.func156.trans (congrArg some (by kernel_rfl))⟩
 f22:=⟨Tryz.f157.name,by decide,Tryz.func157.trans (congrArg some (by kernel_rfl))⟩
 f23:=⟨Tryz.f158.name,by decide,Tryz.func158.trans (congrArg some (by kernel_rfl))⟩
 f24:=⟨Tryz.f159.name,by decide,Tryz.func159.trans (congrArg some (by kernel_rfl))⟩
 f25:=⟨Tryz.f160.name,by decide,Tryz.func160.trans (congrArg some (by kernel_rfl))⟩
 f26:=⟨Tryz.f161.name,by decide,Tryz.func161.trans (congrArg some (by kernel_rfl))⟩
 f27:=⟨Tryz.f162.name,by decide,Tryz.func162.trans (congrArg some (by kernel_rfl))⟩
 f28:=Tryz.func163.trans (congrArg some (by kernel_rfl))
 f29:=Tryz.func164.trans (congrArg some (by kernel_rfl))
 f46:=⟨Tryz.f180.name,by decide,Tryz.func180.trans (congrArg some (by kernel_rfl))⟩
 f47:=Tryz.func181.trans (congrArg some (by kernel_rfl))
 f48:=Tryz.func182.trans (congrArg some (by kernel_rfl))
 f49:=⟨Tryz.f183.name,by decide,Tryz.func183.trans (congrArg some (by kernel_rfl))⟩
 f50:=⟨Tryz.f184.name,by decide,Tryz.func184.trans (congrArg some (by kernel_rfl))⟩
 f57:=⟨Tryz.f193.name,by decide,Tryz.func193.trans (congrArg some (by kernel_rfl))⟩
 t0:=Tryz.underlying0
 a0:=Tryz.isAgg0
 z0:=Tryz.sizeOf0
 v0:=Tryz.zeroValue0
 t3:=Tryz.underlying3
 a3:=Tryz.isAgg3
 z3:=Tryz.sizeOf3
 v3:=Tryz.zeroValue3
 t4:=Tryz.underlying4
 a4:=Tryz.isAgg4
 z4:=Tryz.sizeOf4
 v4:=Tryz.zeroValue4
 t5:=Tryz.underlying5
 a5:=Tryz.isAgg5
 z5:=Tryz.sizeOf5
 v5:=Tryz.zeroValue5
 t9:=Tryz.underlying9
 a9:=Tryz.isAgg9
 z9:=Tryz.sizeOf9
 v9:=Tryz.zeroValue9
 t22:=Tryz.underlying22
 a22:=Tryz.isAgg22
 z22:=Tryz.sizeOf22
 v22:=Tryz.zeroValue22
 t25:=Tryz.underlying86
 a25:=Tryz.isAgg86
 z25:=Tryz.sizeOf86
 v25:=Tryz.zeroValue86
 t39:=Tryz.underlying95
 a39:=Tryz.isAgg95
 z39:=Tryz.sizeOf95
 v39:=Tryz.zeroValue95
 t45:=Tryz.underlying166
 a45:=Tryz.isAgg166
 z45:=Tryz.sizeOf166
 v45:=Tryz.zeroValue166
 t46:=Tryz.underlying167
 a46:=Tryz.isAgg167
 z46:=Tryz.sizeOf167
 v46:=Tryz.zeroValue167
 t50:=Tryz.underlying171
 a50:=Tryz.isAgg171
 z50:=Tryz.sizeOf171
 v50:=Tryz.zeroValue171
 t53:=Tryz.underlying88
 a53:=Tryz.isAgg88
 z53:=Tryz.sizeOf88
 v53:=Tryz.zeroValue88
 t55:=Tryz.underlying175
 a55:=Tryz.isAgg175
 z55:=Tryz.sizeOf175
 v55:=Tryz.zeroValue175
 t66:=Tryz.underlying184
 a66:=Tryz.isAgg184
 z66:=Tryz.sizeOf184
 v66:=Tryz.zeroValue184
 t70:=Tryz.underlying126
 a70:=Tryz.isAgg126
 z70:=Tryz.sizeOf126
 v70:=Tryz.zeroValue126
 t76:=Tryz.underlying197
 a76:=Tryz.isAgg197
 z76:=Tryz.sizeOf197
 v76:=Tryz.zeroValue197
 t77:=Tryz.underlying198
 a77:=Tryz.isAgg198
 z77:=Tryz.sizeOf198
 v77:=Tryz.zeroValue198 }
end Go.Proofs
namespace Go.AmZ
open Go Go.GxZ
set_option linter.unusedVariables false
set_option maxRecDepth 100000
theorem qbs (m:Nat) (h:ym Go.Proofs.Tryz.prog (tb.at m).pc.cfg):zj Go.Proofs.Tryz.prog 107 (mgP ⟨.term,[.clo 95 0],λ x=>qW (m+1) x.1⟩):=qE8 (τ := .term) Go.Proofs.Tryz.sortTrm (λ _=>rfl) Go.Proofs.Tryz.isAgg24 Go.Proofs.Tryz.sizeOf24 (qEs (τ := .term) (ρ := (.int .i64)) (qBf h (by kernel_rfl)) (F := λ x y=>qu m x y) (by kernel_rfl) (λ _=>rfl)) (qaY Go.Proofs.Tryz.func107 (by kernel_rfl)) (λ _ _ h=>h)
theorem qar (m:Nat) (h:ym Go.Proofs.Tryz.prog (tb.at m).pc.cfg):zj Go.Proofs.Tryz.prog 108 (sgP ⟨[.row .term,.clo 109 0],[.one (.row .term)],λ x=>qH (m+1) x.1⟩):=qzt (qEs (τ := .term) (ρ := .bool) (qBf h (by kernel_rfl)) (F := λ x y=>yj m x y) (by kernel_rfl) (λ _=>rfl)) (λ _ _ h=>qCO h)
theorem tb_ok:∀ m,ym Go.Proofs.Tryz.prog (tb.at m).pc.cfg:=Tb.all_ok (by kernel_rfl) qEu (by kernel_rfl) ⟨nl1 ⟨Go.Proofs.Tryz.func102,λ _=>rfl,λ m a=>qrq m,trivial⟩,⟨⟨Go.Proofs.Tryz.func63,λ _=>rfl,λ m a=>qkI m a.1⟩,⟨nl1 ⟨Go.Proofs.Tryz.func37,λ _=>rfl,λ m a=>quQ m a.1,trivial⟩,⟨nl1 ⟨Go.Proofs.Tryz.func19,λ _=>rfl,λ m a=>qxQ m a.1 a.2.1 a.2.2.1,trivial⟩,⟨nl1 ⟨Go.Proofs.Tryz.func14,λ _=>rfl,λ m a=>qsO m a.1,trivial⟩,⟨⟨Go.Proofs.Tryz.func12,λ _=>rfl,λ m a=>quG m a.1⟩,⟨nl1 ⟨Go.Proofs.Tryz.func10,λ _=>rfl,λ m a=>quF m,trivial⟩,⟨nl1 ⟨Go.Proofs.Tryz.func4,λ _=>rfl,λ m a=>qmw m a.1,trivial⟩,trivial,trivial⟩,trivial⟩,⟨⟨Go.Proofs.Tryz.func13,λ _=>rfl,λ m a=>qkK m a.1 a.2.1 a.2.2.1 a.2.2.2.1⟩,trivial,trivial⟩⟩,⟨⟨Go.Proofs.Tryz.func17,λ _=>rfl,λ m a=>qix m a.1 a.2.1⟩,⟨⟨Go.Proofs.Tryz.func16,λ _=>rfl,λ m a=>qkm m a.1 a.2.1 a.2.2.1 a.2.2.2.1⟩,⟨⟨Go.Proofs.Tryz.func15,λ _=>rfl,λ m a=>qkn m a.1 a.2.1⟩,trivial,trivial⟩,trivial⟩,⟨nl1 ⟨Go.Proofs.Tryz.func18,λ _=>rfl,λ m a=>qxd m a.1 a.2.1,trivial⟩,trivial,trivial⟩⟩⟩,⟨nl1 ⟨Go.Proofs.Tryz.func33,λ _=>rfl,λ m a=>qov m a.1,trivial⟩,⟨nl1 ⟨Go.Proofs.Tryz.func31,λ _=>rfl,λ m a=>qvv m a.1,trivial⟩,⟨⟨Go.Proofs.Tryz.func28,λ _=>rfl,λ m a=>qi2 m a.1 a.2.1⟩,⟨nl1 ⟨Go.Proofs.Tryz.func20,λ _=>rfl,λ m a=>qw5 m a.1,trivial⟩,trivial,trivial⟩,trivial⟩,⟨⟨Go.Proofs.Tryz.func32,λ _=>rfl,λ m a=>qka m a.1 a.2.1⟩,trivial,trivial⟩⟩,⟨nl1 ⟨Go.Proofs.Tryz.func35,λ _=>rfl,λ m a=>qyq m a.1,trivial⟩,⟨⟨Go.Proofs.Tryz.func34,λ _=>rfl,λ m a=>qlJ m a.1 a.2.1⟩,trivial,trivial⟩,⟨nl1 ⟨Go.Proofs.Tryz.func36,λ _=>rfl,λ m a=>qvc m a.1,trivial⟩,trivial,trivial⟩⟩⟩⟩,⟨nl1 ⟨Go.Proofs.Tryz.func54,λ _=>rfl,λ m a=>qzC m a.1,trivial⟩,⟨nl1 ⟨Go.Proofs.Tryz.func42,λ _=>rfl,λ m a=>qt9 m a.1 a.2.1,trivial⟩,⟨nl1 ⟨Go.Proofs.Tryz.func40,λ _=>rfl,λ m a=>qpt m a.1,trivial⟩,⟨nl1 ⟨Go.Proofs.Tryz.func39,λ _=>rfl,λ m a=>qxG m a.1,trivial⟩,⟨⟨Go.Proofs.Tryz.func38,λ _=>rfl,λ m a=>qil m a.1 a.2.1⟩,trivial,trivial⟩,trivial⟩,⟨nl1 ⟨Go.Proofs.Tryz.func41,λ _=>rfl,λ m a=>qqM m a.1 a.2.1,trivial⟩,trivial,trivial⟩⟩,⟨nl1 ⟨Go.Proofs.Tryz.func52,λ _=>rfl,λ m a=>qwC m a.1 a.2.1,trivial⟩,⟨nl1 ⟨Go.Proofs.Tryz.func43,λ _=>rfl,λ m a=>quZ m a.1,trivial⟩,trivial,trivial⟩,⟨nl1 ⟨Go.Proofs.Tryz.func53,λ _=>rfl,λ m a=>qtv m a.1,trivial⟩,trivial,trivial⟩⟩⟩,⟨nl1 ⟨Go.Proofs.Tryz.func59,λ _=>rfl,λ m a=>qsw m a.1,trivial⟩,⟨nl1 ⟨Go.Proofs.Tryz.func57,λ _=>rfl,λ m a=>qwD m a.1,trivial⟩,⟨⟨Go.Proofs.Tryz.func56,λ _=>rfl,λ m a=>qqh m a.1 a.2.1⟩,⟨nl1 ⟨Go.Proofs.Tryz.func55,λ _=>rfl,λ m a=>qs7 m a.1,trivial⟩,trivial,trivial⟩,trivial⟩,⟨nl1 ⟨Go.Proofs.Tryz.func58,λ _=>rfl,λ m a=>qun m a.1,trivial⟩,trivial,trivial⟩⟩,⟨nl1 ⟨Go.Proofs.Tryz.func61,λ _=>rfl,λ m a=>qu5 m a.1,trivial⟩,⟨nl1 ⟨Go.Proofs.Tryz.func60,λ _=>rfl,λ m a=>qvy m a.1,trivial⟩,trivial,trivial⟩,⟨nl1 ⟨Go.Proofs.Tryz.func62,λ _=>rfl,λ m a=>qr6 m a.1,trivial⟩,trivial,trivial⟩⟩⟩⟩⟩,⟨nl1 ⟨Go.Proofs.Tryz.func82,λ _=>rfl,λ m a=>qwG m a.1,trivial⟩,⟨nl1 ⟨Go.Proofs.Tryz.func73,λ _=>rfl,λ m a=>ql0 m a.1,trivial⟩,⟨nl1 ⟨Go.Proofs.Tryz.func69,λ _=>rfl,λ m a=>qsu m a.1,trivial⟩,⟨nl1 ⟨Go.Proofs.Tryz.func66,λ _=>rfl,λ m a=>qxn m a.1,trivial⟩,⟨nl1 ⟨Go.Proofs.Tryz.func65,λ _=>rfl,λ m a=>qtI m a.1 a.2.1,trivial⟩,⟨nl1 ⟨Go.Proofs.Tryz.func64,λ _=>rfl,λ m a=>qxf m a.1,trivial⟩,trivial,trivial⟩,trivial⟩,⟨nl1 ⟨Go.Proofs.Tryz.func68,λ _=>rfl,λ m a=>qui m a.1,trivial⟩,trivial,trivial⟩⟩,⟨nl1 ⟨Go.Proofs.Tryz.func71,λ _=>rfl,λ m a=>qqZ m a.1,trivial⟩,⟨nl1 ⟨Go.Proofs.Tryz.func70,λ _=>rfl,λ m a=>quO m a.1 a.2.1,trivial⟩,trivial,trivial⟩,⟨nl1 ⟨Go.Proofs.Tryz.func72,λ _=>rfl,λ m a=>qvt m a.1 a.2.1,trivial⟩,trivial,trivial⟩⟩⟩,⟨⟨Go.Proofs.Tryz.func78,λ _=>rfl,λ m a=>qjO m a.1 a.2.1⟩,⟨⟨Go.Proofs.Tryz.func76,λ _=>rfl,λ m a=>QT m a.1 a.2.1⟩,⟨nl1 ⟨Go.Proofs.Tryz.func75,λ _=>rfl,λ m a=>qrM m a.1,trivial⟩,⟨nl1 ⟨Go.Proofs.Tryz.func74,λ _=>rfl,λ m a=>qqq m a.1,trivial⟩,trivial,trivial⟩,trivial⟩,⟨nl1 ⟨Go.Proofs.Tryz.func77,λ _=>rfl,λ m a=>qoc m,trivial⟩,trivial,trivial⟩⟩,⟨nl1 ⟨Go.Proofs.Tryz.func80,λ _=>rfl,λ m a=>quJ m a.1,trivial⟩,⟨nl1 ⟨Go.Proofs.Tryz.func79,λ _=>rfl,λ m a=>qiF m a.1,trivial⟩,trivial,trivial⟩,⟨nl1 ⟨Go.Proofs.Tryz.func81,λ _=>rfl,λ m a=>qvm m a.1,trivial⟩,trivial,trivial⟩⟩⟩⟩,⟨⟨Go.Proofs.Tryz.func93,λ _=>rfl,λ m a=>qtK m a.1⟩,⟨⟨Go.Proofs.Tryz.func87,λ _=>rfl,λ m a=>qkJ m a.1⟩,⟨nl1 ⟨Go.Proofs.Tryz.func85,λ _=>rfl,λ m a=>qwJ m a.1,trivial⟩,⟨nl1 ⟨Go.Proofs.Tryz.func84,λ _=>rfl,λ m a=>qzf m a.1,trivial⟩,⟨nl1 ⟨Go.Proofs.Tryz.func83,λ _=>rfl,λ m a=>qtW m a.1,trivial⟩,trivial,trivial⟩,trivial⟩,⟨nl1 ⟨Go.Proofs.Tryz.func86,λ _=>rfl,λ m a=>qvz m,trivial⟩,trivial,trivial⟩⟩,⟨⟨Go.Proofs.Tryz.func91,λ _=>rfl,λ m a=>qof m a.1 a.2.1 a.2.2.1⟩,⟨⟨Go.Proofs.Tryz.func88,λ _=>rfl,λ m a=>qwS m a.1 a.2.1 a.2.2.1 a.2.2.2.1⟩,trivial,trivial⟩,⟨⟨Go.Proofs.Tryz.func92,λ _=>rfl,λ m a=>qkD m a.1 a.2.1 a.2.2.1⟩,trivial,trivial⟩⟩⟩,⟨nl1 ⟨Go.Proofs.Tryz.func98,λ _=>rfl,λ m a=>qwO m a.1,trivial⟩,⟨λ c hc=>qob (m:=0) hc,⟨nl1 ⟨Go.Proofs.Tryz.func95,λ _=>rfl,λ m a=>qsM m a.1 a.2.1,trivial⟩,⟨nl1 ⟨Go.Proofs.Tryz.func94,λ _=>rfl,λ m a=>qrS m a.1,trivial⟩,trivial,trivial⟩,trivial⟩,⟨nl1 ⟨Go.Proofs.Tryz.func97,λ _=>rfl,λ m a=>qvA m a.1,trivial⟩,trivial,trivial⟩⟩,⟨nl1 ⟨Go.Proofs.Tryz.func100,λ _=>rfl,λ m a=>qwM m a.1 a.2.1,trivial⟩,⟨nl1 ⟨Go.Proofs.Tryz.func99,λ _=>rfl,λ m a=>qt0 m a.1,trivial⟩,trivial,trivial⟩,⟨nl1 ⟨Go.Proofs.Tryz.func101,λ _=>rfl,λ m a=>qtl m a.1,trivial⟩,trivial,trivial⟩⟩⟩⟩⟩⟩,⟨nl1 ⟨Go.Proofs.Tryz.func141,λ _=>rfl,λ m a=>qeU m a.1,trivial⟩,⟨nl1 ⟨Go.Proofs.Tryz.func121,λ _=>rfl,λ m a=>qym m a.1,trivial⟩,⟨nl1 ⟨Go.Proofs.Tryz.func111,λ _=>rfl,λ m a=>qqt m a.1,trivial⟩,⟨⟨qDP (qaY Go.Proofs.Tryz.func107 (by kernel_rfl)) λ _=>rfl,λ m h=>qbs m h⟩,⟨nl1 ⟨Go.Proofs.Tryz.func105,λ _=>rfl,λ m a=>qvp m a.1,trivial⟩,⟨⟨Go.Proofs.Tryz.func104,λ _=>rfl,λ m a=>qkH m a.1⟩,⟨⟨Go.Proofs.Tryz.func103,λ _=>rfl,λ m a=>qkG m a.1 a.2.1 a.2.2.1⟩,trivial,trivial⟩,trivial⟩,⟨nl1 ⟨Go.Proofs.Tryz.func106,λ _=>rfl,λ m a=>qsE m a.1,trivial⟩,trivial,trivial⟩⟩,⟨nl1 ⟨Go.Proofs.Tryz.func109,λ _=>rfl,λ m a=>qqu m a.1 a.2.1,trivial⟩,⟨⟨qtM (qaY Go.Proofs.Tryz.func108 (by kernel_rfl)) λ _=>rfl,λ m h=>qar m h⟩,trivial,trivial⟩,⟨nl1 ⟨Go.Proofs.Tryz.func110,λ _=>rfl,λ m a=>qwT m a.1,trivial⟩,trivial,trivial⟩⟩⟩,⟨nl1 ⟨Go.Proofs.Tryz.func116,λ _=>rfl,λ m a=>qzu m a.1 a.2.1,trivial⟩,⟨nl1 ⟨Go.Proofs.Tryz.func114,λ _=>rfl,λ m a=>qrV m a.1,trivial⟩,⟨nl1 ⟨Go.Proofs.Tryz.func113,λ _=>rfl,λ m a=>quf m a.1,trivial⟩,⟨nl1 ⟨Go.Proofs.Tryz.func112,λ _=>rfl,λ m a=>qDg m a.1,trivial⟩,trivial,trivial⟩,trivial⟩,⟨nl1 ⟨Go.Proofs.Tryz.func115,λ _=>rfl,λ m a=>qtT m a.1 a.2.1,trivial⟩,trivial,trivial⟩⟩,⟨λ c hc=>qnJ (m:=0) hc,⟨nl1 ⟨Go.Proofs.Tryz.func117,λ _=>rfl,λ m a=>qzN m a.1,trivial⟩,trivial,trivial⟩,⟨nl1 ⟨Go.Proofs.Tryz.func120,λ _=>rfl,λ m a=>qw7 m a.1,trivial⟩,trivial,trivial⟩⟩⟩⟩,⟨nl1 ⟨Go.Proofs.Tryz.func132,λ _=>rfl,λ m a=>qzF m a.1 a.2.1,trivial⟩,⟨nl1 ⟨Go.Proofs.Tryz.func126,λ _=>rfl,λ m a=>qvo m a.1 a.2.1,trivial⟩,⟨nl1 ⟨Go.Proofs.Tryz.func124,λ _=>rfl,λ m a=>qxM m a.1,trivial⟩,⟨nl1 ⟨Go.Proofs.Tryz.func123,λ _=>rfl,λ m a=>qrw m a.1,trivial⟩,⟨nl1 ⟨Go.Proofs.Tryz.func122,λ _=>rfl,λ m a=>qy0 m a.1 a.2.1,trivial⟩,trivial,trivial⟩,trivial⟩,⟨nl1 ⟨Go.Proofs.Tryz.func125,λ _=>rfl,λ m a=>qrT m a.1,trivial⟩,trivial,trivial⟩⟩,⟨nl1 ⟨Go.Proofs.Tryz.func128,λ _=>rfl,λ m a=>qsN m a.1,trivial⟩,⟨nl1 ⟨Go.Proofs.Tryz.func127,λ _=>rfl,λ m a=>qxK m a.1,trivial⟩,trivial,trivial⟩,⟨nl1 ⟨Go.Proofs.Tryz.func129,λ _=>rfl,λ m a=>quK m a.1,trivial⟩,trivial,trivial⟩⟩⟩,⟨⟨Go.Proofs.Tryz.func137,λ _=>rfl,λ m a=>qoe m a.1 a.2.1 a.2.2.1⟩,⟨nl1 ⟨Go.Proofs.Tryz.func135,λ _=>rfl,λ m a=>qt8 m a.1,trivial⟩,⟨nl1 ⟨Go.Proofs.Tryz.func134,λ _=>rfl,λ m a=>qAl m a.1 a.2.1,trivial⟩,⟨nl1 ⟨Go.Proofs.Tryz.func133,λ _=>rfl,λ m a=>qyF m a.1 a.2.1,trivial⟩,trivial,trivial⟩,trivial⟩,⟨nl1 ⟨Go.Proofs.Tryz.func136,λ _=>rfl,λ m a=>qCS m a.1,trivial⟩,trivial,trivial⟩⟩,⟨nl1 ⟨Go.Proofs.Tryz.func139,λ _=>rfl,λ m a=>qqp m a.1,trivial⟩,⟨nl1 ⟨Go.Proofs.Tryz.func138,λ _=>rfl,λ m a=>qqs m a.1,trivial⟩,trivial,trivial⟩,⟨nl1 ⟨Go.Proofs.Tryz.func140,λ _=>rfl,λ m a=>qsW m a.1 a.2.1,trivial⟩,trivial,trivial⟩⟩⟩⟩⟩,⟨⟨Go.Proofs.Tryz.func170,λ _=>rfl,λ m a=>qpa m a.1⟩,⟨nl1 ⟨Go.Proofs.Tryz.func151,λ _=>rfl,λ m a=>qwW m a.1,trivial⟩,⟨nl1 ⟨Go.Proofs.Tryz.func147,λ _=>rfl,λ m a=>quC m a.1 a.2.1,trivial⟩,⟨nl1 ⟨Go.Proofs.Tryz.func145,λ _=>rfl,λ m a=>qyZ m a.1 a.2.1,trivial⟩,⟨nl1 ⟨Go.Proofs.Tryz.func143,λ _=>rfl,λ m a=>qwI m a.1 a.2.1,trivial⟩,⟨nl1 ⟨Go.Proofs.Tryz.func142,λ _=>rfl,λ m a=>qsp m a.1 a.2.1,trivial⟩,trivial,trivial⟩,trivial⟩,⟨nl1 ⟨Go.Proofs.Tryz.func146,λ _=>rfl,λ m a=>qAu m a.1 a.2.1,trivial⟩,trivial,trivial⟩⟩,⟨nl1 ⟨Go.Proofs.Tryz.func149,λ _=>rfl,λ m a=>qxm m a.1 a.2.1,trivial⟩,⟨nl1 ⟨Go.Proofs.Tryz.func148,λ _=>rfl,λ m a=>qxb m,trivial⟩,trivial,trivial⟩,⟨nl1 ⟨Go.Proofs.Tryz.func150,λ _=>rfl,λ m a=>qqi m a.1,trivial⟩,trivial,trivial⟩⟩⟩,⟨nl1 ⟨Go.Proofs.Tryz.func166,λ _=>rfl,λ m a=>qoW m a.1,trivial⟩,⟨nl1 ⟨Go.Proofs.Tryz.func154,λ _=>rfl,λ m a=>qzb m a.1 a.2.1,trivial⟩,⟨nl1 ⟨Go.Proofs.Tryz.func153,λ _=>rfl,λ m a=>qxp m a.1,trivial⟩,⟨nl1 ⟨Go.Proofs.Tryz.func152,λ _=>rfl,λ m a=>qAB m a.1,trivial⟩,trivial,trivial⟩,trivial⟩,⟨nl1 ⟨Go.Proofs.Tryz.func165,λ _=>rfl,λ m a=>qsR m a.1 a.2.1 a.2.2.1,trivial⟩,trivial,trivial⟩⟩,⟨qex (m:=0),⟨⟨Go.Proofs.Tryz.func167,λ _=>rfl,λ m a=>qpC m a.1 a.2.1⟩,trivial,trivial⟩,⟨qeW (m:=0),trivial,trivial⟩⟩⟩⟩,⟨nl1 ⟨Go.Proofs.Tryz.func185,λ _=>rfl,λ m a=>Qs m a.1 a.2.1,trivial⟩,⟨nl1 ⟨Go.Proofs.Tryz.func176,λ _=>rfl,λ m a=>qu9 m a.1,trivial⟩,⟨nl1 ⟨Go.Proofs.Tryz.func174,λ _=>rfl,λ m a=>qug m a.1,trivial⟩,⟨nl1 ⟨Go.Proofs.Tryz.func173,λ _=>rfl,λ m a=>qtY m a.1 a.2.1,trivial⟩,⟨nl1 ⟨Go.Proofs.Tryz.func171,λ _=>rfl,λ m a=>qo6 m a.1,trivial⟩,trivial,trivial⟩,trivial⟩,⟨⟨Go.Proofs.Tryz.func175,λ _=>rfl,λ m a=>qqR m a.1 a.2.1 a.2.2.1⟩,trivial,trivial⟩⟩,⟨⟨Go.Proofs.Tryz.func178,λ _=>rfl,λ m a=>qyd m a.1 a.2.1 a.2.2.1⟩,⟨nl1 ⟨Go.Proofs.Tryz.func177,λ _=>rfl,λ m a=>qqr m a.1,trivial⟩,trivial,trivial⟩,⟨nl1 ⟨Go.Proofs.Tryz.func179,λ _=>rfl,λ m a=>qrf m a.1,trivial⟩,trivial,trivial⟩⟩⟩,⟨nl1 ⟨Go.Proofs.Tryz.func190,λ _=>rfl,λ m a=>qmK m a.1,trivial⟩,⟨qc7 (m:=0),⟨qc8 (m:=0),⟨nl1 ⟨Go.Proofs.Tryz.func186,λ _=>rfl,λ m a=>qnl m a.1 a.2.1,trivial⟩,trivial,trivial⟩,trivial⟩,⟨nl1 ⟨Go.Proofs.Tryz.func189,λ _=>rfl,λ m a=>qai m a.1,trivial⟩,trivial,trivial⟩⟩,⟨nl1 ⟨Go.Proofs.Tryz.func192,λ _=>rfl,λ m a=>qrh m a.1,trivial⟩,⟨nl1 ⟨Go.Proofs.Tryz.func191,λ _=>rfl,λ m a=>qy7 m a.1 a.2.1,trivial⟩,trivial,trivial⟩,⟨nl1 ⟨Go.Proofs.Tryz.func196,λ _=>rfl,λ m a=>qaQ m a.1,trivial⟩,trivial,trivial⟩⟩⟩⟩⟩⟩⟩
end Go.AmZ
namespace Go.AmZ
open Go Go.GxZ Go.RowKit
open Go.ChangeShapes Go.WideShapes Go.ChangeAt Go.WideMaps Go.WideElems
theorem qv1 (b o j:Nat):(⟨b,o,none⟩:Addr).add j=⟨b,o+j,none⟩:=by unfold Addr.add;split<;>simp_all
mutual
def tyM (P:Program):Nat->Ty->TypeId->Bool
 | 0,_,_=>false
 | _+1,.int k,t=>match P.underlying t with
   | some (.int k')=>decide (k'=k)&&decide (P.cellsOf t=1)
   | _=>false
 | _+1,.bool,t=>match P.underlying t with
   | some .bool=>decide (P.cellsOf t=1)
   | _=>false
 | _+1,.str,t=>match P.underlying t with
   | some .string=>decide (P.cellsOf t=1)
   | _=>false
 | n+1,.list a,t=>match P.underlying t with
   | some (.slice e)=>decide (P.cellsOf t=1)&&decide (P.cellsOf e=a.size)&&decide (0<P.bytesOf e)&&tyM P n a e
   | _=>false
 | n+1,.term,t=>qCx P n t
 | n+1,.pair a b,t=>match P.underlying t with
   | some (.struct fs)=>decide (P.cellsOf t=a.size+b.size)&&fsM P n (.pair a b) 0 fs.toList
   | _=>false
 | n+1,.one a,t=>match P.underlying t with
   | some (.struct fs)=>decide (P.cellsOf t=a.size)&&fsM P n a 0 fs.toList
   | _=>false
def fsM (P:Program):Nat->Ty->Nat->List Field->Bool
 | 0,_,_,_=>false
 | n+1,τ,off,[f]=>decide (f.offset=off)&&decide (P.cellsOf f.type = τ.size)&&tyM P n τ f.type
 | n+1,.pair a b,off,f::g::r=>decide (f.offset=off)&&decide (P.cellsOf f.type=a.size)&&tyM P n a f.type&&fsM P n b (off+a.size) (g::r)
 | _+1,_,_,_=>false
def qCx (P:Program):Nat->TypeId->Bool
 | 0,_=>false
 | n+1,t=>match P.underlying t with
   | some (.struct fs)=>match fs.toList with
     | [f0,f1,f2,f3]=>decide (P.cellsOf t=4)&&decide (f0.offset=0)&&decide (f1.offset=1)&&decide (f2.offset=2)&&decide (f3.offset=3)&&decide (P.cellsOf f3.type=1) &&
      tyM P n (.int .i64) f0.type&&tyM P n .str f1.type&&tyM P n (.int .i64) f2.type&&(match P.underlying f3.type with
      | some (.slice e)=>decide (e=t)&&decide (0<P.bytesOf t)
      | _=>false)
     | _=>false
   | _=>false
end
def qlF:(τ : Ty)->Val τ -> Prop
 | .int k,n=>k.min<=n/\n<=k.max
 | .bool,_=>True
 | .str,s=>s.length<2 ^ 62
 | .term,t=>qre t
 | .list a,l=>l.length<2 ^ 62/\∀ x∈l,qlF a x
 | .pair a b,p=>qlF a p.1/\qlF b p.2
 | .one a,v=>qlF a v
def ghW (W:World):Gh:=⟨λ b o=>match W.cell? ⟨b,o,none⟩ with | some u=>if u.oneCell'=true then some u else none | none=>none,0,λ _=>0,0,λ _=>0,λ _=>0,λ _=>0,λ _=>0,λ _=>0⟩
theorem qBE {W:World} {b o:Nat} {u:Value}:(ghW W).mem b o=some u↔W.cell? ⟨b,o,none⟩=some u/\u.oneCell'=true:=by
 show (match W.cell? ⟨b,o,none⟩ with | some u=>if u.oneCell'=true then some u else none | none=>none)=some u↔_
 cases W.cell? ⟨b,o,none⟩ with
 | none=>simp
 | some v =>
   simp only [Option.some.injEq]
   constructor
   ·intro h
    split at h
    ·cases h;exact ⟨rfl,‹_›⟩
    ·cases h
   ·rintro ⟨rfl,h⟩
    rw [if_pos h]
theorem qII (W:World):Inv (ghW W) emp W :=
 ⟨rfl,rfl,λ b o u h=>qBE.1 h,λ i cs h=>(by cases h),λ i j h=>absurd h (Nat.not_lt_zero _),λ i h=>absurd h (Nat.not_lt_zero _),λ r R h=>(by cases h),λ r r' h=>absurd h (Nat.not_lt_zero _)⟩
theorem cells_len {W:World} {yb:Nat} {a:Addr}:∀ {n:Nat} {cs:List Value},W.cells? yb a n=some cs->cs.length=n/\∀ j u,cs[j]? = some u->W.cell? (a.add j)=some u:=by
 intro n cs h
 unfold World.cells? at h
 split at h
 case isFalse=>cases h
 have h1:=mapM_some_length h
 rw [List.length_range] at h1
 refine ⟨h1,λ j u hj=>?_⟩
 have hlt:=getElem?_lt hj
 have:=mapM_some_get h j j (by rw [List.getElem?_range (by omega)])
 rw [this];exact hj
section
variable {H:Type} {enc:TypeId × Value->H} {P:Program} {W:World}
def qCq (enc:TypeId × Value->H) (P:Program) (W:World) (fuel:Nat):Prop:=∀ (n:Nat) (τ : Ty) (t:TypeId) (cs:List Value) (x:DataW H × List MemPlace),tyM P n τ t=true->DataW.trod enc P W 0 (λ _=>true) true fuel t cs=some x->(∀ k∈x.1.weights P t,k<=reachBytes) ->
 ∃ v:Val τ,RepL (ghW W) (ql τ v) cs/\(∀ u∈cs,u.oneCell'=true)/\qlF τ v
theorem qmo {e:TypeId}:∀ {ds:List (DataW H)} {d:DataW H},d∈ds->∀ n∈d.weights P e,n∈DataW.weightsAll P e ds
 | d0::ds,d,h,n,hn=>by
   simp only [DataW.weightsAll,List.mem_append]
   rcases List.mem_cons.1 h with rfl | h
   ·exact Or.inl hn
   ·exact Or.inr (qmo h n hn)
theorem qzh {n k:Nat} (h:n*k<=reachBytes) (hk:0<k):n<2 ^ 62:=by
 have:n*1<=n*k:=Nat.mul_le_mul_left _ hk
 have h2:reachBytes=140737488351232:=rfl
 omega
theorem qEL {α β : Type} {n:Nat} {Q:Nat -> α -> β -> Prop} (h0:0<n) (h:∀ i,i<n->∃ a b,Q i a b):∃ (f:Nat -> α) (g:Nat -> β),∀ i,i<n->Q i (f i) (g i):=by
 obtain ⟨a0,b0,_⟩:=h 0 h0
 refine ⟨λ i=>if hi:i<n then (h i hi).choose else a0,λ i=>if hi:i<n then (h i hi).choose_spec.choose else b0,λ i hi=>?_⟩
 simp only [dif_pos hi]
 exact (h i hi).choose_spec.choose_spec
theorem qyX {Γ : Gh} {x:AV} {u:Value} (h:Rep Γ x u):RepL Γ [x] [u]:=RepL.cons h RepL.nil
theorem qwa {fuel:Nat} (hA:∀ f,f<fuel->qCq enc P W f) {a:Ty} {t e:TypeId} {m:Nat} {cs:List Value} {x:DataW H × List MemPlace} (ht:P.underlying t=some (.slice e)) (hc:P.cellsOf e=a.size) (hb:0<P.bytesOf e) (hm:tyM P m a e=true)
  (h:DataW.trod enc P W 0 (λ _=>true) true fuel t cs=some x) (hw:∀ k∈x.1.weights P t,k<=reachBytes) :
  ∃ (l:List (Val a)) (u:Value),cs=[u]/\u.oneCell'=true/\Rep (ghW W) (.sl a.size (l.map (ql a)) 1) u/\l.length<2 ^ 62/\∀ v∈l,qlF a v:=by
 rcases DataW.trod_slice ht h with ⟨rfl,rfl⟩ | ⟨ad,len,cap,elems,rest,n,rfl,rfl,rfl,_,hl,_,hlen,hel,_,_⟩
 ·refine ⟨[],_,rfl,rfl,?_,by simp,(by intro v hv;cases hv)⟩
  exact .sl _ _ _ none 0 0 0 0 (λ _ _=>undef) rfl (λ _=>Nat.le_refl _) (λ h=>by omega) (by intro e he;cases he) (by intro e he;cases he) (Ty.size_pos a) (.inl rfl) (by intro i e j x hi;cases hi) (by intro i e j x hi;cases hi)
 ·have hwt:(elems.length+rest.length)*P.bytesOf e<=reachBytes/\∀ k∈DataW.weightsAll P e (elems.map (·.1)),k<=reachBytes:=by
    simp only [DataW.weights,ht,List.length_map,List.mem_cons,List.mem_append] at hw
    exact ⟨hw _ (.inl rfl),λ k hk=>hw k (.inr (.inl hk))⟩
  have each:∀ i,i<len->∃ (v:Val a) (us:List Value),RepL (ghW W) (ql a v) us/\(∀ u∈us,u.oneCell'=true)/\qlF a v/\(∀ j u,us[j]? = some u->W.cell? ((ad.add (i*a.size)).add j)=some u):=by
   intro i hi
   have h1:=hel i hi
   rw [List.getElem?_eq_getElem (by omega),hc,Option.bind_eq_some_iff] at h1
   obtain ⟨us,h2,h3⟩:=h1
   obtain ⟨q1,q2⟩:=cells_len h2
   obtain ⟨v,g1,g2,g3⟩:=hA n (Nat.lt_succ_self _) m a e us _ hm h3 λ k hk=>hwt.2 k (qmo (List.mem_map_of_mem (List.getElem_mem _)) k hk)
   exact ⟨v,us,g1,g2,g3,q2⟩
  by_cases h0:len=0
  ·subst h0
   refine ⟨[],_,rfl,rfl,?_,by simp,(by intro v hv;cases hv)⟩
   exact .sl _ _ _ _ 0 cap 0 0 (λ _ _=>undef) rfl (λ _=>hl) (λ h=>by omega) (by intro e he;cases he) (by intro e he;cases he) (Ty.size_pos a) (.inl rfl) (by intro i e j x hi;cases hi) (by intro i e j x hi;cases hi)
  obtain ⟨b,o,rfl⟩:∃ b o,ad=⟨b,o,none⟩:=by
   obtain ⟨v,us,g1,_,_,g4⟩:=each 0 (by omega)
   have hl1:us.length=a.size:=by rw [g1.len];exact Qb a v
   have hp:=Ty.size_pos a
   have h1:=g4 0 _ (List.getElem?_eq_getElem (by omega))
   rw [Nat.zero_mul] at h1
   have e1:(ad.add 0).add 0=ad:=rfl
   rw [e1] at h1
   obtain ⟨b,o,sp⟩:=ad
   unfold World.cell? at h1
   split at h1
   ·split at h1
    ·cases h1
    ·rename_i hs
     cases sp with
     | none=>exact ⟨b,o,rfl⟩
     | some s=>simp at hs
   ·cases h1
  obtain ⟨vv,uu,hvu⟩:=qEL (by omega:0<len) each
  have w1 := λ i hi=>(hvu i hi).1
  have w2 := λ i hi=>(hvu i hi).2.1
  have w3 := λ i hi=>(hvu i hi).2.2.1
  have w4 := λ i hi=>(hvu i hi).2.2.2
  have hget:∀ i,i<len->((List.range len).map vv)[i]? = some (vv i) := λ i hi=>by rw [List.getElem?_map,List.getElem?_range hi];rfl
  have hcell:∀ (i:Nat) (e':List AV) (j:Nat) (y:AV),(((List.range len).map vv).map (ql a))[i]? = some e'->e'[j]? = some y->i<len/\∃ u,(uu i)[j]? = some u/\Rep (ghW W) y u/\(ghW W).mem b (o+i*a.size+j)=some u:=by
   intro i e' j y h1 h2
   have hi:i<len:=by have:=getElem?_lt h1;simpa using this
   rw [List.getElem?_map,hget i hi] at h1
   cases h1
   obtain ⟨u,q1,q2⟩:=(w1 i hi).get h2
   refine ⟨hi,u,q1,q2,qBE.2 ⟨?_,w2 i hi u (List.mem_of_getElem? q1)⟩⟩
   have:=w4 i hi j u q1
   rw [qv1,qv1] at this
   exact this
  refine ⟨(List.range len).map vv,_,rfl,rfl,?_,?_,?_⟩
  ·refine .sl _ _ _ _ len cap b o (λ i j=>(uu i).getD j undef) (by simp) (λ _=>hl) (λ h=>by omega) ?_ ?_ (Ty.size_pos a) (.inr rfl) ?_ ?_
   ·intro e' he
    obtain ⟨v,_,rfl⟩:=List.mem_map.1 he
    exact Qb a v
   ·intro e' he
    obtain ⟨v,_,rfl⟩:=List.mem_map.1 he
    exact z8 a v
   ·intro i e' j y h1 h2
    obtain ⟨_,u,q1,q2,q3⟩:=hcell i e' j y h1 h2
    rw [List.getD_eq_getElem?_getD,q1];exact q3
   ·intro i e' j y h1 h2
    obtain ⟨_,u,q1,q2,q3⟩:=hcell i e' j y h1 h2
    rw [List.getD_eq_getElem?_getD,q1];exact q2
  ·rw [List.length_map,List.length_range,<- hlen]
   refine qzh (k:=P.bytesOf e) (Nat.le_trans (Nat.mul_le_mul_right _ ?_) hwt.1) hb
   omega
  ·intro v hv
   obtain ⟨i,hi,rfl⟩:=List.mem_map.1 hv
   exact w3 i (List.mem_range.1 hi)
theorem qsT {fuel:Nat} (hA:qCq enc P W fuel):∀ (n:Nat) (τ : Ty) (off:Nat) (fs:List Field) (cs:List Value) (xs:List (DataW H × List MemPlace)),fsM P n τ off fs=true->xs.length=fs.length ->
  (∀ (i:Nat) (f:Field),fs[i]? = some f->DataW.trod enc P W 0 (λ _=>true) true fuel f.type ((cs.drop f.offset).take (P.cellsOf f.type))=xs[i]?)->(∀ k∈DataW.weightsEach P (fs.map (·.type)) (xs.map (·.1)),k<=reachBytes)->off + τ.size<=cs.length ->
  ∃ v:Val τ,RepL (ghW W) (ql τ v) ((cs.drop off).take τ.size)/\(∀ u∈(cs.drop off).take τ.size,u.oneCell'=true)/\qlF τ v:=by
 intro n
 induction n with
 | zero=>intro τ off fs cs xs h;simp [fsM] at h
 | succ n ih =>
   intro τ off fs cs xs h hl hx hw hlen
   have one:∀ f x,fs=[f]->xs=[x]->(decide (f.offset=off)&&decide (P.cellsOf f.type = τ.size)&&tyM P n τ f.type)=true->∃ v:Val τ,RepL (ghW W) (ql τ v) ((cs.drop off).take τ.size)/\(∀ u∈(cs.drop off).take τ.size,u.oneCell'=true)/\qlF τ v:=by
    intro f x hf hxs h
    simp only [Bool.and_eq_true,decide_eq_true_eq] at h
    obtain ⟨⟨h1,h2⟩,h3⟩:=h
    subst hf;subst hxs
    have h4:=hx 0 f rfl
    rw [h1,h2] at h4
    exact hA n τ f.type _ x h3 h4 λ k hk=>hw k (by simp only [List.map_cons,List.map_nil,DataW.weightsEach,List.append_nil];exact hk)
   cases fs with
   | nil=>cases τ <;> simp [fsM] at h
   | cons f r =>
     cases xs with
     | nil=>simp at hl
     | cons x xs =>
       cases r with
       | nil =>
         have hxn:xs=[]:=List.eq_nil_of_length_eq_zero (by simpa using hl)
         subst hxn
         refine one f x rfl rfl ?_
         cases τ <;> exact h
       | cons g r =>
         cases τ with
         | pair a b =>
           simp only [fsM,Bool.and_eq_true,decide_eq_true_eq] at h
           obtain ⟨⟨⟨h1,h2⟩,h3⟩,h4⟩:=h
           have h5:=hx 0 f rfl
           rw [h1,h2] at h5
           have hsz:off+(a.size+b.size)<=cs.length:=hlen
           simp only [List.map_cons,DataW.weightsEach,List.mem_append] at hw
           obtain ⟨v,v1,v2,v3⟩:=hA n a f.type _ x h3 h5 λ k hk=>hw k (.inl hk)
           obtain ⟨v',v1',v2',v3'⟩:=ih b (off+a.size) (g::r) cs xs h4 (by simpa using hl) (λ i f' hf'=>hx (i+1) f' hf') (λ k hk=>hw k (.inr hk)) (by omega)
           have e:(cs.drop off).take (a.size+b.size)=(cs.drop off).take a.size++(cs.drop (off+a.size)).take b.size:=by
            rw [List.take_add,List.drop_drop]
           refine ⟨(v,v'),?_,?_,v3,v3'⟩
           ·show RepL _ (ql a v++ql b v') ((cs.drop off).take (a.size+b.size))
            rw [e];exact v1.append v1'
           ·show ∀ u∈(cs.drop off).take (a.size+b.size),_
            rw [e]
            intro u hu
            exact (List.mem_append.1 hu).elim (v2 u) (v2' u)
         | _=>simp [fsM] at h
theorem qIS {Γ : Gh} (k:IntKind) (n:Int):RepL Γ (ql (.int k) n) [.int k n]:=qyX (.v _ rfl)
theorem qFr:∀ fuel,qCq enc P W fuel:=by
 intro fuel
 induction fuel using Nat.strongRecOn with
 | ind fuel ihA =>
   have ints:∀ {k:IntKind} {t:TypeId} {cs:List Value} {x:DataW H × List MemPlace} {f:Nat},P.underlying t=some (.int k)->DataW.trod enc P W 0 (λ _=>true) true f t cs=some x->∃ n:Int,cs=[.int k n]/\k.min<=n/\n<=k.max:=by
    intro k t cs x f ht h
    obtain ⟨n,rfl,_,hwf⟩:=DataW.trod_int ht h
    simp only [Lit.wf,Bool.and_eq_true,decide_eq_true_eq] at hwf
    exact ⟨n,rfl,hwf⟩
   have strs:∀ {t:TypeId} {cs:List Value} {x:DataW H × List MemPlace} {f:Nat},P.underlying t=some .string->DataW.trod enc P W 0 (λ _=>true) true f t cs=some x->(∀ k∈x.1.weights P t,k<=reachBytes)->∃ s:ByteArray,cs=[.string s]/\s.data.toList.length<2 ^ 62:=by
    intro t cs x f ht h hw
    obtain ⟨s,rfl,rfl,_⟩:=DataW.trod_string ht h
    refine ⟨s,rfl,?_⟩
    have:=hw s.data.toList.length (by simp [DataW.weights])
    exact qzh (k:=1) (by omega) (by decide)
   intro n τ t cs x hm h hw
   cases n with
   | zero=>cases τ <;> simp [tyM] at hm
   | succ n =>
   cases τ with
   | int k =>
     simp only [tyM] at hm
     split at hm
     ·rename_i k' ht
      simp only [Bool.and_eq_true,decide_eq_true_eq] at hm
      obtain ⟨rfl,_⟩:=hm
      obtain ⟨i,rfl,h1,h2⟩:=ints ht h
      exact ⟨i,qIS _ _,by intro u hu;rw [List.mem_singleton.1 hu];rfl,h1,h2⟩
     ·cases hm
   | bool =>
     simp only [tyM] at hm
     split at hm
     ·rename_i ht
      obtain ⟨b,rfl,_⟩:=DataW.trod_bool ht h
      exact ⟨b,qyX (.v _ rfl),by intro u hu;rw [List.mem_singleton.1 hu];rfl,trivial⟩
     ·cases hm
   | str =>
     simp only [tyM] at hm
     split at hm
     ·rename_i ht
      obtain ⟨s,rfl,h1⟩:=strs ht h hw
      refine ⟨s.data.toList,?_,by intro u hu;rw [List.mem_singleton.1 hu];rfl,h1⟩
      exact qyX (.v _ rfl)
     ·cases hm
   | list a =>
     simp only [tyM] at hm
     split at hm
     ·rename_i e ht
      simp only [Bool.and_eq_true,decide_eq_true_eq] at hm
      obtain ⟨⟨⟨_,hc⟩,hb⟩,hm⟩:=hm
      obtain ⟨l,u,rfl,h1,h2,h3,h4⟩:=qwa (λ f hf=>ihA f hf) ht hc hb hm h hw
      exact ⟨l,qyX h2,by intro u' hu;rw [List.mem_singleton.1 hu];exact h1,h3,h4⟩
     ·cases hm
   | pair a b =>
     simp only [tyM] at hm
     split at hm
     ·rename_i fs ht
      simp only [Bool.and_eq_true,decide_eq_true_eq] at hm
      obtain ⟨hc,hm⟩:=hm
      obtain ⟨xs,f,rfl,rfl,h1,h2,h3⟩:=DataW.trod_struct ht h
      have hsz:(Ty.pair a b).size=a.size+b.size:=rfl
      obtain ⟨v,v1,v2,v3⟩:=qsT (ihA f (Nat.lt_succ_self _)) n (.pair a b) 0 fs.toList cs xs hm (by simpa using h2) (λ i g hg=>h3 i g (by simpa using hg)) (by simpa [DataW.weights,ht] using hw) (by rw [h1,hc,hsz];omega)
      rw [List.drop_zero,List.take_of_length_le (by rw [h1,hc,hsz];exact Nat.le_refl _)] at v1 v2
      exact ⟨v,v1,v2,v3⟩
     ·cases hm
   | one a =>
     simp only [tyM] at hm
     split at hm
     ·rename_i fs ht
      simp only [Bool.and_eq_true,decide_eq_true_eq] at hm
      obtain ⟨hc,hm⟩:=hm
      obtain ⟨xs,f,rfl,rfl,h1,h2,h3⟩:=DataW.trod_struct ht h
      obtain ⟨v,v1,v2,v3⟩:=qsT (ihA f (Nat.lt_succ_self _)) n a 0 fs.toList cs xs hm (by simpa using h2) (λ i g hg=>h3 i g (by simpa using hg)) (by simpa [DataW.weights,ht] using hw) (by rw [h1,hc];omega)
      rw [List.drop_zero,List.take_of_length_le (by rw [h1,hc];exact Nat.le_refl _)] at v1 v2
      exact ⟨v,v1,v2,v3⟩
     ·cases hm
   | term =>
     have hm0:=hm
     simp only [tyM] at hm
     cases n with
     | zero=>simp [qCx] at hm
     | succ n =>
     simp only [qCx] at hm
     split at hm
     case h_2=>cases hm
     rename_i fs ht
     split at hm
     case h_2=>cases hm
     rename_i f0 f1 f2 f3 hfs
     simp only [Bool.and_eq_true,decide_eq_true_eq] at hm
     obtain ⟨⟨⟨⟨⟨⟨⟨⟨⟨hc,o0⟩,o1⟩,o2⟩,o3⟩,hc3⟩,m0⟩,m1⟩,m2⟩,m3⟩:=hm
     split at m3
     case h_2=>cases m3
     rename_i e ht3
     simp only [Bool.and_eq_true,decide_eq_true_eq] at m3
     obtain ⟨rfl,hb⟩:=m3
     obtain ⟨xs,f,rfl,rfl,h1,h2,h3⟩:=DataW.trod_struct ht h
     have hsz:fs.size=4:=by rw [<- Array.length_toList,hfs];rfl
     rw [hsz] at h2
     rw [hc] at h1
     obtain ⟨c0,c1,c2,c3,rfl⟩:∃ c0 c1 c2 c3,cs=[c0,c1,c2,c3]:=by
      match cs,h1 with
      | [a,b,c,d],_=>exact ⟨a,b,c,d,rfl⟩
     obtain ⟨x0,x1,x2,x3,rfl⟩:∃ x0 x1 x2 x3,xs=[x0,x1,x2,x3]:=by
      match xs,h2 with
      | [a,b,c,d],_=>exact ⟨a,b,c,d,rfl⟩
     have fg:∀ i g,[f0,f1,f2,f3][i]? = some g->fs[i]? = some g := λ i g hg=>by rw [<- hfs,Array.getElem?_toList] at hg;exact hg
     have s0:=h3 0 f0 (fg 0 _ rfl)
     have s1:=h3 1 f1 (fg 1 _ rfl)
     have s2:=h3 2 f2 (fg 2 _ rfl)
     have s3:=h3 3 f3 (fg 3 _ rfl)
     have cOf:∀ {τ : Ty} {t:TypeId},(∃ k,τ = .int k) \/ τ = .str->tyM P n τ t=true->P.cellsOf t=1:=by
      intro τ t hτ hm
      cases n with
      | zero=>cases τ <;> simp [tyM] at hm
      | succ n =>
        rcases hτ with ⟨k,rfl⟩ | rfl
        ·simp only [tyM] at hm
         split at hm
         ·simp only [Bool.and_eq_true,decide_eq_true_eq] at hm;exact hm.2
         ·cases hm
        ·simp only [tyM] at hm
         split at hm
         ·exact of_decide_eq_true hm
         ·cases hm
     have uInt:∀ {k:IntKind} {t:TypeId},tyM P n (.int k) t=true->P.underlying t=some (.int k):=by
      intro k t hm
      cases n with
      | zero=>simp [tyM] at hm
      | succ n =>
        simp only [tyM] at hm
        split at hm
        ·rename_i k' ht
         simp only [Bool.and_eq_true,decide_eq_true_eq] at hm
         rw [ht,hm.1]
        ·cases hm
     have uStr:∀ {t:TypeId},tyM P n .str t=true->P.underlying t=some .string:=by
      intro t hm
      cases n with
      | zero=>simp [tyM] at hm
      | succ n =>
        simp only [tyM] at hm
        split at hm
        ·assumption
        ·cases hm
     rw [o0,cOf (.inl ⟨_,rfl⟩) m0] at s0
     rw [o1,cOf (.inr rfl) m1] at s1
     rw [o2,cOf (.inl ⟨_,rfl⟩) m2] at s2
     rw [o3,hc3] at s3
     have hwE:∀ k∈DataW.weightsEach P [f0.type,f1.type,f2.type,f3.type] [x0.1,x1.1,x2.1,x3.1],k<=reachBytes:=by
      intro k hk
      refine hw k ?_
      simp only [DataW.weights,ht,hfs]
      exact hk
     simp only [DataW.weightsEach,List.mem_append] at hwE
     obtain ⟨i0,e0,_,_⟩:=ints (uInt m0) (f:=f) (x:=x0) s0
     obtain ⟨i1,e1,b1⟩:=strs (uStr m1) (f:=f) (x:=x1) s1 λ k hk=>hwE k (.inr (.inl hk))
     obtain ⟨i2,e2,_,_⟩:=ints (uInt m2) (f:=f) (x:=x2) s2
     obtain ⟨l,u,e3,b3,r3,l3,v3⟩:=qwa (a := .term) (λ g hg=>ihA g (Nat.lt_succ_of_lt hg)) ht3 hc hb hm0 s3 λ k hk=>hwE k (.inr (.inr (.inr (.inl hk))))
     have g0:c0 = .int .i64 i0:=by simpa using e0
     have g1:c1 = .string i1:=by simpa using e1
     have g2:c2 = .int .i64 i2:=by simpa using e2
     have g3:c3=u:=by simpa using e3
     subst g0;subst g1;subst g2;subst g3
     refine ⟨.mk i0 i1.data.toList i2 l,?_,?_,(qBz _).2 ⟨l3,b1,v3⟩⟩
     ·show RepL _ (J6 _) _
      rw [J6,qnC]
      exact RepL.cons (.v _ rfl) (RepL.cons (.v _ rfl) (RepL.cons (.v _ rfl) (qyX r3)))
     ·intro u hu
      simp only [List.mem_cons,List.not_mem_nil,or_false] at hu
      rcases hu with rfl | rfl | rfl | rfl
      ·rfl
      ·rfl
      ·rfl
      ·exact b3
end
end Go.AmZ
namespace Go.GxZ
open Go.RowKit Go.ChangeShapes Go.WideShapes Go.ChangeAt
open Go.WideMaps Go.WideElems
section
variable {H:Type} {enc:TypeId × Value->H} {P:Program}
theorem qnX (hl:laidOutB P=true) {W W':World} (hb:Below W.heap.size W W'):∀ {ts:List TypeId} {vs:List Value} {ds:List (DataW H)} {ps:List MemPlace},
  (∀ t∈ts,P.readableRec t=true/\t<P.types.size)->DataW.TrodAll enc P W 0 (λ _=>true) true ts vs ds ps->(∀ x∈ps,x.block<W.heap.size) ->
  DataW.TrodAll enc P W' 0 (λ b=>decide (b<W.heap.size)) true ts vs ds ps
 | [],[],[],_,_,h,_=>h
 | t::ts,v::vs,d::ds,_,hr,⟨p,q,h1,h2,he⟩,hlt=>by
   subst he
   refine ⟨p,q,?_,?_,rfl⟩
   ·exact Below.trod hl (hr t (List.mem_cons_self ..)).1 (hr t (List.mem_cons_self ..)).2 h1 hb λ x hx=>hlt x (List.mem_append_left _ hx)
   ·exact qnX hl hb (λ t ht=>hr t (List.mem_cons_of_mem _ ht)) h2 λ x hx=>hlt x (List.mem_append_right _ hx)
 | [],[],_::_,_,_,h,_=>h.elim
 | [],_::_,_,_,_,h,_=>h.elim
 | _::_,[],_,_,_,h,_=>h.elim
 | _::_,_::_,[],_,_,h,_=>h.elim
theorem qFN {f:Func} {s:ChangeSpec} {apart fresh handsOn:Bool} {W W':World} {args:Array Value} {ds gs:List (DataW H)} {before:List MemPlace} {ts:List TypeId} {T:TypeId}
  (hl:laidOutB P=true) (hts:f.params.toList=ts) (hr:ts.all (λ t=>P.readableRec t&&decide (t<P.types.size))=true) (hv:s.vars=[])
  (hrt:f.resultTypes = #[T]) (hT:P.underlying T=some .bool)
  (hW:DataW.Whole enc P f.params.toList s.vars apart W args.toList ds gs before)
  (hres:(s.fn H (ds++gs)).results=[.lit (.bool true)]) (hargs:(s.fn H (ds++gs)).args=ds) (hvs:(s.fn H (ds++gs)).vars=[])
  (hb:Below W.heap.size W W'):s.post enc P f apart fresh handsOn false W args (.bool true) W':=by
 have hW':=hW
 have hlt := λ x hx=>hW'.lt x hx
 obtain ⟨p,q,hA,hV,rfl,hfz,hnd⟩:=hW
 rw [hv] at hV
 have hgs:gs=[]/\q=[]:=trodVars_none hV
 obtain ⟨rfl,rfl⟩:=hgs
 rw [List.append_nil] at *
 refine ⟨ds,[],p,[],p,[],?_,?_,?_,?_,?_,λ h=>by cases h⟩
 ·exact hW'
 ·rw [hrt,List.append_nil,hres]
  exact trodAll_mk1 (shut_bool hT _)
 ·rw [List.append_nil,hargs]
  refine qnX hl hb (ts:=f.params.toList) ?_ hA hlt
  intro t ht
  rw [hts] at ht
  have:=List.all_eq_true.1 hr t ht
  simpa using this
 ·rw [List.append_nil,hvs,hv]
  rfl
 ·exact hb.frame _
end
end Go.GxZ
namespace Go.Proofs.YtckmkimhkhilgaaGreat
theorem Tryz.own:ownKnob Tryz.prog.godebug=none:=by kernel_rfl
theorem Tryz.laidOut:laidOutB Tryz.prog=true:=by kernel_rfl
end Go.Proofs.YtckmkimhkhilgaaGreat
namespace Go.AmZ
open Go Go.GxZ Go.RowKit
theorem qwo:∀ (τ : Ty) (v:Val τ),Qd τ (yG τ v)=some v:=by
 intro τ v
 have h:=j9 τ v
 cases τ <;> exact h
def qyi:List ATy->Bool
 | []=>true
 | .val _::r=>qyi r
 | .fn::_=>false
theorem qpA:∀ (ts:List ATy) (a:qa1 ts),qyi ts=true->qcY ts (jN ts a [])=some a/\qeR (jN ts a [])=[]
 | [],_,_=>⟨rfl,rfl⟩
 | .val τ :: r,a,h=>by
   obtain ⟨h1,h2⟩:=qpA r a.2 h
   constructor
   ·show qlQ (Qd τ) (qcY r) (yG τ a.1::jN r a.2 [])=_
    simp only [qlQ,qwo,h1]
   ·show qeR (yG τ a.1::jN r a.2 [])=[]
    have:=(qb5 (qwo τ a.1)).2
    cases hx:yG τ a.1<;>first | exact h2 | exact absurd hx (this _ _)
 | .fn::_,_,h=>by cases h
theorem law_calls {P:Program} {f:FuncId} {c:TC} (hp:zj P f (Q5 (yZ c f))) {ts:List ATy} {fn:qa1 ts->Option (qd1 [.bool])} (hg:c.pf f []=some ⟨ts,[.bool],fn⟩) (ht:qyi ts=true) {a:qa1 ts} (hv:fn a=some true)
  {W:World} {vals:List Value} (hr:RepL (ghW W) (jN ts a []) vals):Calls P f vals.toArray W λ e w'=>e = .returned (.bool true)/\Below W.heap.size W w':=by
 obtain ⟨h1,h2⟩:=qpA ts a ht
 have hs:yZ c f (jN ts a [])=some (.v (.bool true)):=by
  unfold yZ
  rw [h2,hg]
  simp only
  rw [h1]
  simp only
  rw [hv]
  rfl
 have hpp:Q5 (yZ c f) emp (jN ts a [])=some (.v (.bool true),none):=by
  show (match yZ c f (jN ts a []) with | some v=>some (v,none) | none=>none)=_
  rw [hs]
 have:=hp.2 (ghW W) emp W (jN ts a []) vals _ (qII W) hr hpp
 refine Calls.mono this ?_
 rintro e w' ⟨v,Γ',rfl,hx,_,hrv,_⟩
 have hv:=zo hrv
 subst hv
 refine ⟨rfl,hx.os,hx.tape,hx.output,hx.size,λ b hb=>hx.block b hb ?_⟩
 rintro (⟨i,hi,_⟩ | ⟨r,hr,_⟩)
 ·exact absurd hi (Nat.not_lt_zero _)
 ·exact absurd hr (Nat.not_lt_zero _)
theorem qz3 {Γ : Gh} {τ : Ty} {x:Val τ} {v:Value} (h:RepL Γ (ql τ x) v.cells.toList) (h1:∀ u∈v.cells.toList,u.oneCell'=true) (hs : τ.agg=true -> τ.size≠1) (hna : τ.agg=false->∀ cs,v ≠ .agg cs):Rep Γ (yG τ x) v:=by
 have hlen:=h.len
 rw [Qb] at hlen
 have agg:yG τ x = .agg (ql τ x) -> τ.agg=true->Rep Γ (yG τ x) v:=by
  intro he ha
  rw [he]
  have hne:=hs ha
  cases v with
  | agg cs=>exact .agg _ _ h.len h1 h.rep
  | _=>exact absurd (show τ.size=1 by rw [<- hlen];rfl) hne
 have one:∀ {y:AV},ql τ x=[y]->yG τ x=y -> τ.agg=false->Rep Γ (yG τ x) v:=by
  intro y he hy ha
  have hc:v.cells = #[v]:=by
   cases v with
   | agg cs=>exact absurd rfl (hna ha cs)
   | _=>rfl
  rw [he,hc] at h
  rw [hy]
  exact h.rep 0 y v rfl rfl
 cases τ with
 | term=>exact agg rfl rfl
 | pair a b=>exact agg rfl rfl
 | one a=>exact agg rfl rfl
 | _=>exact one rfl rfl rfl
open Go.ChangeShapes Go.WideShapes Go.ChangeAt Go.WideMaps Go.WideElems
theorem qHS {P:Program} {n:Nat} {τ : Ty} {t:TypeId} {W:World} {yb:Nat} {v:Value} (hm:tyM P n τ t=true) (hv:Value.okWide P W .any yb t v) : τ.agg=false->∀ cs,v ≠ .agg cs:=by
 intro ha cs
 cases n with
 | zero=>cases τ <;> simp [tyM] at hm
 | succ n =>
 cases τ with
 | int k =>
   simp only [tyM] at hm
   split at hm
   ·rename_i ht;obtain ⟨_,rfl⟩:=okWide_int ht hv;intro h;cases h
   ·cases hm
 | bool =>
   simp only [tyM] at hm
   split at hm
   ·rename_i ht;obtain ⟨_,rfl⟩:=okWide_bool ht hv;intro h;cases h
   ·cases hm
 | str =>
   simp only [tyM] at hm
   split at hm
   ·rename_i ht;obtain ⟨_,rfl⟩:=okWide_string ht hv;intro h;cases h
   ·cases hm
 | list a =>
   simp only [tyM] at hm
   split at hm
   ·rename_i e ht;obtain ⟨_,_,_,rfl⟩:=okWide_slice ht hv;intro h;cases h
   ·cases hm
 | _=>cases ha
theorem arg_val {H:Type} {enc:TypeId × Value->H} {P:Program} {W:World} {n:Nat} {τ : Ty} {t:TypeId} {v:Value} {d:DataW H} {ps:List MemPlace} {yb:Nat} (hm:tyM P n τ t=true) (hs : τ.agg=true -> τ.size≠1) (hv:Value.okWide P W .any yb t v)
  (h:DataW.Trod enc P W 0 (λ _=>true) true t v d ps) (hw:∀ k∈d.weights P t,k<=reachBytes):∃ x:Val τ,Rep (ghW W) (yG τ x) v/\qlF τ x:=by
 obtain ⟨fuel,hf⟩:=h
 obtain ⟨x,h1,h2,h3⟩:=qFr fuel n τ t v.cells.toList (d,ps) hm hf hw
 exact ⟨x,qz3 h1 h2 hs (qHS hm hv),h3⟩
end Go.AmZ
