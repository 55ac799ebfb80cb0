/- Part 6 of what the proofs stand on: plain functions of the program, and that they are its functions. -/
import Derived.Test.YtinbdcelmgfniaaGreatDoorM4
import Derived.Test.YtinbdcelmgfniaaGreatDoorM3
import Derived.KernelRfl
import Derived.Shelf.SlSortCmp.NoneTotal
import Derived.Test.YtinbdcelmgfniaaGreatDoorProg
import Derived.Test.YtinbdcelmgfniaaGreatDoorM2
import Derived.Deep.RegionLaw
import Derived.Handy
import Derived.Test.YtinbdcelmgfniaaGreatDoorM1
import Derived.ProofKit
import Derived.Test.YtinbdcelmgfniaaGreatDoorRows
import Derived.Test.YtinbdcelmgfniaaGreatDoorM5
set_option linter.unusedVariables false
set_option linter.unusedSimpArgs false
noncomputable section
namespace Go.AmZ
open Go Go.GxZ
set_option linter.unusedVariables false
set_option maxRecDepth 100000
open Go.Proofs.Tryz (f3 f10 f11 f12 f13 f14 f26 f32 f33 f34 f36 f37 f38 f39 f40 f41 f42 f43 f44 f45 f46 f50 f51 f52 f55 f56 f57 f58 f62 f64 f66 f67 f68 f69 f70 f71 f72 f73 f74 f75 f76 f77 f78 f79 f80 f81 f82 f83 f84 f85 f88 f89 f90 f91 f92 f93 f95 f96 f99 f100 f101 f102 f103 f105 f106 f107 f108 f109 f110 f111 f113 f114 f115 f117 f118 f119 f120 f121 f122 f123 f126 f127 f128 f129 f130 f131 f133 f134 f135 f136 f137 f138 f141 f142 f144 f149 f150 f151 f153 f154 f155 f156 f157 f158 f159 f160 f161 f162 f163 f164 f165 f166 f167 f168 f169 f170 f171 f172 f173 f174 f177 f184 f185 f186 f187 f190 f191 f192 f194 f195 f196 f197 f198 f199 f200 f201 f202 f214 f223 f224 f227 f228 f229 f230 f241)
abbrev y13:Ty:=.int .u8
abbrev y2:Ty:=.int .i64
abbrev y6:Ty:=.list .term
abbrev y3:Ty:=.pair .term .term
abbrev y12:Ty:=.pair .str y2
abbrev y1:Ty:=.pair .term y2
abbrev y8:Ty:=.list y3
abbrev y4:Ty:=.list y1
abbrev y14:Ty:=.map y12 .term
abbrev y10:Ty:=.pair .str (.pair y2 .bool)
abbrev y7:Ty:=.pair .str (.pair y2 y2)
abbrev y11:Ty:=.list y7
abbrev y5:Ty:=.pair .str (.pair y2 (.pair y2 y2))
abbrev y9:Ty:=.list y5
def i3:FI:=⟨f3,[.val .str],[.bool],[],[],u1 law20_EnvelopeDecode⟩
def i10:FI:=⟨f10,[],[.bool],[],[],u0 qfD⟩
def i11:FI:=⟨f11,[.val .str],[.term,y2,y2],[],[],u1 qaa⟩
def i12:FI:=⟨f12,[.val .str],[.term,y2,y2],[],[],u1 qhn⟩
def i13:FI:=⟨f13,[.val .term,.val .term],[.bool],[],[],u2 QF⟩
def i14:FI:=⟨f14,[.val .term],[.str,y2],[],[],u1 qbz⟩
def i26:FI:=⟨f26,[.val y6],[y2,y2,.term,y2],[(5,[(0,.list .term),(4,.box [.keep,.keep,.keep,.row .term false]),(20,.keep),(21,.keep)]),(9,[(0,.list .term),(4,.box [.keep,.keep,.keep,.row .term false]),(7,.keep),(8,.box [.keep,.keep,.keep,.list .term]),(9,.keep),(20,.keep),(21,.keep)])],[],u1 qfo⟩
def i32:FI:=⟨f32,[.val .str,.val y6],[.term],[],[],u2 yI⟩
def i33:FI:=⟨f33,[.val .str,.val y2],[.term],[],[],u2 qjK⟩
def i34:FI:=⟨f34,[.val .str,.val y2],[.term],[],[],u2 qlR⟩
def i36:FI:=⟨f36,[.val .term],[y2],[],[],u1 zj⟩
def i37:FI:=⟨f37,[.val .term],[.bool],[],[],u1 qeu⟩
def i38:FI:=⟨f38,[.val .str,.val y2],[.term,y2,.bool],[(12,[(0,.keep),(4,.box [.keep,.keep,.keep,.row .term false]),(7,.box [.keep,.keep,.keep,.row .term false]),(8,.keep),(9,.keep),(11,.keep)])],[],u2 qY⟩
def i39:FI:=⟨f39,[.val .term],[y2],[(3,[(1,.box [.keep,.keep,.keep,.list .term]),(3,.keep),(4,.keep)])],[],u1 je⟩
def i40:FI:=⟨f40,[.val .term],[y2],[(3,[(1,.box [.keep,.keep,.keep,.list .term]),(3,.keep),(4,.keep)])],[],u1 jr⟩
def i41:FI:=⟨f41,[.val .term],[y2],[],[],u1 qfA⟩
def i42:FI:=⟨f42,[.val .term],[.bool],[(6,[(5,.list .term),(6,.keep)])],[],u1 qis⟩
def i43:FI:=⟨f43,[.val .term,.val .term],[y2],[(18,[(2,.box [.keep,.keep,.keep,.list .term]),(3,.box [.keep,.keep,.keep,.list .term]),(9,.keep)])],[],u2 zQ⟩
def i44:FI:=⟨f44,[.val .term],[y2],[],[],u1 qaN⟩
def i45:FI:=⟨f45,[.val .term],[y6],[],[],u1 qmA⟩
def i46:SI:=⟨f46,[.row y13,.val .term],[.one (.row y13)],[(8,[(0,.row y13 false),(46,.list .term),(47,.keep),(48,.keep)])],[],u2 z8⟩
def i50:FI:=⟨f50,[.val y6],[y2],[(4,[(9,.list .term),(10,.keep),(11,.keep)])],[],u1 qjy⟩
def i51:FI:=⟨f51,[.val y2],[.str],[],[],u1 qlk⟩
def i52:FI:=⟨f52,[.val y8,.val .term],[.term],[(2,[(0,.list y3),(3,.box [.keep,.keep,.keep,.list .term]),(4,.box [.keep,.keep,.keep,.row .term false]),(10,.list y3),(11,.keep),(12,.keep)]),(10,[(0,.list y3),(4,.box [.keep,.keep,.keep,.row .term false]),(7,.box [.keep,.keep,.keep,.row .term false]),(27,.list .term),(28,.keep),(29,.keep)])],[],u2 qej⟩
def i55:FI:=⟨f55,[.val .term],[y2],[],[],u1 jt⟩
def i56:SI:=⟨f56,[.val .term,.val .str,.box [.val (.map .str .str)]],[.one (.val .term)],[(9,[(1,.keep),(2,.box []),(6,.box [.keep,.keep,.keep,.row .term false]),(7,.box [.keep,.keep,.keep,.row .term false]),(38,.list .term),(39,.keep),(40,.keep)])],[],u3 qcq⟩
def i57:FI:=⟨f57,[.val .term,.val .term],[y8,y2],[],[],u2 qs0⟩
def i58:FI:=⟨f58,[.val .term],[y2],[],[],u1 qlc⟩
def i62:FI:=⟨f62,[.val .term],[y6],[(3,[(1,.box [.keep,.keep,.keep,.list .term]),(3,.row .term true),(4,.keep)])],[],u1 QT⟩
def i64:FI:=⟨f64,[.val .str],[y2],[(3,[(0,.keep),(3,.list y5),(4,.keep)])],[],u1 qeP⟩
def i66:FI:=⟨f66,[.val .str],[.bool],[],[],u1 qf3⟩
def i67:SI:=⟨f67,[.box [.val y10]],[.agg [.val y2,.val .str,.val y2,.row .term,.val y2]],[],[],u1 qx⟩
def i68:SI:=⟨f68,[.val .term,.val y2,.box [.val y2],.box [.val y2]],[.one (.val y2)],[(17,[(1,.keep),(2,.box [.keep]),(3,.box [.keep]),(57,.list .term),(58,.keep),(59,.keep)])],[],u4 yh⟩
def i69:FI:=⟨f69,[.val .term],[.term,y2],[],[],u1 qfT⟩
def i70:FI:=⟨f70,[.val .term,.val .term],[.bool],[],[],u2 JL⟩
def i71:FI:=⟨f71,[.val .term,.fn],[.bool],[(4,[(1,.keep),(18,.list .term),(19,.keep),(20,.keep)])],[],u1 zi⟩
def qF6:FI:=⟨f71,[.val .term,.fn],[.bool],[(4,[(1,.keep),(18,.list .term),(19,.keep),(20,.keep)])],[],u1 qbf⟩
def i72:FI:=⟨f72,[.val .str],[.bool],[],[],u1 qfc⟩
def i73:FI:=⟨f73,[.val .str],[y5],[(2,[(0,.keep),(2,.box [.keep,.keep,.keep,.keep]),(5,.list y5),(6,.keep),(7,.keep)])],[],u1 qbw⟩
def i74:FI:=⟨f74,[.val .str,.val y2],[.term,y2,.bool],[(8,[(0,.keep),(1,.keep),(4,.box [.keep,.keep,.keep,.row .term false]),(7,.box [.keep,.keep,.keep,.row .term false]),(8,.keep),(9,.keep)])],[],u2 qdf⟩
def i75:FI:=⟨f75,[],[(.list .str)],[],[],u0 qmY⟩
def i76:FI:=⟨f76,[.val .str,.val y2,.val .str],[y2,y2,.bool],[(4,[(0,.keep),(1,.keep),(2,.keep),(9,.list y5),(10,.keep)])],[],u3 qdd⟩
def i77:FI:=⟨f77,[.val .term],[y2],[(11,[(1,.box [.keep,.keep,.keep,.list .term]),(4,.keep)])],[],u1 jq⟩
def i78:FI:=⟨f78,[.val .term],[.term,y2],[],[],u1 qhb⟩
def i79:FI:=⟨f79,[.val y2,.val y2],[y2],[],[],u2 qa0⟩
def i80:FI:=⟨f80,[.val .term],[y2],[(13,[(1,.box [.keep,.keep,.keep,.list .term]),(38,.list .term),(39,.keep),(40,.keep)]),(22,[(62,.list .term),(63,.keep),(64,.keep)])],[],u1 qE⟩
def i81:FI:=⟨f81,[.val .term,.val y2],[y6],[],[],u2 qm5⟩
def i82:SI:=⟨f82,[.val y11,.clo 84 1,.box [.val .term]],[.one (.val y2)],[(2,[(0,.list y7),(1,.fn [.box [.keep,.keep,.keep,.list .term]]),(7,.keep),(8,.keep)])],[],u2 zc⟩
def i83:FI:=⟨f83,[],[y11],[],[],u0 yr⟩
def i84:SI:=⟨f84,[.val y7,.box [.val .term]],[.one (.val .bool)],[],[],u2 qcK⟩
def i85:FI:=⟨f85,[.val y7],[.bool],[],[],u1 yz⟩
def i88:FI:=⟨f88,[.val y2],[.str],[],[],u1 qgD⟩
def i89:FI:=⟨f89,[.val .term,.val .term],[y2],[(11,[(2,.box [.keep,.keep,.keep,.list .term]),(3,.box [.keep,.keep,.keep,.list .term]),(5,.keep),(6,.keep)])],[],u2 qy⟩
def i90:FI:=⟨f90,[.val .term],[y2],[(5,[(1,.box [.keep,.keep,.keep,.list .term]),(4,.keep)])],[],u1 jL⟩
def i91:FI:=⟨f91,[.val .term,.val .term],[y2],[],[],u2 qsZ⟩
def i92:FI:=⟨f92,[.val y8],[y8,y2],[(2,[(4,.box [.list y3,.row y3 false])])],[],u1 qs2⟩
def i93:FI:=⟨f93,[.val .term],[.bool],[],[],u1 qsX⟩
def i95:FI:=⟨f95,[.val .term],[y12],[],[],u1 qrD⟩
def i96:FI:=⟨f96,[.val .term,.val .term],[.bool],[],[],u2 qox⟩
def i99:FI:=⟨f99,[],[y9],[],[],u0 qfL⟩
def qO8:SI:=⟨f100,[.box [.val y10],.val y2,.val y2],[.one (.val y2)],[],[],u3 zl⟩
def qJy:SI:=⟨f101,[.box [.val y10]],[.one (.val .str)],[(4,[(0,.box [.keep,.keep,.keep]),(4,.keep),(14,.keep),(15,.keep)])],[],u1 Jg⟩
def qJw:FI:=⟨f102,[.val .str],[.bool],[(4,[(0,.keep),(38,.keep),(39,.keep)])],[],u1 qdz⟩
def qKS:FI:=⟨f103,[.val .term],[.term,y2],[(5,[(1,.box [.keep,.keep,.keep,.list .term]),(2,.box [.keep,.keep,.keep,.row .term false]),(4,.box [.keep,.keep,.keep,.row .term false]),(19,.list .term),(20,.keep),(21,.keep)])],[],u1 yC⟩
def qK4:FI:=⟨f105,[.val .str],[.bool],[(4,[(0,.keep),(3,.keep)])],[],u1 J5⟩
def qKn:FI:=⟨f106,[.val .term],[.bool],[(3,[(1,.box [.keep,.keep,.keep,.list .term]),(3,.list y5),(4,.keep)])],[],u1 qjD⟩
def qLq:FI:=⟨f107,[.val .term],[.bool],[(4,[(1,.box [.keep,.keep,.keep,.list .term]),(3,.keep)])],[],u1 qgW⟩
def qLD:FI:=⟨f108,[.val .term],[.term,y2],[(5,[(1,.box [.keep,.keep,.keep,.list .term]),(2,.box [.keep,.keep,.keep,.row .term false]),(4,.row .term false),(5,.keep)])],[],u1 jn⟩
def qLc:SI:=⟨f109,[.val .term,.clo 110 2,.box [.val y2],.box [.row .term]],[],[(3,[(1,.fn [.box [.keep],.box [.row .term false]]),(10,.list .term),(11,.keep),(12,.keep)])],[],u3 zC⟩
def qNM:SI:=⟨f110,[.val .term,.box [.val y2],.box [.row .term]],[],[],[],u3 qat⟩
def qKC:SI:=⟨f111,[.row .term],[.one (.row .term)],[(4,[(0,.row .term false),(9,.keep),(10,.keep)])],[],u1 qhe⟩
def qNX:FI:=⟨f113,[.val y2,.val y2],[.str],[],[],u2 qds⟩
def qPe:FI:=⟨f114,[.val y2,.val y2],[y2],[],[],u2 qel⟩
def qLr:FI:=⟨f115,[.val .term],[y2],[(3,[(3,.keep),(7,.list .term),(8,.keep),(9,.keep)])],[],u1 Qq⟩
def qOk:FI:=⟨f117,[.val .term],[y2],[],[],u1 qjX⟩
def qJE:SI:=⟨f118,[.box [.val y8,.row y3]],[.one (.val y2)],[(8,[(0,.box [.list y3,.row y3 false]),(3,.box [.keep,.keep,.keep,.list .term]),(4,.box [.keep,.keep,.keep,.list .term]),(5,.row y3 false),(39,.keep),(40,.keep)])],[],u1 qkD⟩
def qOp:SI:=⟨f119,[.row y3],[.one (.row y3)],[],[],u1 qlK⟩
def qOO:FI:=⟨f120,[.val .str],[.bool],[],[],u1 qpy⟩
def qN3:FI:=⟨f121,[.val .term],[.bool],[],[],u1 qdy⟩
def qOd:FI:=⟨f122,[.val .term,.val .term],[.bool],[],[],u2 qow⟩
def qOR:FI:=⟨f123,[.val .term,.val .term],[.bool],[],[],u2 qs1⟩
def qO4:FI:=⟨f126,[.val y13],[.bool],[],[],u1 qiC⟩
def qOr:FI:=⟨f127,[.val .term],[.term],[],[],u1 qcF⟩
def qLb:FI:=⟨f128,[.val y6],[.term,y2],[(6,[(2,.box [.keep,.keep,.keep,.row .term true]),(5,.list .term),(15,.list .term),(16,.keep),(17,.keep)])],[],u1 qsr⟩
def qN7:FI:=⟨f129,[.val .term],[y4,y2],[],[],u1 qbU⟩
def qDl:FI:=⟨f130,[.val y4],[.term,y2],[(6,[(2,.box [.keep,.keep,.keep,.row .term false]),(5,.row .term false),(6,.row .term false),(18,.list y1),(19,.keep),(20,.keep)]),(11,[(2,.box [.keep,.keep,.keep,.row .term false]),(5,.row .term false),(6,.row .term false),(8,.box [.keep,.keep,.keep,.list .term,.keep]),(18,.list y1),(19,.keep),(20,.keep),(34,.keep),(35,.keep)]),(15,[(2,.box [.keep,.keep,.keep,.row .term false]),(5,.row .term false),(6,.row .term false),(8,.box [.keep,.keep,.keep,.list .term,.keep]),(18,.list y1),(19,.keep),(20,.keep),(46,.keep),(47,.keep)])],[],u1 Jn⟩
def qPi:FI:=⟨f131,[.val .term,.val .term],[.term,y2],[],[],u2 qg4⟩
def qNS:FI:=⟨f133,[.val y13],[.bool],[],[],u1 qes⟩
def qN1:FI:=⟨f134,[.val y13],[.bool],[],[],u1 qiw⟩
def qOI:FI:=⟨f135,[.val .term],[.term,.bool],[],[],u1 qfS⟩
def qJO:FI:=⟨f136,[.val y6],[.term,y2],[(6,[(0,.list .term),(2,.box [.keep,.keep,.keep,.row .term true]),(5,.list .term),(6,.keep)])],[],u1 qmu⟩
def qPp:FI:=⟨f137,[.val .term],[.term,y2],[],[],u1 qdr⟩
def qNU:FI:=⟨f138,[.val .term,.val .term],[.term,y2],[],[],u2 qix⟩
def qOu:FI:=⟨f141,[.val .term,.val .term],[.bool],[],[],u2 jg⟩
def qLn:FI:=⟨f142,[.val .term],[.term],[(4,[(1,.box [.keep,.keep,.keep,.row .term false]),(2,.box [.keep,.keep,.keep,.row .term false]),(9,.list .term),(10,.keep),(11,.keep)])],[],u1 jD⟩
def qNW:FI:=⟨f144,[.val y2],[.str],[],[],u1 qfF⟩
def qOm:SI:=⟨f149,[.box [.val y8,.row y3],.val .term,.val .term],[.one (.val y2)],[],[],u3 ql2⟩
def qOG:FI:=⟨f150,[.val .term,.val .term],[.bool],[],[],u2 qeg⟩
def qGX:SI:=⟨f151,[.box [.val y8,.row y3],.val .term,.val .term],[.one (.val y2)],[(6,[(0,.box [.list y3,.row y3 false]),(4,.box [.keep,.keep,.keep,.list .term]),(5,.box [.keep,.keep,.keep,.list .term]),(8,.box [.keep]),(9,.fn [.box [.box []],.box []]),(10,.row y3 false),(25,.keep),(26,.keep)]),(12,[(0,.box [.list y3,.row y3 false]),(4,.box [.keep,.keep,.keep,.list .term]),(5,.box [.keep,.keep,.keep,.list .term]),(8,.box [.keep]),(9,.fn [.box [.box []],.box []]),(10,.row y3 false),(46,.keep),(47,.keep)])],[],u3 qaK⟩
def qN0:FI:=⟨f153,[.val y3,.val y3],[y2],[],[],u2 qfk⟩
def qPw:FI:=⟨f154,[.val .term,.val .str],[.bool],[],[],u2 jw⟩
def qKr:FI:=⟨f155,[.val y6,.val y6],[y2],[(4,[(14,.list .term),(15,.keep),(16,.keep)])],[],u2 qmk⟩
def qKu:FI:=⟨f156,[.val y6,.val y6],[y6],[(2,[(0,.list .term),(1,.list .term),(5,.row .term false)])],[],u2 qkr⟩
def qJF:FI:=⟨f157,[.val .term],[y6],[(6,[(3,.list .term),(31,.list .term),(32,.keep),(33,.keep)])],[],u1 yF⟩
def qKg:FI:=⟨f158,[.val y6],[y6],[(3,[(3,.row .term false),(9,.list .term),(10,.keep),(11,.keep)])],[],u1 J7⟩
def qJC:SI:=⟨f159,[.row y1,.val .term,.val y2],[.one (.row y1),.one (.val .bool)],[(12,[(0,.row y1 false),(2,.keep),(52,.list .term),(53,.keep),(54,.keep)])],[],u3 zy⟩
def qJP:FI:=⟨f160,[.val y4],[y2],[(4,[(0,.list y1),(9,.list y1),(10,.keep),(11,.keep)])],[],u1 qaG⟩
def qJv:FI:=⟨f161,[.val .term],[.term],[(3,[(1,.box [.keep,.keep,.keep,.row .term false]),(2,.box [.keep,.keep,.keep,.row .term false]),(10,.row .term false),(11,.keep),(12,.keep)])],[],u1 zA⟩
def qN4:FI:=⟨f162,[.val .str,.val y6],[.term],[],[],u2 qeq⟩
def qGc:FI:=⟨f163,[.val (.list y6)],[y6],[(3,[(0,.list y6),(3,.keep),(9,.list y6),(10,.keep),(11,.keep)]),(11,[(6,.row .term false),(25,.list y6),(26,.keep),(27,.keep)])],[],u1 zV⟩
def qLI:FI:=⟨f164,[.val y4,.val y4],[y4,y2],[(9,[(8,.row y1 false),(23,.list y1),(24,.keep),(25,.keep)])],[],u2 qgI⟩
def qOc:FI:=⟨f165,[.val .str,.val y6],[.term],[],[],u2 qgQ⟩
def qO2:FI:=⟨f166,[.val .term,.val .str],[.bool],[],[],u2 qb2⟩
def qLO:FI:=⟨f167,[.val y6,.val .term],[y2],[(4,[(0,.list .term),(3,.box [.keep,.keep,.keep,.list .term]),(5,.keep)])],[],u2 qio⟩
def qOw:FI:=⟨f168,[],[.term],[],[],u0 qjB⟩
def qKd:FI:=⟨f169,[.val y6,.val y6],[y6],[(3,[(1,.list .term),(5,.plist .term),(6,.keep)])],[],u2 qgM⟩
def qJH:FI:=⟨f170,[.val .term],[y6],[(7,[(1,.box [.keep,.keep,.keep,.list .term]),(3,.list .term),(4,.keep)])],[],u1 ya⟩
def qOb:FI:=⟨f171,[.val y6],[.term],[],[],u1 qj1⟩
def qPf:FI:=⟨f172,[.val .term],[y4,y2],[],[],u1 qh6⟩
def qPn:FI:=⟨f173,[.val y4],[.term,y2],[],[],u1 qc0⟩
def qLM:FI:=⟨f174,[.val y4,.val y4],[y4,y2],[(9,[(1,.list y1),(8,.row y1 false),(9,.keep)])],[],u2 qme⟩
def qKj:FI:=⟨f177,[.val y6,.val .term],[y6],[(4,[(0,.list .term),(3,.box [.keep,.keep,.keep,.list .term]),(5,.row .term false),(6,.keep),(7,.keep)])],[],u2 qmf⟩
def qPm:SI:=⟨f184,[.val y6,.clo 185 1,.box [.val .term]],[.one (.val .bool)],[],[],u2 yE⟩
def qPg:SI:=⟨f185,[.val .term,.box [.val .term]],[.one (.val .bool)],[],[],u2 qdF⟩
def qJq:SI:=⟨f187,[.box [.val y14],.val .term],[.one (.val .term)],[(10,[(0,.box []),(3,.box [.keep,.keep,.keep,.list .term]),(4,.box [.keep,.keep,.keep,.row .term false]),(7,.row .term false),(32,.list .term),(33,.keep),(34,.keep)])],[],u2 qek⟩
def qKc:FI:=⟨f190,[.val .term,.val (.list y2),.val .term],[.term,y2],[(4,[(5,.box [.keep,.keep,.keep,.list .term]),(6,.box [.keep,.keep,.keep,.row .term false]),(8,.box [.keep,.keep,.keep,.list .term]),(9,.box []),(14,.list y2),(15,.keep),(16,.keep)])],[],u3 qhp⟩
def qPt:FI:=⟨f191,[.val .term],[.bool],[],[],u1 qbF⟩
def qOh:SI:=⟨f192,[.row y1,.val y1],[.one (.row y1)],[],[],u2 qbC⟩
def qJ4:SI:=⟨f194,[.val y4],[.one (.row y1)],[(3,[(3,.row y1 false),(6,.list y1),(7,.keep),(8,.keep)])],[],u1 qdT⟩
def qPy:FI:=⟨f195,[.val y4],[y4,y2],[],[],u1 qd2⟩
def qKv:FI:=⟨f196,[.val y6,.val .term],[y6],[(5,[(0,.list .term),(3,.box [.keep,.keep,.keep,.list .term]),(5,.row .term false),(6,.keep)])],[],u2 qhx⟩
def qLH:FI:=⟨f197,[.val .term],[.bool],[(7,[(1,.box [.keep,.keep,.keep,.list .term]),(3,.keep),(4,.keep)])],[],u1 jp⟩
def qL0:SI:=⟨f198,[.row y1,.val .term,.val y2],[.one (.row y1)],[(6,[(0,.row y1 false),(2,.keep),(4,.box [.keep,.keep,.keep,.list .term]),(7,.keep)])],[],u3 yo⟩
def qKy:FI:=⟨f199,[.val y4],[y2],[(4,[(0,.list y1),(3,.keep)])],[],u1 qdx⟩
def qxd:FI:=⟨f200,[.val y4],[y6],[(3,[(0,.list y1),(3,.row .term false),(4,.keep)]),(6,[(0,.list y1),(3,.row .term false),(4,.keep),(5,.keep)]),(10,[(0,.list y1),(3,.row .term false),(6,.keep)]),(13,[(0,.list y1),(3,.row .term false),(6,.keep),(7,.keep)])],[],u1 qeL⟩
def qKs:SI:=⟨f201,[.row y1,.val .term,.val y2],[.one (.row y1)],[(4,[(0,.row y1 false),(2,.keep),(4,.box [.keep,.keep,.keep,.list .term]),(7,.row y1 false),(8,.keep),(9,.keep)])],[],u3 qiJ⟩
def qKZ:FI:=⟨f202,[.val y4],[y2],[(2,[(0,.list y1),(3,.keep)])],[],u1 qfQ⟩
def qJ0:SI:=⟨f214,[.val y6,.clo 185 1,.box [.val .term]],[.one (.val y2)],[(2,[(0,.list .term),(1,.fn [.box [.keep,.keep,.keep,.list .term]]),(7,.keep),(8,.keep)])],[],u2 jk⟩
def qKz:FI:=⟨f223,[.val y4,.val .term,.fn],[y2,.bool],[(3,[(0,.list y1),(2,.keep),(4,.box [.keep,.keep,.keep,.list .term]),(8,.keep),(9,.keep),(10,.keep)])],[],u2 qM⟩
def qOY:FI:=⟨f224,[.val y1,.val .term],[y2],[],[],u2 qal⟩
def qOi:FI:=⟨f227,[.val y4,.fn],[.bool],[],[],u1 zM⟩
def qPD:FI:=⟨f228,[.val y1],[.bool],[],[],u1 qcl⟩
def qLV:FI:=⟨f229,[.val y6,.val .term],[.bool],[(2,[(0,.list .term),(3,.box [.keep,.keep,.keep,.list .term]),(5,.keep)])],[],u2 qmy⟩
def qOf:FI:=⟨f230,[.val .term],[.bool],[],[],u1 qbu⟩
def qKl:FI:=⟨f241,[.val y4,.fn],[y2],[(2,[(0,.list y1),(1,.keep),(7,.keep),(8,.keep)])],[],u1 zX⟩
def elT(f:Nat):Option Ty:=
cond (Nat.blt f 107)
 (cond (Nat.blt f 73)
 (cond (Nat.blt f 48)
 (cond (Nat.beq f 23) (some .term) (none))
 (cond (Nat.blt f 66)
 (cond (Nat.beq f 48) (some y3) (none))
 (cond (Nat.beq f 66) (some y13) (none))))
 (cond (Nat.blt f 90)
 (cond (Nat.blt f 81)
 (cond (Nat.beq f 73) (some (.map .str .str)) (none))
 (cond (Nat.beq f 81) (some y1) (none)))
 (cond (Nat.blt f 97)
 (cond (Nat.beq f 90) (some .str) (none))
 (cond (Nat.beq f 97) (some y7) (none)))))
 (cond (Nat.blt f 118)
 (cond (Nat.blt f 108)
 (cond (Nat.beq f 107) (some y3) (none))
 (cond (Nat.blt f 113)
 (cond (Nat.beq f 108) (some y14) (none))
 (cond (Nat.beq f 113) (some y3) (none))))
 (cond (Nat.blt f 180)
 (cond (Nat.blt f 134)
 (cond (Nat.beq f 118) (some y5) (none))
 (cond (Nat.beq f 134) (some y1) (none)))
 (cond (Nat.blt f 201)
 (cond (Nat.beq f 180) (some y6) (none))
 (cond (Nat.beq f 201) (some y2) (none)))))
def tb:Tb:=⟨tyT,elT,.node 118 (.node 73 (.node 43 (.node 33 (.node 13 (.node 11 (.node 10 (tL 3 (eP i3)) .leaf (eP i10)) (tL 12 (eP i12)) (eP i11)) (.node 26 (.node 23 (tL 14 (eP i14)) .leaf (.hs ⟨[.val y6],[.one (.row .term)],λ x=>zY 0 x.1⟩)) (tL 32 (eP i32)) (eP i26)) (eP i13)) (.node 38 (.node 36 (.node 35 (tL 34 (eP i34)) .leaf (.hx λ m=>⟨[.box [.val RD]],[.one (.val .term)],λ x=>jE m x.1⟩)) (tL 37 (eP i37)) (eP i36)) (.node 41 (.node 40 (tL 39 (eP i39)) .leaf (eP i40)) (tL 42 (eP i42)) (eP i41)) (eP i38)) (eP i33)) (.node 58 (.node 51 (.node 46 (.node 45 (tL 44 (eP i44)) .leaf (eP i45)) (tL 50 (eP i50)) (eS i46)) (.node 56 (.node 55 (tL 52 (eP i52)) .leaf (eP i55)) (tL 57 (eP i57)) (eS i56)) (eP i51)) (.node 68 (.node 66 (.node 64 (tL 62 (eP i62)) .leaf (eP i64)) (tL 67 (eS i67)) (eP i66)) (.node 71 (.node 70 (tL 69 (eP i69)) .leaf (eP i70)) (tL 72 (eP i72)) (.pure [([72],i71),([120],qF6)])) (eS i68)) (eP i58)) (eP i43)) (.node 96 (.node 83 (.node 78 (.node 76 (.node 75 (tL 74 (eP i74)) .leaf (eP i75)) (tL 77 (eP i77)) (eP i76)) (.node 81 (.node 80 (tL 79 (eP i79)) .leaf (eP i80)) (tL 82 (eS i82)) (eP i81)) (eP i78)) (.node 90 (.node 88 (.node 85 (tL 84 (eS i84)) .leaf (eP i85)) (tL 89 (eP i89)) (eP i88)) (.node 93 (.node 92 (tL 91 (eP i91)) .leaf (eP i92)) (tL 95 (eP i95)) (eP i93)) (eP i90)) (eP i83)) (.node 108 (.node 103 (.node 101 (.node 100 (tL 99 (eP i99)) .leaf (eS qO8)) (tL 102 (eP qJw)) (eS qJy)) (.node 106 (.node 105 (.node 104 .leaf .leaf (.hp ⟨[],[y9],λ x=>qhY 0⟩)) .leaf (eP qK4)) (tL 107 (eP qLq)) (eP qKn)) (eP qKS)) (.node 114 (.node 111 (.node 110 (tL 109 (eS qLc)) .leaf (eS qNM)) (tL 113 (eP qNX)) (eS qKC)) (.node 116 (tL 115 (eP qLr)) (tL 117 (eP qOk)) (.hp ⟨[.val .str,.val .str],[y2],λ x=>strings_Compare 0 x.1 x.2.1⟩)) (eP qPe)) (eP qLD)) (eP i96)) (eP i73)) (.node 165 (.node 141 (.node 130 (.node 123 (.node 121 (.node 120 (tL 119 (eS qOp)) .leaf (eP qOO)) (tL 122 (eP qOd)) (eP qN3)) (.node 128 (.node 127 (tL 126 (eP qO4)) .leaf (eP qOr)) (tL 129 (eP qN7)) (eP qLb)) (eP qOR)) (.node 136 (.node 134 (.node 133 (tL 131 (eP qPi)) .leaf (eP qNS)) (tL 135 (eP qOI)) (eP qN1)) (.node 139 (.node 138 (tL 137 (eP qPp)) .leaf (eP qNU)) (.node 140 .leaf .leaf (.hx λ m=>⟨[.row .term,.clo 141 0],[.one (.row .term)],λ x=>qK m x.1⟩)) (.hm λ m=>⟨.term,[.clo 89 0],λ x=>zd m x.1⟩)) (eP qJO)) (eP qDl)) (.node 156 (.node 151 (.node 149 (.node 144 (tL 142 (eP qLn)) .leaf (eP qNW)) (tL 150 (eP qOG)) (eS qOm)) (.node 154 (.node 153 (.node 152 .leaf .leaf (.hm λ m=>⟨y3,[.clo 153 0],λ x=>yy m x.1⟩)) .leaf (eP qN0)) (tL 155 (eP qKr)) (eP qPw)) (eS qGX)) (.node 161 (.node 159 (.node 158 (tL 157 (eP qJF)) .leaf (eP qKg)) (tL 160 (eP qJP)) (eS qJC)) (.node 163 (tL 162 (eP qN4)) (tL 164 (eP qLI)) (eP qGc)) (eP qJv)) (eP qKu)) (eP qOu)) (.node 194 (.node 177 (.node 170 (.node 168 (.node 167 (tL 166 (eP qO2)) .leaf (eP qLO)) (tL 169 (eP qKd)) (eP qOw)) (.node 173 (.node 172 (tL 171 (eP qOb)) .leaf (eP qPf)) (tL 174 (eP qLM)) (eP qPn)) (eP qJH)) (.node 188 (.node 186 (.node 185 (tL 184 (eS qPm)) .leaf (eS qPg)) (tL 187 (eS qJq)) (.il f186)) (.node 192 (.node 191 (tL 190 (eP qKc)) .leaf (eP qPt)) (.node 193 .leaf .leaf (.hs ⟨[.nil,.val y2],[.one (.row .term)],λ x=>yT 0 x.1⟩)) (eS qOh)) (.hs ⟨[.val y8],[.one (.row y3)],λ x=>jd 0 x.1⟩)) (eP qKj)) (.node 223 (.node 199 (.node 197 (.node 196 (tL 195 (eP qPy)) .leaf (eP qKv)) (tL 198 (eS qL0)) (eP qLH)) (.node 202 (.node 201 (tL 200 (eP qxd)) .leaf (eS qKs)) (tL 214 (eS qJ0)) (eP qKZ)) (eP qKy)) (.node 228 (.node 226 (.node 225 (tL 224 (eP qOY)) .leaf (.hs ⟨[.row y1,.val y2,.val y4],[.one (.row y1)],λ x=>zH 0 x.1 x.2.1 x.2.2.1⟩)) (tL 227 (.pure [([228],qOi)])) (.hs ⟨[.row y1,.val y2,.val y2],[.one (.row y1)],λ x=>zG 0 x.1 x.2.1 x.2.2.1⟩)) (.node 230 (tL 229 (eP qLV)) (tL 241 (.pure [([228],qKl)])) (eP qOf)) (eP qPD)) (.pure [([224],qKz)])) (eS qJ4)) (eP qOc)) (eS qJE)⟩
end Go.AmZ
namespace Go.AmZ
open Go Go.GxZ
set_option linter.unusedVariables false
set_option maxRecDepth 100000
theorem qpT:okP tb [] i83:=λ m a=>by kernel_rfl
theorem qi7:okP tb [] i85:=λ m a=>by kernel_rfl
theorem qlu:okS tb qO8:=λ m a=>by kernel_rfl
def qfh(m k x0 x1 x2 x3 x4 x5):=tb.QL qJy 4 m k [(0,.ptr 0 0),(4,vI x0),(14,vI x1),(15,vI x2)] ⟨[[.s x3,vI x4,.b x5]],[]⟩
theorem qk8(m k):yj m k=qfh m k:=zb (M:=qfh m) rfl (λ _=>by kernel_rfl) k
theorem qlw:okS tb qJy:=λ m a=>(congrArg (λ L=>Ju m L a.1) (qk8 m m)).trans (by kernel_rfl)
theorem qlx:okS tb i67:=λ m a=>by kernel_rfl
theorem qBr:okP tb [] qO4:=λ m a=>by kernel_rfl
def qnQ(m k x0 x1 x2):=tb.PL qJw 4 m k [(0,.s x0),(38,vI x1),(39,vI x2)] ⟨[],[]⟩
theorem qvU(m k):QE m k=qnQ m k:=zb (M:=qnQ m) rfl (λ _=>by kernel_rfl) k
theorem qxG:okP tb [] qJw:=λ m a=>(congrArg (λ L=>qeX m L a.1) (qvU m m)).trans (by kernel_rfl)
def qpF(m k x0 x1 x2 x3 x4 x5):=tb.QL i68 17 m k [(1,vI x0),(2,.ptr 0 0),(3,.ptr 1 0),(57,vT x1),(58,vI x2),(59,vI x3)] ⟨[[vI x4],[vI x5]],[]⟩
theorem qxZ(m k):jJ m (yh m) k=qpF m k:=zb (M:=qpF m) rfl (λ _=>by kernel_rfl) k
theorem qzR:okS tb i68:=λ m a=>(congrArg (λ L=>qf5 m (yh m) L a.1 a.2.1 a.2.2.1 a.2.2.2.1) (qxZ m m)).trans (by kernel_rfl)
theorem qzH:okP tb [] i36:=λ m a=>by kernel_rfl
def qkG(m k x0 x1 x2 x3 x4 x5 x6 x7):=tb.PL i73 2 m k [(0,.s x0),(2,.ptr 0 0),(5,.sl y5 x1 1),(6,vI x2),(7,vI x3)] ⟨[[.s x4,vI x5,vI x6,vI x7]],[]⟩
theorem qsJ(m k):Jb m k=qkG m k:=zb (M:=qkG m) rfl (λ _=>by kernel_rfl) k
theorem qtb:okP tb [] i73:=λ m a=>(congrArg (λ L=>qdh m L a.1) (qsJ m m)).trans (by kernel_rfl)
def ql1(m k x0 x1 x2 x3 x4 x5 x6):=tb.PL i80 13 m k [(1,.ptr 0 0),(38,vT x0),(39,vI x1),(40,vI x2)] ⟨[[vI x3,.s x4,vI x5,vT x6]],[]⟩
def qmq(m k x0 x1 x2):=tb.PL i80 22 m k [(62,vT x0),(63,vI x1),(64,vI x2)] ⟨[],[]⟩
theorem qtH(m k):qZ m (qE m) k=(ql1 m k,qmq m k):=zb (M:=λ k=>(ql1 m k,qmq m k)) rfl (λ _=>by kernel_rfl) k
theorem qwj:okP tb [] i80:=λ m a=>(congrArg (a₁:=qZ m (qE m) m) (λ L=>qdV m (qE m) L.1 L.2 a.1) (qtH m m)).trans (by kernel_rfl)
theorem qwE:okP tb [] i44:=λ m a=>by kernel_rfl
theorem qA4:okP tb [] qPe:=λ m a=>by kernel_rfl
def qp6(m k x0 x1 x2 x3):=tb.PL qLr 3 m k [(3,vI x0),(7,vT x1),(8,vI x2),(9,vI x3)] ⟨[],[]⟩
theorem qAb(m k):qbW m (Qq m) k=qp6 m k:=zb (M:=qp6 m) rfl (λ _=>by kernel_rfl) k
theorem qBB:okP tb [] qLr:=λ m a=>(congrArg (λ L=>qhd m (Qq m) L a.1) (qAb m m)).trans (by kernel_rfl)
def qlE(m k x0 x1 x2 x3 x4 x5 x6 x7 x8 x9):=tb.PL i89 11 m k [(2,.ptr 0 0),(3,.ptr 1 0),(5,vI x0),(6,vI x1)] ⟨[[vI x2,.s x3,vI x4,vT x5],[vI x6,.s x7,vI x8,vT x9]],[]⟩
theorem quA(m k):Qg m (qy m) k=qlE m k:=zb (M:=qlE m) rfl (λ _=>by kernel_rfl) k
theorem qvF:okP tb [] i89:=λ m a=>(congrArg (λ L=>qdZ m (qy m) L a.1 a.2.1) (quA m m)).trans (by kernel_rfl)
theorem qwT:okP tb [] i70:=λ m a=>by kernel_rfl
theorem qDv:okP tb [] qPw:=λ m a=>by kernel_rfl
theorem qsN:okP tb [] qOr:=λ m a=>by kernel_rfl
def qak(m k x0 x1 x2 x3 x4):=tb.PL qGc 3 m k [(0,.sl y6 x0 1),(3,vI x1),(9,.sl y6 x2 1),(10,vI x3),(11,vI x4)] ⟨[],[]⟩
def qan(m k x0 x1 x2 x3):=tb.PL qGc 11 m k [(6,.row 0 0),(25,.sl y6 x0 1),(26,vI x1),(27,vI x2)] ⟨[],[⟨.term,x3,0,0,false⟩]⟩
theorem qe2(m k):qn m k=(qak m k,qan m k):=zb (M:=λ k=>(qak m k,qan m k)) rfl (λ _=>by kernel_rfl) k
theorem qft:okP tb [] qGc:=λ m a=>(congrArg (a₁:=qn m m) (λ L=>jf m L.1 L.2 a.1) (qe2 m m)).trans (by kernel_rfl)
def qrp(m k x0 x1 x2):=tb.PL qKr 4 m k [(14,vT x0),(15,vI x1),(16,vI x2)] ⟨[],[]⟩
theorem qAh(m k):qbX m k=qrp m k:=zb (M:=qrp m) rfl (λ _=>by kernel_rfl) k
theorem qAJ:okP tb [] qKr:=λ m a=>(congrArg (λ L=>qgY m L a.1 a.2.1) (qAh m m)).trans (by kernel_rfl)
def qsQ(m k x0 x1 x2):=tb.PL qKu 2 m k [(0,vT x0),(1,vT x1),(5,.row 0 0)] ⟨[],[⟨.term,x2,0,0,false⟩]⟩
theorem qCm(m k):qcT m k=qsQ m k:=zb (M:=qsQ m) rfl (λ _=>by kernel_rfl) k
theorem qDX:okP tb [] qKu:=λ m a=>(congrArg (λ L=>qiu m L a.1 a.2.1) (qCm m m)).trans (by kernel_rfl)
def qlN(m k x0 x1 x2 x3):=tb.PL qJF 6 m k [(3,vT x0),(31,vT x1),(32,vI x2),(33,vI x3)] ⟨[],[]⟩
theorem qul(m k):QP m (yF m) k=qlN m k:=zb (M:=qlN m) rfl (λ _=>by kernel_rfl) k
theorem quP:okP tb [] qJF:=λ m a=>(congrArg (λ L=>qdX m (yF m) L a.1) (qul m m)).trans (by kernel_rfl)
def qpC(m k x0 x1 x2 x3 x4 x5 x6 x7 x8 x9 x10):=tb.PL qLn 4 m k [(1,.ptr 0 0),(2,.ptr 1 0),(9,vT x0),(10,vI x1),(11,vI x2)] ⟨[[vI x3,.s x4,vI x5,.row 0 0],[vI x6,.s x7,vI x8,.row 1 0]],[⟨.term,x9,0,0,false⟩,⟨.term,x10,0,0,false⟩]⟩
theorem qw3(m k):qaV m (jD m) k=qpC m k:=zb (M:=qpC m) rfl (λ _=>by kernel_rfl) k
theorem qzI:okP tb [] qLn:=λ m a=>(congrArg (λ L=>qfO m (jD m) L a.1) (qw3 m m)).trans (by kernel_rfl)
def qlA(m k x0 x1 x2 x3 x4 x5 x6 x7 x8 x9 x10 x11 x12 x13 x14):=tb.PL qKc 4 m k [(5,.ptr 0 0),(6,.ptr 1 0),(8,.ptr 2 0),(9,.ptr 2 0),(14,.sl y2 x0 1),(15,vI x1),(16,vI x2)] ⟨[[vI x3,.s x4,vI x5,vT x6],[vI x7,.s x8,vI x9,.row 0 0],[vI x10,.s x11,vI x12,vT x13]],[⟨.term,x14,0,0,false⟩]⟩
theorem quE(m k):qaH m k=qlA m k:=zb (M:=qlA m) rfl (λ _=>by kernel_rfl) k
theorem qvM:okP tb [] qKc:=λ m a=>(congrArg (λ L=>qd1 m L a.1 a.2.1 a.2.2.1) (quE m m)).trans (by kernel_rfl)
def quQ(m k x0 x1 x2 x3):=tb.PL qKg 3 m k [(3,.row 0 0),(9,vT x0),(10,vI x1),(11,vI x2)] ⟨[],[⟨.term,x3,0,0,false⟩]⟩
theorem qEd(m k):qeb m (J7 m) k=quQ m k:=zb (M:=quQ m) rfl (λ _=>by kernel_rfl) k
theorem qGJ:okP tb [] qKg:=λ m a=>(congrArg (λ L=>qjT m (J7 m) L a.1) (qEd m m)).trans (by kernel_rfl)
def qwJ(m k x0 x1 x2 x3 x4 x5 x6 x7):=tb.PL qLb 6 m k [(2,.ptr 0 0),(5,vT x0),(15,vT x1),(16,vI x2),(17,vI x3)] ⟨[[vI x4,.s x5,vI x6,.row 0 0]],[⟨.term,x7,0,0,true⟩]⟩
theorem qD2(m k):qee m k=qwJ m k:=zb (M:=qwJ m) rfl (λ _=>by kernel_rfl) k
theorem qFS:okP tb [] qLb:=λ m a=>(congrArg (λ L=>qjQ m L a.1) (qD2 m m)).trans (by kernel_rfl)
theorem qrL:okP tb [] qPt:=λ m a=>by kernel_rfl
def qjw(m k x0 x1 x2 x3 x4 x5 x6 x7 x8 x9):=tb.PL qJv 3 m k [(1,.ptr 0 0),(2,.ptr 1 0),(10,.row 0 0),(11,vI x0),(12,vI x1)] ⟨[[vI x2,.s x3,vI x4,.row 0 0],[vI x5,.s x6,vI x7,.row 1 0]],[⟨.term,x8,0,0,false⟩,⟨.term,x9,0,0,false⟩]⟩
theorem qqQ(m k):QN m (zA m) k=qjw m k:=zb (M:=qjw m) rfl (λ _=>by kernel_rfl) k
theorem qsO:okP tb [] qJv:=λ m a=>(congrArg (λ L=>qcm m (zA m) L a.1) (qqQ m m)).trans (by kernel_rfl)
theorem qoO:okP tb [] qOY:=λ m a=>by kernel_rfl
def yt(m k x0 x1 x2 x3 x4 x5 x6 x7):=tb.PL qKz 3 m k [(0,.sl y1 x0 1),(2,.fn 224 []),(4,.ptr 0 0),(8,vI x1),(9,vI x2),(10,vI x3)] ⟨[[vI x4,.s x5,vI x6,vT x7]],[]⟩
theorem QQ(m k):qr m k=yt m k:=zb (M:=yt m) rfl (λ _=>by kernel_rfl) k
theorem Q0:okP tb [224] qKz:=λ m a=>(congrArg (λ L=>qG m L a.1 a.2.1) (QQ m m)).trans (by kernel_rfl)
theorem qrl:okS tb qOh:=λ m a=>by kernel_rfl
def qhR(m k x0 x1 x2 x3 x4):=tb.QL qJC 12 m k [(0,.row 0 0),(2,vI x0),(52,vT x1),(53,vI x2),(54,vI x3)] ⟨[],[⟨y1,x4,0,0,false⟩]⟩
theorem qn1(m k):jv m (zy m) k=qhR m k:=zb (M:=qhR m) rfl (λ _=>by kernel_rfl) k
theorem qpY:okS tb qJC:=λ m a=>(congrArg (λ L=>qbc m (zy m) L a.1 a.2.1 a.2.2.1) (qn1 m m)).trans (by kernel_rfl)
theorem qxE:okP tb [] qN7:=λ m a=>by kernel_rfl
def qjl(m k x0 x1 x2 x3):=tb.PL qJP 4 m k [(0,.sl y1 x0 1),(9,.sl y1 x1 1),(10,vI x2),(11,vI x3)] ⟨[],[]⟩
theorem qqU(m k):jY m k=qjl m k:=zb (M:=qjl m) rfl (λ _=>by kernel_rfl) k
theorem qsA:okP tb [] qJP:=λ m a=>(congrArg (λ L=>qcb m L a.1) (qqU m m)).trans (by kernel_rfl)
theorem qwm:okP tb [] qN4:=λ m a=>by kernel_rfl
def qkm(m k x0 x1 x2 x3 x4 x5 x6 x7 x8):=tb.PL qDl 6 m k [(2,.ptr 0 0),(5,.row 1 0),(6,.row 2 0),(18,.sl y1 x0 1),(19,vI x1),(20,vI x2)] ⟨[[vI x3,.s x4,vI x5,.row 0 0]],[⟨.term,x6,0,0,false⟩,⟨.term,x7,0,0,false⟩,⟨.term,x8,0,0,false⟩]⟩
def qkx(m k x0 x1 x2 x3 x4 x5 x6 x7 x8 x9 x10 x11 x12 x13 x14 x15):=tb.PL qDl 11 m k [(2,.ptr 0 0),(5,.row 1 0),(6,.row 2 0),(8,.ptr 1 0),(18,.sl y1 x0 1),(19,vI x1),(20,vI x2),(34,vI x3),(35,vI x4)] ⟨[[vI x5,.s x6,vI x7,.row 0 0],[vI x8,.s x9,vI x10,vT x11,vI x12]],[⟨.term,x13,0,0,false⟩,⟨.term,x14,0,0,false⟩,⟨.term,x15,0,0,false⟩]⟩
def qlo(m k x0 x1 x2 x3 x4 x5 x6 x7 x8 x9 x10 x11 x12 x13 x14 x15):=tb.PL qDl 15 m k [(2,.ptr 0 0),(5,.row 1 0),(6,.row 2 0),(8,.ptr 1 0),(18,.sl y1 x0 1),(19,vI x1),(20,vI x2),(46,vI x3),(47,vI x4)] ⟨[[vI x5,.s x6,vI x7,.row 0 0],[vI x8,.s x9,vI x10,vT x11,vI x12]],[⟨.term,x13,0,0,false⟩,⟨.term,x14,0,0,false⟩,⟨.term,x15,0,0,false⟩]⟩
theorem qsM(m k):qB m k=(qkm m k,qkx m k,qlo m k):=zb (M:=λ k=>(qkm m k,qkx m k,qlo m k)) rfl (λ _=>by kernel_rfl) k
theorem quf:okP tb [] qDl:=λ m a=>(congrArg (a₁:=qB m m) (λ L=>qc9 m L.1 L.2.1 L.2.2 a.1) (qsM m m)).trans (by kernel_rfl)
def qiD(m k x0 x1 x2 x3):=tb.QL qJ4 3 m k [(3,.row 0 0),(6,.sl y1 x0 1),(7,vI x1),(8,vI x2)] ⟨[],[⟨y1,x3,0,0,false⟩]⟩
theorem qpM(m k):Qn m k=qiD m k:=zb (M:=qiD m) rfl (λ _=>by kernel_rfl) k
theorem qqz:okS tb qJ4:=λ m a=>(congrArg (λ L=>qbQ m L a.1) (qpM m m)).trans (by kernel_rfl)
theorem qoC:okP tb [] qPD:=λ m a=>by kernel_rfl
def Qm(m k x0 x1 x2):=tb.PL qKl 2 m k [(0,.sl y1 x0 1),(1,.fn 228 []),(7,vI x1),(8,vI x2)] ⟨[],[]⟩
theorem qbj(m k):qC m k=Qm m k:=zb (M:=Qm m) rfl (λ _=>by kernel_rfl) k
theorem qbn:okP tb [228] qKl:=λ m a=>(congrArg (λ L=>zK m L a.1) (qbj m m)).trans (by kernel_rfl)
theorem qaI:okP tb [228] qOi:=λ m a=>by kernel_rfl
theorem qq1:okP tb [] qPy:=λ m a=>by kernel_rfl
def qmp(m k x0 x1 x2 x3):=tb.PL qLI 9 m k [(8,.row 0 0),(23,.sl y1 x0 1),(24,vI x1),(25,vI x2)] ⟨[],[⟨y1,x3,0,0,false⟩]⟩
theorem qtV(m k):JC m k=qmp m k:=zb (M:=qmp m) rfl (λ _=>by kernel_rfl) k
theorem qv5:okP tb [] qLI:=λ m a=>(congrArg (λ L=>qdU m L a.1 a.2.1) (qtV m m)).trans (by kernel_rfl)
theorem qAr:okP tb [] qOc:=λ m a=>by kernel_rfl
theorem quX:okP tb [] qPi:=λ m a=>by kernel_rfl
def qlm(m k x0 x1 x2 x3 x4 x5 x6 x7 x8 x9 x10 x11 x12 x13 x14):=tb.PL qKS 5 m k [(1,.ptr 0 0),(2,.ptr 1 0),(4,.ptr 2 0),(19,vT x0),(20,vI x1),(21,vI x2)] ⟨[[vI x3,.s x4,vI x5,vT x6],[vI x7,.s x8,vI x9,.row 0 0],[vI x10,.s x11,vI x12,.row 1 0]],[⟨.term,x13,0,0,false⟩,⟨.term,x14,0,0,false⟩]⟩
theorem qsx(m k):Q6 m (yC m) k=qlm m k:=zb (M:=qlm m) rfl (λ _=>by kernel_rfl) k
theorem quz:okP tb [] qKS:=λ m a=>(congrArg (λ L=>qdm m (yC m) L a.1) (qsx m m)).trans (by kernel_rfl)
theorem qtA:okP tb [] i69:=λ m a=>by kernel_rfl
theorem qsF:okP tb [] i72:=λ m a=>by kernel_rfl
def qgv(m k x0 x1 x2):=tb.PL i71 4 m k [(1,.fn 72 []),(18,vT x0),(19,vI x1),(20,vI x2)] ⟨[],[]⟩
theorem qmM(m k):yH m (zi m) k=qgv m k:=zb (M:=qgv m) rfl (λ _=>by kernel_rfl) k
theorem qnH:okP tb [72] i71:=λ m a=>(congrArg (λ L=>qab m (zi m) L a.1) (qmM m m)).trans (by kernel_rfl)
theorem qvz:okP tb [] i37:=λ m a=>by kernel_rfl
theorem qrA:okP tb [] i11:=λ m a=>by kernel_rfl
theorem qlv:okS tb qNM:=λ m a=>by kernel_rfl
def qhj(m k x0 x1 x2 x3 x4):=tb.QL qLc 3 m k [(1,.fn 110 [.ptr 0 0,.ptr 1 0]),(10,vT x0),(11,vI x1),(12,vI x2)] ⟨[[vI x3],[.row 0 0]],[⟨.term,x4,0,0,false⟩]⟩
theorem qnu(m k):jM m (zC m) k=qhj m k:=zb (M:=qhj m) rfl (λ _=>by kernel_rfl) k
theorem qpm:okS tb qLc:=λ m a=>(congrArg (λ L=>qau m (zC m) L a.1 a.2.1 a.2.2.1) (qnu m m)).trans (by kernel_rfl)
theorem qst:okP tb [] qOu:=λ m a=>by kernel_rfl
def qlX(m k x0 x1 x2):=tb.QL qKC 4 m k [(0,.row 0 0),(9,vI x0),(10,vI x1)] ⟨[],[⟨.term,x2,0,0,false⟩]⟩
theorem qtp(m k):JG m k=qlX m k:=zb (M:=qlX m) rfl (λ _=>by kernel_rfl) k
theorem quS:okS tb qKC:=λ m a=>(congrArg (λ L=>qdP m L a.1) (qtp m m)).trans (by kernel_rfl)
theorem qxr:okP tb [] i81:=λ m a=>by kernel_rfl
theorem qBn:okP tb [] i45:=λ m a=>by kernel_rfl
theorem qkY:okS tb i84:=λ m a=>by kernel_rfl
def yV(m k x0 x1 x2 x3 x4 x5 x6):=tb.QL i82 2 m k [(0,.sl y7 x0 1),(1,.fn 84 [.ptr 0 0]),(7,vI x1),(8,vI x2)] ⟨[[vI x3,.s x4,vI x5,vT x6]],[]⟩
theorem Jj(m k):qt m k=yV m k:=zb (M:=yV m) rfl (λ _=>by kernel_rfl) k
theorem Jq:okS tb i82:=λ m a=>(congrArg (λ L=>qO m L a.1 a.2.1) (Jj m m)).trans (by kernel_rfl)
def qjk(m k x0 x1 x2 x3):=tb.QL i46 8 m k [(0,.row 0 0),(46,vT x0),(47,vI x1),(48,vI x2)] ⟨[],[⟨y13,x3,0,0,false⟩]⟩
theorem qrd(m k):jU m (z8 m) k=qjk m k:=zb (M:=qjk m) rfl (λ _=>by kernel_rfl) k
theorem qsG:okS tb i46:=λ m a=>(congrArg (λ L=>qce m (z8 m) L a.1 a.2.1) (qrd m m)).trans (by kernel_rfl)
theorem qqf:okP tb [] i14:=λ m a=>by kernel_rfl
theorem qto:okP tb [] qOO:=λ m a=>by kernel_rfl
def qfz(m k x0 x1 x2):=tb.PL qF6 4 m k [(1,.fn 120 []),(18,vT x0),(19,vI x1),(20,vI x2)] ⟨[],[]⟩
theorem qls(m k):qgB m (qbf m) k=qfz m k:=zb (M:=qfz m) rfl (λ _=>by kernel_rfl) k
theorem qm1:okP tb [120] qF6:=λ m a=>(congrArg (λ L=>qfG m (qbf m) L a.1) (qls m m)).trans (by kernel_rfl)
theorem qyd:okP tb [] i93:=λ m a=>by kernel_rfl
theorem qpW:okP tb [] i58:=λ m a=>by kernel_rfl
def qhv(m k x0 x1 x2):=tb.PL i50 4 m k [(9,vT x0),(10,vI x1),(11,vI x2)] ⟨[],[]⟩
theorem qnP(m k):qhP m k=qhv m k:=zb (M:=qhv m) rfl (λ _=>by kernel_rfl) k
theorem qnW:okP tb [] i50:=λ m a=>(congrArg (λ L=>qgO m L a.1) (qnP m m)).trans (by kernel_rfl)
def qlH(m k x0 x1 x2 x3 x4 x5 x6 x7 x8 x9 x10 x11):=tb.PL i52 2 m k [(0,.sl y3 x0 1),(3,.ptr 0 0),(4,.ptr 1 0),(10,.sl y3 x1 1),(11,vI x2),(12,vI x3)] ⟨[[vI x4,.s x5,vI x6,vT x7],[vI x8,.s x9,vI x10,.row 0 0]],[⟨.term,x11,0,0,false⟩]⟩
def ql4(m k x0 x1 x2 x3 x4 x5 x6 x7 x8 x9 x10 x11):=tb.PL i52 10 m k [(0,.sl y3 x0 1),(4,.ptr 0 0),(7,.ptr 1 0),(27,vT x1),(28,vI x2),(29,vI x3)] ⟨[[vI x4,.s x5,vI x6,.row 0 0],[vI x7,.s x8,vI x9,.row 1 0]],[⟨.term,x10,0,0,false⟩,⟨.term,x11,0,0,false⟩]⟩
theorem qt9(m k):qeM m (qej m) k=(qlH m k,ql4 m k):=zb (M:=λ k=>(qlH m k,ql4 m k)) rfl (λ _=>by kernel_rfl) k
theorem qvu:okP tb [] i52:=λ m a=>(congrArg (a₁:=qeM m (qej m) m) (λ L=>qmb m (qej m) L.1 L.2 a.1 a.2.1) (qt9 m m)).trans (by kernel_rfl)
theorem qjH:okP tb [] qNW:=λ m a=>by kernel_rfl
theorem qhJ:okP tb [] qNX:=λ m a=>by kernel_rfl
theorem qlb:okP tb [] i88:=λ m a=>by kernel_rfl
theorem qvh:okP tb [] i51:=λ m a=>by kernel_rfl
def qjr(m k x0 x1 x2 x3 x4 x5 x6 x7 x8 x9 x10 x11 x12):=tb.QL i56 9 m k [(1,.s x0),(2,.mp 0),(6,.ptr 1 0),(7,.ptr 2 0),(38,vT x1),(39,vI x2),(40,vI x3)] ⟨[[.mc .str .str x4],[vI x5,.s x6,vI x7,.row 0 0],[vI x8,.s x9,vI x10,.row 1 0]],[⟨.term,x11,0,0,false⟩,⟨.term,x12,0,0,false⟩]⟩
theorem qrw(m k):qkQ m (qcq m) k=qjr m k:=zb (M:=qjr m) rfl (λ _=>by kernel_rfl) k
theorem qsI:okS tb i56:=λ m a=>(congrArg (λ L=>qju m (qcq m) L a.1 a.2.1 a.2.2.1) (qrw m m)).trans (by kernel_rfl)
theorem qxK:okP tb [] i91:=λ m a=>by kernel_rfl
theorem qz4:okP tb [] i96:=λ m a=>by kernel_rfl
theorem qys:okP tb [] qN3:=λ m a=>by kernel_rfl
theorem qzG:okP tb [] qOd:=λ m a=>by kernel_rfl
theorem qxs:okP tb [] qOR:=λ m a=>by kernel_rfl
theorem qCF:okP tb [] i95:=λ m a=>by kernel_rfl
def qrN(m k x0 x1 x2 x3 x4 x5 x6 x7 x8 x9 x10 x11 x12):=tb.QL qJq 10 m k [(0,.mp 0),(3,.ptr 1 0),(4,.ptr 2 0),(7,.row 1 0),(32,vT x0),(33,vI x1),(34,vI x2)] ⟨[[.mc y12 .term x3],[vI x4,.s x5,vI x6,vT x7],[vI x8,.s x9,vI x10,.row 0 0]],[⟨.term,x11,0,0,false⟩,⟨.term,x12,0,0,false⟩]⟩
theorem qzM(m k):qs4 m (qek m) k=qrN m k:=zb (M:=qrN m) rfl (λ _=>by kernel_rfl) k
theorem qCN:okS tb qJq:=λ m a=>(congrArg (λ L=>qrc m (qek m) L a.1 a.2.1) (qzM m m)).trans (by kernel_rfl)
def qhN(m k x0 x1 x2 x3 x4 x5 x6 x7 x8 x9 x10 x11 x12 x13 x14):=tb.QL qGX 6 m k [(0,.ptr 0 0),(4,.ptr 1 0),(5,.ptr 2 0),(8,.ptr 3 0),(9,.fn 186 [.ptr 5 0,.ptr 3 0]),(10,.row 1 0),(25,vI x0),(26,vI x1)] ⟨[[.sl y3 x2 1,.row 0 0],[vI x3,.s x4,vI x5,vT x6],[vI x7,.s x8,vI x9,vT x10],[.b x11],[.mc y12 .term x12],[.mp 4]],[⟨y3,x13,0,0,false⟩,⟨y3,x14,0,0,false⟩]⟩
def qhO(m k x0 x1 x2 x3 x4 x5 x6 x7 x8 x9 x10 x11 x12 x13 x14):=tb.QL qGX 12 m k [(0,.ptr 0 0),(4,.ptr 1 0),(5,.ptr 2 0),(8,.ptr 3 0),(9,.fn 186 [.ptr 5 0,.ptr 3 0]),(10,.row 1 0),(46,vI x0),(47,vI x1)] ⟨[[.sl y3 x2 1,.row 0 0],[vI x3,.s x4,vI x5,vT x6],[vI x7,.s x8,vI x9,vT x10],[.b x11],[.mc y12 .term x12],[.mp 4]],[⟨y3,x13,0,0,false⟩,⟨y3,x14,0,0,false⟩]⟩
theorem qpn(m k):qbH m k=(qhN m k,qhO m k):=zb (M:=λ k=>(qhN m k,qhO m k)) rfl (λ _=>by kernel_rfl) k
theorem qpN:okS tb qGX:=λ m a=>(congrArg (a₁:=qbH m m) (λ L=>qhK m L.1 L.2 a.1 a.2.1 a.2.2.1) (qpn m m)).trans (by kernel_rfl)
theorem qrC:okS tb qOm:=λ m a=>by kernel_rfl
theorem qvG:okP tb [] qOG:=λ m a=>by kernel_rfl
theorem qa7:okS tb qPm:=λ m a=>by kernel_rfl
theorem qmL:okS tb qPg:=λ m a=>by kernel_rfl
def Qu(m k x0 x1 x2 x3 x4 x5 x6):=tb.QL qJ0 2 m k [(0,vT x0),(1,.fn 185 [.ptr 0 0]),(7,vI x1),(8,vI x2)] ⟨[[vI x3,.s x4,vI x5,vT x6]],[]⟩
theorem qbq(m k):Qw m (qeg m) (yE m) (qdF m) (jk m) k=Qu m k:=zb (M:=Qu m) rfl (λ _=>by kernel_rfl) k
theorem qbI:okS tb qJ0:=λ m a=>(congrArg (λ L=>Qp m (qeg m) (yE m) (qdF m) (jk m) L a.1 a.2.1) (qbq m m)).trans (by kernel_rfl)
def qhM(m k x0 x1 x2 x3 x4 x5 x6 x7 x8 x9 x10 x11 x12):=tb.QL qJE 8 m k [(0,.ptr 0 0),(3,.ptr 1 0),(4,.ptr 2 0),(5,.row 1 0),(39,vI x0),(40,vI x1)] ⟨[[.sl y3 x2 1,.row 0 0],[vI x3,.s x4,vI x5,vT x6],[vI x7,.s x8,vI x9,vT x10]],[⟨y3,x11,0,0,false⟩,⟨y3,x12,0,0,false⟩]⟩
theorem qnU(m k):qiI m k=qhM m k:=zb (M:=qhM m) rfl (λ _=>by kernel_rfl) k
theorem qpV:okS tb qJE:=λ m a=>(congrArg (λ L=>qhQ m L a.1) (qnU m m)).trans (by kernel_rfl)
theorem qoB:okP tb [] qN0:=λ m a=>by kernel_rfl
theorem qqo:okS tb qOp:=λ m a=>by kernel_rfl
def qnh(m k x0 x1):=tb.PL i92 2 m k [(4,.ptr 0 0)] ⟨[[.sl y3 x0 1,.row 0 0]],[⟨y3,x1,0,0,false⟩]⟩
theorem qwt(m k):qpD m k=qnh m k:=zb (M:=qnh m) rfl (λ _=>by kernel_rfl) k
theorem qx9:okP tb [] i92:=λ m a=>(congrArg (λ L=>qnf m L a.1) (qwt m m)).trans (by kernel_rfl)
theorem qw9:okP tb [] i57:=λ m a=>by kernel_rfl
def qhs(m k x0 x1 x2 x3 x4 x5 x6):=tb.PL i26 5 m k [(0,vT x0),(4,.ptr 0 0),(20,vI x1),(21,vI x2)] ⟨[[vI x3,.s x4,vI x5,.row 0 0]],[⟨.term,x6,0,0,false⟩]⟩
def qgG(m k x0 x1 x2 x3 x4 x5 x6 x7 x8 x9 x10 x11 x12):=tb.PL i26 9 m k [(0,vT x0),(4,.ptr 0 0),(7,vI x1),(8,.ptr 1 0),(9,vI x2),(20,vI x3),(21,vI x4)] ⟨[[vI x5,.s x6,vI x7,.row 0 0],[vI x8,.s x9,vI x10,vT x11]],[⟨.term,x12,0,0,false⟩]⟩
theorem qnN(m k):qba m k=(qhs m k,qgG m k):=zb (M:=λ k=>(qhs m k,qgG m k)) rfl (λ _=>by kernel_rfl) k
theorem qo1:okP tb [] i26:=λ m a=>(congrArg (a₁:=qba m m) (λ L=>qgV m L.1 L.2 a.1) (qnN m m)).trans (by kernel_rfl)
theorem qCB:okP tb [] i32:=λ m a=>by kernel_rfl
theorem qzL:okP tb [] i33:=λ m a=>by kernel_rfl
theorem qDx:okP tb [] i34:=λ m a=>by kernel_rfl
theorem qwY:okP tb [] i10:=λ m a=>by kernel_rfl
theorem qwi:okP tb [] qNS:=λ m a=>by kernel_rfl
theorem qxo:okP tb [] qN1:=λ m a=>by kernel_rfl
def qmC(m k x0 x1):=tb.PL qK4 4 m k [(0,.s x0),(3,vI x1)] ⟨[],[]⟩
theorem que(m k):Jz m k=qmC m k:=zb (M:=qmC m) rfl (λ _=>by kernel_rfl) k
theorem qvg:okP tb [] qK4:=λ m a=>(congrArg (λ L=>qdO m L a.1) (que m m)).trans (by kernel_rfl)
def qpE(m k x0 x1 x2 x3 x4 x5 x6 x7 x8 x9 x10 x11):=tb.PL i74 8 m k [(0,.s x0),(1,vI x1),(4,.ptr 0 0),(7,.ptr 1 0),(8,vI x2),(9,vI x3)] ⟨[[vI x4,.s x5,vI x6,.row 0 0],[vI x7,.s x8,vI x9,.row 1 0]],[⟨.term,x10,0,0,false⟩,⟨.term,x11,0,0,false⟩]⟩
theorem qxM(m k):jI m k=qpE m k:=zb (M:=qpE m) rfl (λ _=>by kernel_rfl) k
theorem qzT:okP tb [] i74:=λ m a=>(congrArg (λ L=>qbx m L a.1 a.2.1) (qxM m m)).trans (by kernel_rfl)
theorem qx8:okP tb [] i75:=λ m a=>by kernel_rfl
theorem qub:okP tb [] i66:=λ m a=>by kernel_rfl
theorem qtI:okP tb [] i99:=λ m a=>by kernel_rfl
def qpH(m k x0 x1 x2 x3 x4):=tb.PL i76 4 m k [(0,.s x0),(1,vI x1),(2,.s x2),(9,.sl y5 x3 1),(10,vI x4)] ⟨[],[]⟩
theorem qxO(m k):qaS m k=qpH m k:=zb (M:=qpH m) rfl (λ _=>by kernel_rfl) k
theorem qAj:okP tb [] i76:=λ m a=>(congrArg (λ L=>qf2 m L a.1 a.2.1 a.2.2.1) (qxO m m)).trans (by kernel_rfl)
def qpt(m k x0 x1 x2 x3 x4 x5 x6 x7 x8 x9 x10 x11):=tb.PL i38 12 m k [(0,.s x0),(4,.ptr 0 0),(7,.ptr 1 0),(8,vI x1),(9,vI x2),(11,vI x3)] ⟨[[vI x4,.s x5,vI x6,.row 0 0],[vI x7,.s x8,vI x9,.row 1 0]],[⟨.term,x10,0,0,false⟩,⟨.term,x11,0,0,false⟩]⟩
theorem qxl(m k):Qx m (qY m) k=qpt m k:=zb (M:=qpt m) rfl (λ _=>by kernel_rfl) k
theorem qAl:okP tb [] i38:=λ m a=>(congrArg (λ L=>qaf m (qY m) L a.1 a.2.1) (qxl m m)).trans (by kernel_rfl)
def qpx(m k x0 x1 x2 x3 x4 x5):=tb.PL i39 3 m k [(1,.ptr 0 0),(3,vI x0),(4,vI x1)] ⟨[[vI x2,.s x3,vI x4,vT x5]],[]⟩
theorem qx2(m k):qaZ m (je m) k=qpx m k:=zb (M:=qpx m) rfl (λ _=>by kernel_rfl) k
theorem qz8:okP tb [] i39:=λ m a=>(congrArg (λ L=>qf0 m (je m) L a.1) (qx2 m m)).trans (by kernel_rfl)
def qnc(m k x0 x1 x2 x3 x4 x5):=tb.PL i40 3 m k [(1,.ptr 0 0),(3,vI x0),(4,vI x1)] ⟨[[vI x2,.s x3,vI x4,vT x5]],[]⟩
theorem qvf(m k):qad m (jr m) k=qnc m k:=zb (M:=qnc m) rfl (λ _=>by kernel_rfl) k
theorem qw2:okP tb [] i40:=λ m a=>(congrArg (λ L=>qe9 m (jr m) L a.1) (qvf m m)).trans (by kernel_rfl)
theorem qAo:okP tb [] qOk:=λ m a=>by kernel_rfl
def qnp(m k x0 x1 x2 x3 x4):=tb.PL i90 5 m k [(1,.ptr 0 0),(4,vI x0)] ⟨[[vI x1,.s x2,vI x3,vT x4]],[]⟩
theorem qwk(m k):qai m (jL m) k=qnp m k:=zb (M:=qnp m) rfl (λ _=>by kernel_rfl) k
theorem qx1:okP tb [] i90:=λ m a=>(congrArg (λ L=>qeF m (jL m) L a.1) (qwk m m)).trans (by kernel_rfl)
theorem qxt:okP tb [] i55:=λ m a=>by kernel_rfl
def qpG(m k x0 x1 x2):=tb.PL i64 3 m k [(0,.s x0),(3,.sl y5 x1 1),(4,vI x2)] ⟨[],[]⟩
theorem qxq(m k):qa5 m k=qpG m k:=zb (M:=qpG m) rfl (λ _=>by kernel_rfl) k
theorem qAp:okP tb [] i64:=λ m a=>(congrArg (λ L=>qf6 m L a.1) (qxq m m)).trans (by kernel_rfl)
def qpK(m k x0 x1 x2 x3 x4 x5):=tb.PL qKn 3 m k [(1,.ptr 0 0),(3,.sl y5 x0 1),(4,vI x1)] ⟨[[vI x2,.s x3,vI x4,vT x5]],[]⟩
theorem qw4(m k):qa8 m k=qpK m k:=zb (M:=qpK m) rfl (λ _=>by kernel_rfl) k
theorem qz2:okP tb [] qKn:=λ m a=>(congrArg (λ L=>qfM m L a.1) (qw4 m m)).trans (by kernel_rfl)
def qmj(m k x0 x1 x2 x3 x4):=tb.PL qLq 4 m k [(1,.ptr 0 0),(3,vI x0)] ⟨[[vI x1,.s x2,vI x3,vT x4]],[]⟩
theorem qur(m k):JI m k=qmj m k:=zb (M:=qmj m) rfl (λ _=>by kernel_rfl) k
theorem qwN:okP tb [] qLq:=λ m a=>(congrArg (λ L=>qdI m L a.1) (qur m m)).trans (by kernel_rfl)
def qnz(m k x0 x1 x2 x3 x4):=tb.PL i77 11 m k [(1,.ptr 0 0),(4,vI x0)] ⟨[[vI x1,.s x2,vI x3,vT x4]],[]⟩
theorem qvK(m k):Jp m (jq m) k=qnz m k:=zb (M:=qnz m) rfl (λ _=>by kernel_rfl) k
theorem qyr:okP tb [] i77:=λ m a=>(congrArg (λ L=>qeY m (jq m) L a.1) (qvK m m)).trans (by kernel_rfl)
theorem qx5:okP tb [] i41:=λ m a=>by kernel_rfl
theorem quT:okP tb [] i79:=λ m a=>by kernel_rfl
def qkK(m k x0 x1 x2 x3 x4 x5 x6 x7 x8):=tb.PL i43 18 m k [(2,.ptr 0 0),(3,.ptr 1 0),(9,vI x0)] ⟨[[vI x1,.s x2,vI x3,vT x4],[vI x5,.s x6,vI x7,vT x8]],[]⟩
theorem qsE(m k):Q7 m (zQ m) k=qkK m k:=zb (M:=qkK m) rfl (λ _=>by kernel_rfl) k
theorem qtc:okP tb [] i43:=λ m a=>(congrArg (λ L=>qc7 m (zQ m) L a.1 a.2.1) (qsE m m)).trans (by kernel_rfl)
theorem qAi:okP tb [] i13:=λ m a=>by kernel_rfl
def qq3(m k x0 x1 x2 x3 x4 x5):=tb.PL i62 3 m k [(1,.ptr 0 0),(3,.row 0 0),(4,vI x0)] ⟨[[vI x1,.s x2,vI x3,vT x4]],[⟨.term,x5,0,0,true⟩]⟩
theorem qz5(m k):qb5 m (QT m) k=qq3 m k:=zb (M:=qq3 m) rfl (λ _=>by kernel_rfl) k
theorem qCr:okP tb [] i62:=λ m a=>(congrArg (λ L=>qg0 m (QT m) L a.1) (qz5 m m)).trans (by kernel_rfl)
theorem qDM:okP tb [] qO2:=λ m a=>by kernel_rfl
theorem qtN:okP tb [] qOI:=λ m a=>by kernel_rfl
def qnb(m k x0 x1 x2 x3 x4 x5):=tb.PL qLO 4 m k [(0,vT x0),(3,.ptr 0 0),(5,vI x1)] ⟨[[vI x2,.s x3,vI x4,vT x5]],[]⟩
theorem qva(m k):qac m k=qnb m k:=zb (M:=qnb m) rfl (λ _=>by kernel_rfl) k
theorem qyl:okP tb [] qLO:=λ m a=>(congrArg (λ L=>qeI m L a.1 a.2.1) (qva m m)).trans (by kernel_rfl)
theorem qzZ:okP tb [] qOw:=λ m a=>by kernel_rfl
def qqW(m k x0 x1 x2 x3 x4 x5 x6 x7):=tb.PL qKj 4 m k [(0,vT x0),(3,.ptr 0 0),(5,.row 0 0),(6,.b x1),(7,vI x2)] ⟨[[vI x3,.s x4,vI x5,vT x6]],[⟨.term,x7,0,0,false⟩]⟩
theorem qz7(m k):qb1 m k=qqW m k:=zb (M:=qqW m) rfl (λ _=>by kernel_rfl) k
theorem qCO:okP tb [] qKj:=λ m a=>(congrArg (λ L=>qhm m L a.1 a.2.1) (qz7 m m)).trans (by kernel_rfl)
def qp5(m k x0 x1 x2 x3 x4 x5):=tb.PL qLV 2 m k [(0,vT x0),(3,.ptr 0 0),(5,vI x1)] ⟨[[vI x2,.s x3,vI x4,vT x5]],[]⟩
theorem qz0(m k):qbY m k=qp5 m k:=zb (M:=qp5 m) rfl (λ _=>by kernel_rfl) k
theorem qDw:okP tb [] qLV:=λ m a=>(congrArg (λ L=>qg8 m L a.1 a.2.1) (qz0 m m)).trans (by kernel_rfl)
def qms(m k x0 x1 x2 x3 x4 x5 x6):=tb.PL qKv 5 m k [(0,vT x0),(3,.ptr 0 0),(5,.row 0 0),(6,vI x1)] ⟨[[vI x2,.s x3,vI x4,vT x5]],[⟨.term,x6,0,0,false⟩]⟩
theorem quv(m k):JF m k=qms m k:=zb (M:=qms m) rfl (λ _=>by kernel_rfl) k
theorem qu1:okP tb [] qKv:=λ m a=>(congrArg (λ L=>qdS m L a.1 a.2.1) (quv m m)).trans (by kernel_rfl)
def qpv(m k x0 x1 x2):=tb.PL qKd 3 m k [(1,vT x0),(5,vT x1),(6,vI x2)] ⟨[],[]⟩
theorem qx6(m k):J1 m k=qpv m k:=zb (M:=qpv m) rfl (λ _=>by kernel_rfl) k
theorem qAs:okP tb [] qKd:=λ m a=>(congrArg (λ L=>qfV m L a.1 a.2.1) (qx6 m m)).trans (by kernel_rfl)
def qjj(m k x0 x1 x2 x3 x4 x5):=tb.PL qJH 7 m k [(1,.ptr 0 0),(3,vT x0),(4,vI x1)] ⟨[[vI x2,.s x3,vI x4,vT x5]],[]⟩
theorem qqM(m k):jX m (ya m) k=qjj m k:=zb (M:=qjj m) rfl (λ _=>by kernel_rfl) k
theorem qsK:okP tb [] qJH:=λ m a=>(congrArg (λ L=>qch m (ya m) L a.1) (qqM m m)).trans (by kernel_rfl)
theorem qAq:okP tb [] qOb:=λ m a=>by kernel_rfl
def qp8(m k x0 x1 x2 x3 x4 x5 x6):=tb.PL qJO 6 m k [(0,vT x0),(2,.ptr 0 0),(5,vT x1),(6,vI x2)] ⟨[[vI x3,.s x4,vI x5,.row 0 0]],[⟨.term,x6,0,0,true⟩]⟩
theorem qz1(m k):qb0 m k=qp8 m k:=zb (M:=qp8 m) rfl (λ _=>by kernel_rfl) k
theorem qB3:okP tb [] qJO:=λ m a=>(congrArg (λ L=>qhi m L a.1) (qz1 m m)).trans (by kernel_rfl)
theorem qth:okP tb [] qOf:=λ m a=>by kernel_rfl
def qnx(m k x0 x1 x2 x3 x4 x5):=tb.PL qLH 7 m k [(1,.ptr 0 0),(3,vI x0),(4,vI x1)] ⟨[[vI x2,.s x3,vI x4,vT x5]],[]⟩
theorem qvZ(m k):Jm m (jp m) k=qnx m k:=zb (M:=qnx m) rfl (λ _=>by kernel_rfl) k
theorem qyn:okP tb [] qLH:=λ m a=>(congrArg (λ L=>qeW m (jp m) L a.1) (qvZ m m)).trans (by kernel_rfl)
def qqy(m k x0 x1 x2 x3 x4 x5 x6 x7 x8):=tb.QL qKs 4 m k [(0,.row 0 0),(2,vI x0),(4,.ptr 0 0),(7,.row 1 0),(8,.b x1),(9,vI x2)] ⟨[[vI x3,.s x4,vI x5,vT x6]],[⟨y1,x7,0,0,false⟩,⟨y1,x8,0,0,false⟩]⟩
theorem qAt(m k):JU m k=qqy m k:=zb (M:=qqy m) rfl (λ _=>by kernel_rfl) k
theorem qBE:okS tb qKs:=λ m a=>(congrArg (λ L=>qgH m L a.1 a.2.1 a.2.2.1) (qAt m m)).trans (by kernel_rfl)
def qkJ(m k x0 x1 x2 x3 x4 x5 x6):=tb.QL qL0 6 m k [(0,.row 0 0),(2,vI x0),(4,.ptr 0 0),(7,vI x1)] ⟨[[vI x2,.s x3,vI x4,vT x5]],[⟨y1,x6,0,0,false⟩]⟩
theorem qsw(m k):Qv m (yo m) k=qkJ m k:=zb (M:=qkJ m) rfl (λ _=>by kernel_rfl) k
theorem qti:okS tb qL0:=λ m a=>(congrArg (λ L=>qc3 m (yo m) L a.1 a.2.1 a.2.2.1) (qsw m m)).trans (by kernel_rfl)
theorem qD4:okP tb [] qPf:=λ m a=>by kernel_rfl
def qng(m k x0 x1):=tb.PL qKy 4 m k [(0,.sl y1 x0 1),(3,vI x1)] ⟨[],[]⟩
theorem qvA(m k):Jo m k=qng m k:=zb (M:=qng m) rfl (λ _=>by kernel_rfl) k
theorem qyo:okP tb [] qKy:=λ m a=>(congrArg (λ L=>qeK m L a.1) (qvA m m)).trans (by kernel_rfl)
def qjt(m k x0 x1 x2):=tb.PL qxd 3 m k [(0,.sl y1 x0 1),(3,.row 0 0),(4,vI x1)] ⟨[],[⟨.term,x2,0,0,false⟩]⟩
def qji(m k x0 x1 x2 x3):=tb.PL qxd 6 m k [(0,.sl y1 x0 1),(3,.row 0 0),(4,vI x1),(5,vI x2)] ⟨[],[⟨.term,x3,0,0,false⟩]⟩
def qjm(m k x0 x1 x2):=tb.PL qxd 10 m k [(0,.sl y1 x0 1),(3,.row 0 0),(6,vI x1)] ⟨[],[⟨.term,x2,0,0,false⟩]⟩
def qjx(m k x0 x1 x2 x3):=tb.PL qxd 13 m k [(0,.sl y1 x0 1),(3,.row 0 0),(6,vI x1),(7,vI x2)] ⟨[],[⟨.term,x3,0,0,false⟩]⟩
theorem qrj(m k):qm m k=(qjt m k,qji m k,qjm m k,qjx m k):=zb (M:=λ k=>(qjt m k,qji m k,qjm m k,qjx m k)) rfl (λ _=>by kernel_rfl) k
theorem qsH:okP tb [] qxd:=λ m a=>(congrArg (a₁:=qm m m) (λ L=>qb7 m L.1 L.2.1 L.2.2.1 L.2.2.2 a.1) (qrj m m)).trans (by kernel_rfl)
theorem qzX:okP tb [] qPn:=λ m a=>by kernel_rfl
theorem qua:okP tb [] qPp:=λ m a=>by kernel_rfl
def qkO(m k x0 x1):=tb.PL qKZ 2 m k [(0,.sl y1 x0 1),(3,vI x1)] ⟨[],[]⟩
theorem qsL(m k):Jc m k=qkO m k:=zb (M:=qkO m) rfl (λ _=>by kernel_rfl) k
theorem quD:okP tb [] qKZ:=λ m a=>(congrArg (λ L=>qcW m L a.1) (qsL m m)).trans (by kernel_rfl)
def qp7(m k x0 x1 x2):=tb.PL qLM 9 m k [(1,.sl y1 x0 1),(8,.row 0 0),(9,vI x1)] ⟨[],[⟨y1,x2,0,0,false⟩]⟩
theorem qzF(m k):qaD m k=qp7 m k:=zb (M:=qp7 m) rfl (λ _=>by kernel_rfl) k
theorem qCq:okP tb [] qLM:=λ m a=>(congrArg (λ L=>qg7 m L a.1 a.2.1) (qzF m m)).trans (by kernel_rfl)
theorem qxJ:okP tb [] qNU:=λ m a=>by kernel_rfl
def qmg(m k x0 x1 x2 x3 x4 x5 x6 x7 x8 x9):=tb.PL qLD 5 m k [(1,.ptr 0 0),(2,.ptr 1 0),(4,.row 1 0),(5,vI x0)] ⟨[[vI x1,.s x2,vI x3,vT x4],[vI x5,.s x6,vI x7,.row 0 0]],[⟨.term,x8,0,0,false⟩,⟨.term,x9,0,0,false⟩]⟩
theorem qte(m k):JE m (jn m) k=qmg m k:=zb (M:=qmg m) rfl (λ _=>by kernel_rfl) k
theorem qwH:okP tb [] qLD:=λ m a=>(congrArg (λ L=>qd0 m (jn m) L a.1) (qte m m)).trans (by kernel_rfl)
theorem qu8:okP tb [] i78:=λ m a=>by kernel_rfl
def qnl(m k x0 x1):=tb.PL i42 6 m k [(5,vT x0),(6,vI x1)] ⟨[],[]⟩
theorem qwL(m k):qah m k=qnl m k:=zb (M:=qnl m) rfl (λ _=>by kernel_rfl) k
theorem qxA:okP tb [] i42:=λ m a=>(congrArg (λ L=>qeU m L a.1) (qwL m m)).trans (by kernel_rfl)
theorem qwl:okP tb [] i12:=λ m a=>by kernel_rfl
theorem qlr:okP tb [] i3:=λ m a=>by kernel_rfl
end Go.AmZ
namespace Go.Proofs
open Go.Shelf
def Tryz.sortTrm_ren:Go.Shelf.Ren:=⟨λ|6=>139|15=>176|14=>175|28=>211|29=>179|20=>203|21=>204|22=>205|23=>206|24=>207|25=>208|26=>209|27=>210|46=>231|47=>232|48=>233|49=>234|50=>235|57=>242|n=>n,λ|22=>23|24=>25|25=>64|3=>3|39=>164|0=>0|53=>169|55=>144|4=>4|46=>188|45=>187|50=>192|5=>5|9=>9|66=>209|70=>83|76=>221|77=>222|n=>n,λ|n=>n⟩
theorem Tryz.sortTrm:Go.Proofs.SlLaysF0.n6 Tryz.prog Tryz.sortTrm_ren:={
 mixed:=by kernel_rfl
 f6:=⟨Tryz.f139.name,by decide,Tryz.func139.trans (congrArg some (by kernel_rfl))⟩
 f14:=⟨Tryz.f175.name,by decide,Tryz.func175.trans (congrArg some (by kernel_rfl))⟩
 f15:=Tryz.func176.trans (congrArg some (by kernel_rfl))
 f20:=⟨Tryz.f203.name,by decide,Tryz.func203.trans (congrArg some (by kernel_rfl))⟩
 f21:=⟨Tryz.f204.name,by decide,Tryz.func204.trans (congrArg some (by kernel_rfl))⟩
 f22:=⟨Tryz.f205.name,by decide,Tryz.func205.trans (congrArg some (by kernel_rfl))⟩
 f23:=⟨Tryz.f206.name,by decide,Tryz.func206.trans (congrArg some (by kernel_rfl))⟩
 f24:=⟨Tryz.f207.name,by decide,Tryz.func207.trans (congrArg some (by kernel_rfl))⟩
 f25:=⟨Tryz.f208.name,by decide,Tryz.func208.trans (congrArg some (by kernel_rfl))⟩
 f26:=⟨Tryz.f209.name,by decide,Tryz.func209.trans (congrArg some (by kernel_rfl))⟩
 f27:=⟨Tryz.f210.name,by decide,Tryz.func210.trans (congrArg some (by kernel_rfl))⟩
 f28:=Tryz.func211.trans (congrArg some (by kernel_rfl))
 f29:=Tryz.func179.trans (congrArg some (by kernel_rfl))
 f46:=⟨Tryz.f231.name,by decide,Tryz.func231.trans (congrArg some (by kernel_rfl))⟩
 f47:=Tryz.func232.trans (congrArg some (by kernel_rfl))
 f48:=Tryz.func233.trans (congrArg some (by kernel_rfl))
 f49:=⟨Tryz.f234.name,by decide,Tryz.func234.trans (congrArg some (by kernel_rfl))⟩
 f50:=⟨Tryz.f235.name,by decide,Tryz.func235.trans (congrArg some (by kernel_rfl))⟩
 f57:=⟨Tryz.f242.name,by decide,Tryz.func242.trans (congrArg some (by kernel_rfl))⟩
 t0:=Tryz.underlying0
 a0:=Tryz.isAgg0
 z0:=Tryz.sizeOf0
 v0:=Tryz.zeroValue0
 t3:=Tryz.underlying3
 a3:=Tryz.isAgg3
 z3:=Tryz.sizeOf3
 v3:=Tryz.zeroValue3
 t4:=Tryz.underlying4
 a4:=Tryz.isAgg4
 z4:=Tryz.sizeOf4
 v4:=Tryz.zeroValue4
 t5:=Tryz.underlying5
 a5:=Tryz.isAgg5
 z5:=Tryz.sizeOf5
 v5:=Tryz.zeroValue5
 t9:=Tryz.underlying9
 a9:=Tryz.isAgg9
 z9:=Tryz.sizeOf9
 v9:=Tryz.zeroValue9
 t22:=Tryz.underlying23
 a22:=Tryz.isAgg23
 z22:=Tryz.sizeOf23
 v22:=Tryz.zeroValue23
 t25:=Tryz.underlying64
 a25:=Tryz.isAgg64
 z25:=Tryz.sizeOf64
 v25:=Tryz.zeroValue64
 t39:=Tryz.underlying164
 a39:=Tryz.isAgg164
 z39:=Tryz.sizeOf164
 v39:=Tryz.zeroValue164
 t45:=Tryz.underlying187
 a45:=Tryz.isAgg187
 z45:=Tryz.sizeOf187
 v45:=Tryz.zeroValue187
 t46:=Tryz.underlying188
 a46:=Tryz.isAgg188
 z46:=Tryz.sizeOf188
 v46:=Tryz.zeroValue188
 t50:=Tryz.underlying192
 a50:=Tryz.isAgg192
 z50:=Tryz.sizeOf192
 v50:=Tryz.zeroValue192
 t53:=Tryz.underlying169
 a53:=Tryz.isAgg169
 z53:=Tryz.sizeOf169
 v53:=Tryz.zeroValue169
 t55:=Tryz.underlying144
 a55:=Tryz.isAgg144
 z55:=Tryz.sizeOf144
 v55:=Tryz.zeroValue144
 t66:=Tryz.underlying209
 a66:=Tryz.isAgg209
 z66:=Tryz.sizeOf209
 v66:=Tryz.zeroValue209
 t70:=Tryz.underlying83
 a70:=Tryz.isAgg83
 z70:=Tryz.sizeOf83
 v70:=Tryz.zeroValue83
 t76:=Tryz.underlying221
 a76:=Tryz.isAgg221
 z76:=Tryz.sizeOf221
 v76:=Tryz.zeroValue221
 t77:=Tryz.underlying222
 a77:=Tryz.isAgg222
 z77:=Tryz.sizeOf222
 v77:=Tryz.zeroValue222}
end Go.Proofs
namespace Go.Proofs
open Go.Shelf
def Tryz.sortBnd_ren:Go.Shelf.Ren:=⟨λ|6=>152|15=>176|14=>189|28=>211|29=>179|20=>215|21=>216|22=>217|23=>218|24=>219|25=>220|26=>221|27=>222|46=>236|47=>232|48=>233|49=>237|50=>238|57=>243|n=>n,λ|22=>48|24=>76|25=>150|3=>3|39=>164|0=>0|53=>169|55=>144|4=>4|46=>188|45=>187|50=>192|5=>5|9=>9|66=>209|70=>83|76=>221|77=>222|n=>n,λ|n=>n⟩
theorem Tryz.sortBnd:Go.Proofs.SlLaysF0.n6 Tryz.prog Tryz.sortBnd_ren:={
 mixed:=by kernel_rfl
 f6:=⟨Tryz.f152.name,by decide,Tryz.func152.trans (congrArg some (by kernel_rfl))⟩
 f14:=⟨Tryz.f189.name,by decide,Tryz.func189.trans (congrArg some (by kernel_rfl))⟩
 f15:=Tryz.func176.trans (congrArg some (by kernel_rfl))
 f20:=⟨Tryz.f215.name,by decide,Tryz.func215.trans (congrArg some (by kernel_rfl))⟩
 f21:=⟨Tryz.f216.name,by decide,Tryz.func216.trans (congrArg some (by kernel_rfl))⟩
 f22:=⟨Tryz.f217.name,by decide,Tryz.func217.trans (congrArg some (by kernel_rfl))⟩
 f23:=⟨Tryz.f218.name,by decide,Tryz.func218.trans (congrArg some (by kernel_rfl))⟩
 f24:=⟨Tryz.f219.name,by decide,Tryz.func219.trans (congrArg some (by kernel_rfl))⟩
 f25:=⟨Tryz.f220.name,by decide,Tryz.func220.trans (congrArg some (by kernel_rfl))⟩
 f26:=⟨Tryz.f221.name,by decide,Tryz.func221.trans (congrArg some (by kernel_rfl))⟩
 f27:=⟨Tryz.f222.name,by decide,Tryz.func222.trans (congrArg some (by kernel_rfl))⟩
 f28:=Tryz.func211.trans (congrArg some (by kernel_rfl))
 f29:=Tryz.func179.trans (congrArg some (by kernel_rfl))
 f46:=⟨Tryz.f236.name,by decide,Tryz.func236.trans (congrArg some (by kernel_rfl))⟩
 f47:=Tryz.func232.trans (congrArg some (by kernel_rfl))
 f48:=Tryz.func233.trans (congrArg some (by kernel_rfl))
 f49:=⟨Tryz.f237.name,by decide,Tryz.func237.trans (congrArg some (by kernel_rfl))⟩
 f50:=⟨Tryz.f238.name,by decide,Tryz.func238.trans (congrArg some (by kernel_rfl))⟩
 f57:=⟨Tryz.f243.name,by decide,Tryz.func243.trans (congrArg some (by kernel_rfl))⟩
 t0:=Tryz.underlying0
 a0:=Tryz.isAgg0
 z0:=Tryz.sizeOf0
 v0:=Tryz.zeroValue0
 t3:=Tryz.underlying3
 a3:=Tryz.isAgg3
 z3:=Tryz.sizeOf3
 v3:=Tryz.zeroValue3
 t4:=Tryz.underlying4
 a4:=Tryz.isAgg4
 z4:=Tryz.sizeOf4
 v4:=Tryz.zeroValue4
 t5:=Tryz.underlying5
 a5:=Tryz.isAgg5
 z5:=Tryz.sizeOf5
 v5:=Tryz.zeroValue5
 t9:=Tryz.underlying9
 a9:=Tryz.isAgg9
 z9:=Tryz.sizeOf9
 v9:=Tryz.zeroValue9
 t22:=Tryz.underlying48
 a22:=Tryz.isAgg48
 z22:=Tryz.sizeOf48
 v22:=Tryz.zeroValue48
 t25:=Tryz.underlying150
 a25:=Tryz.isAgg150
 z25:=Tryz.sizeOf150
 v25:=Tryz.zeroValue150
 t39:=Tryz.underlying164
 a39:=Tryz.isAgg164
 z39:=Tryz.sizeOf164
 v39:=Tryz.zeroValue164
 t45:=Tryz.underlying187
 a45:=Tryz.isAgg187
 z45:=Tryz.sizeOf187
 v45:=Tryz.zeroValue187
 t46:=Tryz.underlying188
 a46:=Tryz.isAgg188
 z46:=Tryz.sizeOf188
 v46:=Tryz.zeroValue188
 t50:=Tryz.underlying192
 a50:=Tryz.isAgg192
 z50:=Tryz.sizeOf192
 v50:=Tryz.zeroValue192
 t53:=Tryz.underlying169
 a53:=Tryz.isAgg169
 z53:=Tryz.sizeOf169
 v53:=Tryz.zeroValue169
 t55:=Tryz.underlying144
 a55:=Tryz.isAgg144
 z55:=Tryz.sizeOf144
 v55:=Tryz.zeroValue144
 t66:=Tryz.underlying209
 a66:=Tryz.isAgg209
 z66:=Tryz.sizeOf209
 v66:=Tryz.zeroValue209
 t70:=Tryz.underlying83
 a70:=Tryz.isAgg83
 z70:=Tryz.sizeOf83
 v70:=Tryz.zeroValue83
 t76:=Tryz.underlying221
 a76:=Tryz.isAgg221
 z76:=Tryz.sizeOf221
 v76:=Tryz.zeroValue221
 t77:=Tryz.underlying222
 a77:=Tryz.isAgg222
 z77:=Tryz.sizeOf222
 v77:=Tryz.zeroValue222}
end Go.Proofs
namespace Go.GxZ
open Go.RowKit
def Box(w:World)(b:Nat)(e d c a:Value):Prop:=
 w.cell? ⟨b,0,none⟩=some e/\w.cell? ⟨b,1,none⟩=some d/\w.cell? ⟨b,2,none⟩=some c/\w.cell? ⟨b,3,none⟩=some a
theorem Box.keep{w u:World}{b:Nat}{g f e d:Value}{B:Nat}(h:Box w b g f e d)(c:b<B)(a:Below B w u):Box u b g f e d:=
 ⟨(a.cell c).trans h.1,(a.cell c).trans h.2.1,(a.cell c).trans h.2.2.1,(a.cell c).trans h.2.2.2⟩
theorem qyk(w:World)(d c b a:Value)(t:TypeId):Box (w.alloc (Obj.cells #[d,c,b,a] t)) w.heap.size d c b a:=
 ⟨by rw[World.cell?_alloc_mark];rfl,by rw[World.cell?_alloc_mark];rfl,by rw[World.cell?_alloc_mark];rfl,by rw[World.cell?_alloc_mark];rfl⟩
theorem qPS(w:World)(e d c b:Value)(t:TypeId):
  ∃a,w.alloc (Obj.cells #[e,d,c,b] t)=a/\Below w.heap.size w a/\a.heap.size=w.heap.size+1/\∀u,Below a.heap.size a u->Box u w.heap.size e d c b:=
 ⟨_,rfl,(Below.refl _ _).alloc (wa _) _,by simp,λ _ f=>(qyk w e d c b t).keep (by simp) f⟩
theorem qKT(w:World)(d c b a f y1 y2 y3:Value)(t g:TypeId):
  ∃e,(w.alloc (Obj.cells #[d,c,b,a] t)).alloc (Obj.cells #[f,y1,y2,y3] g)=e/\Below w.heap.size w e/\e.heap.size=w.heap.size+2/\
   ∀u,Below e.heap.size e u->Box u w.heap.size d c b a/\Box u (w.heap.size+1) f y1 y2 y3:=by
 refine⟨_,rfl,((Below.refl _ _).alloc (wa _) _).alloc (by simp) _,by simp,λ u h=>⟨?_,?_⟩⟩
 .exact((qyk w d c b a t).keep (B:=w.heap.size+1) (by omega) (((Below.refl _ _).alloc (by simp) _))).keep (by simp;omega) h
 .have:=qyk (w.alloc (Obj.cells #[d,c,b,a] t)) f y1 y2 y3 g;rw[show(w.alloc (Obj.cells #[d,c,b,a] t)).heap.size=w.heap.size+1 by simp]at this;exact this.keep (by simp) h
theorem qyx(w:World)(b:Nat)(n y1 y2 y3 m l g f:Value)(h:Box w b n y1 y2 y3):
  ∃w',(((w.setCell ⟨b,0,none⟩ m).setCell ⟨b,1,none⟩ l).setCell ⟨b,2,none⟩ g).setCell ⟨b,3,none⟩ f=w'/\Box w' b m l g f/\(∀B,B<=b->∀w0,Below B w0 w->Below B w0 w')/\
   w'.heap.size=w.heap.size/\(∀k,k≠b->w'.heap[k]?=w.heap[k]?)/\(∀a,w'.frozen? a=w.frozen? a):=by
 let⟨r,q,p,o⟩:=h;have c:∀i j:Nat,i≠j->(⟨b,i,none⟩:Addr)≠⟨b,j,none⟩:=λ i j h k=>h (by cases k;rfl);refine⟨_,rfl,⟨?_,?_,?_,?_⟩,λ B e w0 h=>(((h.setCell e _).setCell e _).setCell e _).setCell e _,by simp,λ k d=>?_,λ a=>by simp⟩
 .rw[World.cell?_setCell_other _ _ _ _ (c 3 0 (by decide)),World.cell?_setCell_other _ _ _ _ (c 2 0 (by decide)),World.cell?_setCell_other _ _ _ _ (c 1 0 (by decide))];exact World.cell?_setCell_same _ _ _ r
 .rw[World.cell?_setCell_other _ _ _ _ (c 3 1 (by decide)),World.cell?_setCell_other _ _ _ _ (c 2 1 (by decide))];refine World.cell?_setCell_same _ _ _ (u:=y1) ?_;rw[World.cell?_setCell_other _ _ _ _ (c 0 1 (by decide))];exact q
 .rw[World.cell?_setCell_other _ _ _ _ (c 3 2 (by decide))];refine World.cell?_setCell_same _ _ _ (u:=y2) ?_;rw[World.cell?_setCell_other _ _ _ _ (c 1 2 (by decide)),World.cell?_setCell_other _ _ _ _ (c 0 2 (by decide))];exact p
 .refine World.cell?_setCell_same _ _ _ (u:=y3) ?_;rw[World.cell?_setCell_other _ _ _ _ (c 2 3 (by decide)),World.cell?_setCell_other _ _ _ _ (c 1 3 (by decide)),World.cell?_setCell_other _ _ _ _ (c 0 3 (by decide))];exact o
 .rw[Below.heap_setCell _ _ _ _ d,Below.heap_setCell _ _ _ _ d,Below.heap_setCell _ _ _ _ d,Below.heap_setCell _ _ _ _ d]
theorem Box.same{w u:World}{b:Nat}{g f e d:Value}(h:Box w b g f e d)(c:u.heap[b]?=w.heap[b]?):Box u b g f e d:=
 ⟨(World.cell?_of_block (w:=w) (a:=⟨b,0,none⟩) c).trans h.1,(World.cell?_of_block (w:=w) (a:=⟨b,1,none⟩) c).trans h.2.1,(World.cell?_of_block (w:=w) (a:=⟨b,2,none⟩) c).trans h.2.2.1,(World.cell?_of_block (w:=w) (a:=⟨b,3,none⟩) c).trans h.2.2.2⟩
end Go.GxZ
namespace Go.Proofs.YtinbdcelmgfniaaGreatDoor
open Go Go.RowKit Go.GxZ Go.AmZ Go.Lib
theorem qFm:qm9 Tryz.prog .term 23 25 56:=⟨by
 have h:(match yN Tryz.prog 23 with|some ⟨_,_,_,_,.slice e k b z⟩=>Nat.beq e 25&&(Nat.beq k 4&&(Nat.beq b 56&&Nat.beq z.length 4))|_=>false)=true:=by kernel_rfl
 split at h
 .rename_i l j i g e k b z m;simp only[wc]at h;let⟨f,d,c,a⟩:=h;have f:=wn f;have d:=wn d;have c:=wn c;have a:=wn a;subst f;subst d;subst c;exact⟨l,j,i,g,z,m,a⟩
 .cases h⟩
theorem qGj{F:Val RD->Option qj6}{k:Nat}{b:Val RD}{r:(Val RD×Unit)×(T×Unit)}(h:qo0 F k b=some r):∃a nk nm sk lf,F b=some ((a,()),((nk,nm,sk,[],lf,()),()))/\qjP F k [(T.mk nk nm sk [],lf)] a=some r:=by
 unfold qo0 at h;cases c:qd7 F b with
 |none=>rw[c]at h;cases h
 |some x=>
   let⟨a,nk,nm,sk,lf⟩:=x;rw[c]at h;exact⟨a,nk,nm,sk,lf,qsV c,h⟩
def qJI(a:Gh)(w0:World)(b:Val RD)(t:T)(e:Ending)(w':World):Prop:=∃(us:List Value) (Γ:Gh) (σ:St),e=.returned (.agg us.toArray)/\RS a w0 b Γ σ w'/\RepL Γ (qd .term t) us/\∀u∈us,u.oneCell'=true
theorem qJr:(Tryz.prog.info? 79).map (λ i=>(i.zero,i.size,i.bytes))=some (some (.agg #[.int .i64 0,.string ⟨#[]⟩,.int .i64 0,.slice none 0 0,.int .i64 0]),5,64):=by kernel_rfl
set_option maxHeartbeats 4000000 in
set_option maxRecDepth 1000000 in
theorem qHA{F:Val RD->Option qj6}(hF:qT Tryz.prog 67 (sgP (qo8 F))){k:Nat}{Γ0:Gh}{σ0:St}{w0:World}{rd rd':Val RD}{t:T}(h0:Inv Γ0 σ0 w0)(hb : σ0.bx=[qd RD rd])(hr : σ0.rw=[])(hf:qo0 F k rd=some ((rd',()),(t,()))) :
  Calls Tryz.prog 35 #[.pointer (some ⟨Γ0.β 0,0,none⟩)] w0 (qJI Γ0 w0 rd' t):=by
 have HF:=Lib.hid hF;have hS:RS Γ0 w0 rd Γ0 σ0 w0:=⟨.refl _ _,h0,hb⟩
 have HS:=Lib.hid hS;have HR:=Lib.hid hr;have HQ:=Lib.hid hf;clear hF hS hr hf h0 hb;generalize hβ : Γ0.β 0 = β;have Hβ := Lib.hid hβ;clear hβ
 go_enter Tryz.func35,Tryz.ntmps35
 obtain⟨rd1,nk,nm,sk,lf,hf1,hl1⟩:=qGj HQ.out
 have hc1:∀ o:Obj,Calls Tryz.prog 67 #[.pointer (some ⟨β,0,none⟩)] (w0.alloc o) λ e w'=>∃ Γ' σ' ku,e = .returned (.agg #[.int .i64 nk,.string ⟨nm.toArray⟩,.int .i64 sk,ku,.int .i64 lf])/\Ext Γ0 (w0.alloc o) Γ' w'/\RS Γ0 w0 rd1 Γ' σ' w' /\ σ'.rw = σ0.rw++[⟨4,[],0,0,false⟩]/\Rep Γ' (.rs σ0.rw.length 0 0 0 false) ku := λ o=>by
  rw[<- Hβ.out];exact qwc HF.out hf1 (HS.out.alloc o)
 have HC1:=Lib.hid hc1;have HL1:=Lib.hid hl1;clear hc1 hl1 hf1
 go_wp2_with (go_at_call 67;refine(HC1.out _).mono ?_;rintro e w1 ⟨Γ1,σ1,ku,rfl,hx1,hS1,hrw1,hku1⟩)
 have hR1 : σ1.rw[σ0.rw.length]?=some ⟨4,[],0,0,false⟩:=by rw[hrw1];simp
 have hsz1:w0.heap.size+1<=w1.heap.size:=by have:=hx1.size;simpa using this
 have hres0:qcw Γ0 (w0.alloc (Obj.cells #[.int .i64 0,.string ⟨#[]⟩,.int .i64 0,.slice none 0 0] 25)) w0.heap.size 25 :=
  ⟨qeE.new HS.out.i (wa _),by simp,heap_alloc_new w0 _⟩
 have hres1:=hres0.ext hx1;obtain⟨hS2,hK2⟩:=qNq (N:=79) (B:=w0.heap.size) hS1 (by omega) (nk:=nk) (sk:=sk) (nm:=nm) (lf:=lf) hR1 hku1;have hres2:qcw Γ1 (w1.alloc (Obj.cells #[.int .i64 nk,.string ⟨nm.toArray⟩,.int .i64 sk,ku,.int .i64 lf] 79)) w0.heap.size 25:=hres1.same (by simp) (Below.heap_alloc _ _ _ hres1.2.1);have hbet:∀{Γ : Gh},Le Γ0 Γ -> Γ.β 0 = β := λ h=>(h.β 0 (by rw[HS.out.i.nb,HS.out.bx];exact wao)).trans Hβ.out;have HBET:Hid (∀{Γ : Gh},Le Γ0 Γ -> Γ.β 0 = β):=@hbet;have HS2:=Lib.hid hS2;have HK2:=Lib.hid hK2;have HRES2:=Lib.hid hres2;have HSZ1:=Lib.hid hsz1;clear hR1 hres0 hres1 hS2 hK2 hres2 hx1 hS1 hrw1 hku1 hbet hsz1 HC1
 go_loopg [3] k (λ g1 v3 wr=>∃(st:List (T × Int)) (ids:List Nat) (g cap:Nat) (cs:List Value) (Γ : Gh) (σ : St) (rdx:Val RD),v3 = .slice (some ⟨g,0,none⟩) (st.length:Nat) cap/\Hid (RS Γ0 w0 rdx Γ σ wr)/\Hid (Stk w0.heap.size 79 Γ σ wr st ids g cap cs)/\Hid (qcw Γ wr w0.heap.size 25/\w0.heap.size≠g)/\Hid (qjP F g1 st rdx=some ((rd',()),(t,()))))
 case atStart=>exact⟨_,_,_,_,_,_,_,_,rfl,HS2.out,HK2.out,⟨HRES2.out,by have:=HSZ1.out;omega⟩,HL1.out⟩
 case round =>
  obtain⟨st,ids,g,cap,cs,Γ,σ,rdx,rfl,HSr,HKr,HRr,HLr⟩:=hrel;clear HS2 HK2 HRES2 HL1 HSZ1
  obtain⟨m,hm⟩:∃ m,gk=m+1:=by
   cases gk with
   | zero=>exact absurd HLr.out (by intro h;cases h)
   | succ m=>exact⟨m,rfl⟩
  have HLm:Hid (qjP F (m+1) st rdx=some ((rd',()),(t,()))):=by rw[<- hm];exact HLr
  clear HLr;obtain⟨hw0,hw1,hw2⟩:=HSr.out.box;rw[HBET.out HSr.out.x.le]at hw0 hw1 hw2;clear hw0 hw1;rcases qG9 (show qlQ F (qjP F m) st rdx=some ((rd',()),(t,()))from HLm.out)with⟨hw,he⟩ | ⟨hw,p,top,lt,hlen,hp,hcase⟩
  ·rw[hw]at hw2;cases he;obtain⟨r0,r1,r2,r3,rf⟩:=HRr.out.1.cells;have RF:=Lib.hid rf;have f0:=rf 0;have f1:=rf 1;have f2:=rf 2;have f3:=rf 3;clear rf
   go_wp2_with fail
   obtain⟨w9,hw9,⟨b0,b1,b2,b3⟩,_⟩:=qyx wr w0.heap.size _ _ _ _ (.int .i64 0) (.string ⟨#[]⟩) (.int .i64 0) (.slice none 0 0) ⟨r0,r1,r2,r3⟩;have hS9:=HSr.out.put4 HRr.out.1.1 (wa _) (.int .i64 0) (.string ⟨#[]⟩) (.int .i64 0) (.slice none 0 0);rw[hw9]at hS9 |-
   refine bodyPost_ret (v := .agg #[.int .i64 0,.string ⟨#[]⟩,.int .i64 0,.slice none 0 0]) (by simp[results,Tryz.results35,go_sem,b0,b1,b2,b3]) rfl ?_;exact⟨_,Γ,σ,rfl,hS9,qhA (t := .mk 0 [] 0 []) qCj,qpq rfl⟩
  ·rw[hw]at hw2;obtain⟨r,hr,NC⟩:=HKr.out.at hp;have hcap:=qMU HKr.out.own;have hpm:p+1<=maxLen:=by omega
   unfold maxLen at hpm;have hwp:IntKind.i64.wrap (((p+1:Nat):Int)-1)=(p:Int):=by rw[IntKind.wrap_i64];omega
   obtain⟨Rp,kp,z1,z2,z3,z4,z5,z6,a0,a1,a2,a3,a4⟩:=NC;obtain⟨c4,f4⟩:=HKr.out.cell a4;have hz:(p:Int)<((p+1:Nat):Int):=by omega
   rcases hcase with⟨hlt,hroom,rd1,nk1,nm1,sk1,lf1,hf1,hih⟩ | ⟨hlt,hend⟩
   ·clear z1 z2 z3 z4 z5 z6 a0 a1 a2 a3;rw[hlen]
    go_upto_region 6 with(fail)
    have hwr:iw .i64 (yc lt 1)=wrap64 (lt-1):=by show IntKind.i64.wrap (lt-1)=_;rw[IntKind.wrap_i64];unfold wrap64;rfl
    rw[hwr]at hih;have hS2:=HSr.out.set HKr.out.priv (qcE HKr.out.own).1 (p*5+4) (.int .i64 (wrap64 (lt-1)));have hK2:=HKr.out.left hp (wrap64 (lt-1));have hR2:qcw Γ (wr.setCell ⟨g,p*5+4,none⟩ (.int .i64 (wrap64 (lt-1)))) w0.heap.size 25:=HRr.out.1.same (by simp) (Below.heap_setCell _ _ _ _ HRr.out.2);have hc:=qwc HF.out hf1 hS2;rw[HBET.out HSr.out.x.le]at hc;generalize wr.setCell ⟨g,p*5+4,none⟩ (.int .i64 (wrap64 (lt-1)))=w2 at *;have HC:=Lib.hid hc;have HK2:=Lib.hid hK2;have HR2:=Lib.hid hR2;have HIH:=Lib.hid hih;have HRM:=Lib.hid hroom;have HLEN:=Lib.hid hlen;have HNG:=Lib.hid HRr.out.2;clear hc hK2 hR2 hih hroom hS2 HSr HKr HRr hlen hcap hwp hz c4 f4 a4 hr hp hf1 hw2 hwr;obtain⟨i0,hi,hz0,hz1,hz2⟩:=info_parts qJr
    go_wp2_with (first
     | (go_at_call 67;refine HC.out.mono ?_;rintro e w3 ⟨Γ3,σ3,ku3,rfl,hx3,hS3,hrw3,hku3⟩
        have hK3:=HK2.out.later hx3 (σ' := σ3) (λ r _ R h=>by rw[hrw3,List.getElem?_append_left (getElem?_lt h)];exact h);have hR3:=HR2.out.ext hx3;have hnid : σ.rw.length ∉ ids:=HK2.out.id_lt;have hlen2:(st.set p (top,wrap64 (lt-1))).length=p+1:=by rw[wI];exact HLEN.out
        obtain⟨v4,w4,hrun4,g4,cap4,hv4,hS4,hK4,hsz4,hbl4,hg4⟩:=qKY Tryz.underlying81 hi hz0 hz1 hz2 rfl hS3 hK3 (wa _) (nk:=nk1) (nm:=nm1) (sk:=sk1) (lf:=lf1) (r := σ.rw.length) (by rw[hrw3];simp) hku3 hnid (by rw[hlen2];exact HRM.out) 81;have hR4:qcw Γ3 w4 w0.heap.size 25:=hR3.same hsz4 (hbl4 _ hR3.2.1 HNG.out);have hng4:w0.heap.size≠g4:=by rcases hg4 with rfl | h;exact HNG.out;have:=hR3.2.1;omega
        rw[hlen2]at hrun4 hv4;subst hv4;have HS4:=Lib.hid hS4;have HK4:=Lib.hid hK4;have HR4:=Lib.hid hR4;have HNG4:=Lib.hid hng4;have HRUN:=Lib.hid hrun4;clear hx3 hS3 hrw3 hku3 hK3 hR3 hnid hlen2 hrun4 hS4 hK4 hsz4 hbl4 hg4 hR4 hng4)
     | (at_builtin;refine qxv _ _ _ rfl rfl rfl rfl HRUN.out ?_))
    go_roundg m
    case measure=>omega
    case rel=>exact⟨_,_,g4,cap4,_,Γ3,σ3,rd1,by rw[wd,wI,HLEN.out];rfl,HS4.out,HK4.out,⟨HR4.out,HNG4.out⟩,HIH.out⟩
   ·obtain⟨c0,f0⟩:=HKr.out.cell a0;obtain⟨c1,f1⟩:=HKr.out.cell a1;obtain⟨c2,f2⟩:=HKr.out.cell a2;obtain⟨c3,f3⟩:=HKr.out.cell a3;have hgl:=(qcE HKr.out.own).2;have hbl:w0.heap.size<wr.heap.size:=HRr.out.1.2.1;have NC:qiq Γ σ cs p top lt r:=⟨Rp,kp,z1,z2,z3,z4,z5,z6,a0,a1,a2,a3,a4⟩
    have hk1:=z6.one rfl;obtain⟨pa,kn,kc,rfl⟩:∃ pa kn kc,kp = .slice pa kn kc:=by cases z6;exact⟨_,_,_,rfl⟩
    clear z1 z2 z3 z4 z5 z6 a0 a1 a2 f0 f1 f2 f3 f4;rcases hend with⟨rfl,he⟩ | ⟨q,par,n,rfl,hq,hroom,hih⟩
    ·cases he;rw[hlen];have hR5:∀ o:Obj,qcw Γ (wr.alloc o) w0.heap.size 25 := λ o=>HRr.out.1.same (by simp) (Below.heap_alloc _ _ _ hbl);obtain⟨r0,r1,r2,r3,rf⟩:=HRr.out.1.cells;have f0:=rf 0;have f1:=rf 1;have f2:=rf 2;have f3:=rf 3;clear rf;have HNC:=Lib.hid NC;have HR5:=Lib.hid hR5;have HLT:=Lib.hid hlt;have HK1:=Lib.hid hk1;clear NC hR5 hk1
     go_wp2_with fail
     obtain⟨w9,hw9,⟨b0,b1,b2,b3⟩,_,hsz9,_⟩:=qyx wr w0.heap.size _ _ _ _ (.int .i64 t.kind) (.string ⟨t.name.toArray⟩) (.int .i64 t.sort) (.slice pa kn kc) ⟨r0,r1,r2,r3⟩;have hS9:=HSr.out.put4 HRr.out.1.1 (wa _) (.int .i64 t.kind) (.string ⟨t.name.toArray⟩) (.int .i64 t.sort) (.slice pa kn kc);rw[hw9]at hS9 |-
     have hl9:w0.heap.size<w9.heap.size:=by rw[hsz9];exact hbl
     refine bodyPost_ret (v := .agg #[.int .i64 t.kind,.string ⟨t.name.toArray⟩,.int .i64 t.sort,.slice pa kn kc]) (by simp[results,Tryz.results35,go_sem,b0,b1,b2,b3,hl9]) rfl ?_;have hS10:=hS9.alloc (.cells #[.int .i64 t.kind,.string ⟨t.name.toArray⟩,.int .i64 t.sort,.slice pa kn kc] 25);obtain⟨Γ1,σ9,kx,y1,y2,y3,y4,y5,y6,y7⟩:=qDE hS10.i HNC.out;obtain⟨_,kx',_,_,_,_,_,_,_,_,_,y8,_⟩:=HNC.out;have hcs:cs[0*5+3]?=some (.slice pa kn kc):=a3;rw[hcs]at y5;cases y5;exact⟨[.int .i64 t.kind,.string ⟨t.name.toArray⟩,.int .i64 t.sort,.slice pa kn kc],Γ1,σ9,rfl,⟨hS10.x.trans y3,y4,y1.trans hS10.bx⟩,qhA y6,qpq rfl⟩
    ·rw[hlen];have HNC:=Lib.hid NC;have HK1:=Lib.hid hk1;have HIH:=Lib.hid hih;have HRM:=Lib.hid hroom;have HQ2:=Lib.hid hq;have HP:=Lib.hid hp;have hqm:q+1+1<=2 ^ 63-1:=hpm;have hz2:¬ ((q:Int)+1=0):=by omega
     clear NC hk1 hih hroom hq HQ
     go_upto_region 11 with(fail)
     obtain⟨w5,hw5,hb5,hs5,hbx5⟩:=qPS wr (.int .i64 top.kind) (.string ⟨top.name.toArray⟩) (.int .i64 top.sort) (.slice pa kn kc) 25;have hS5:=HSr.out.alloc (.cells #[.int .i64 top.kind,.string ⟨top.name.toArray⟩,.int .i64 top.sort,.slice pa kn kc] 25);have hK5:=HKr.out.grown (World.grownBy_alloc wr (.cells #[.int .i64 top.kind,.string ⟨top.name.toArray⟩,.int .i64 top.sort,.slice pa kn kc] 25) none) (λ e=>by cases e);have hR5:qcw Γ (wr.alloc (.cells #[.int .i64 top.kind,.string ⟨top.name.toArray⟩,.int .i64 top.sort,.slice pa kn kc] 25)) w0.heap.size 25:=HRr.out.1.same (by simp) (Below.heap_alloc _ _ _ hbl);rw[hw5]at hS5 hK5 hR5 |-
     have g5:=hbx5 _ (Below.refl _ _);have HS5:=Lib.hid hS5;have HK5:=Lib.hid hK5;have HR5:=Lib.hid hR5;have G5:=Lib.hid g5;have HNG:=Lib.hid HRr.out.2;have HA3:=Lib.hid a3;have HSZ5:=Lib.hid hs5;clear hbx5 hw5 hb5 hS5 hK5 hR5 g5 HSr HKr HRr c0 c1 c2 c3 c4 a4 a3 hw2 hgl hbl hs5 hlen hp hcap hwp hr
     have key:∀ bv:Value,RS Γ0 w0 rdx Γ σ (w5.alloc (.cells #[bv] 4)).drew/\Stk w0.heap.size 79 Γ σ (w5.alloc (.cells #[bv] 4)).drew st ids g cap cs/\qcw Γ (w5.alloc (.cells #[bv] 4)).drew w0.heap.size 25/\Box (w5.alloc (.cells #[bv] 4)).drew wr.heap.size (.int .i64 top.kind) (.string ⟨top.name.toArray⟩) (.int .i64 top.sort) (.slice pa kn kc) := λ bv =>
      ⟨(HS5.out.alloc _).drew',(HK5.out.grown (World.grownBy_alloc w5 (.cells #[bv] 4) none) (λ e=>by cases e)).drew,(HR5.out.same (by simp) (Below.heap_alloc _ _ _ HR5.out.2.1)).drew,G5.out.same (Below.heap_alloc _ _ _ (by have:=HSZ5.out;omega))⟩
     have KEY:=Lib.hid key;clear key
     go_region
     ·obtain⟨w6,hw6⟩:∃ w6,(w5.alloc (.cells #[.bool false] 4)).drew=w6:=⟨_,rfl⟩
      obtain⟨k1,k2,k3,k4⟩:=KEY.out (.bool false);rw[hw6]at k1 k2 k3 k4 |-
      have HS6:=Lib.hid k1;have HK6:=Lib.hid k2;have HR6:=Lib.hid k3;have G6:=Lib.hid k4;clear KEY hw6 k1 k2 k3 k4 HS5 HK5 HR5 G5 HSZ5
      go_upto_region 14 with(fail)
      obtain⟨Γ7,σ7,kx,b4,hS7,hK7,hx7,hx6⟩:=qER HS6.out.drew' HK6.out.drew HP.out;rw[HA3.out]at b4;cases b4;have hql:q<st.length:=getElem?_lt HQ2.out;obtain⟨kq,rq,b0,_,_,v8,w8,hrun,⟨pa8,kc8,hv8⟩,Γ8,σ8,hx8,hS8,hK8⟩:=qFa qFm hS7 hK7 (wa _) (q:=q) (t:=par) (n:=n) (by rw[List.getElem?_take,if_pos (by omega)];exact HQ2.out) hx7 HRM.out 25 23;rw[xI,km (by omega)]at hK8;subst hv8;obtain⟨c6,f6⟩:=hK7.cell b0;obtain⟨c0,c1,c2,c3⟩:=G6.out;have c7:∀ o:Obj,(w6.alloc o).cell? ⟨g,q*5+3,none⟩=some kq := λ o=>(World.cell?_alloc_lt _ _ _ (by show g<_;exact(qcE HK6.out.own).2)).trans c6;have hbk:=(hK7.priv.ext hx8 (by exact(qcE HK6.out.own).2)).2;have c8:w8.cell? ⟨g,q*5+3,none⟩=some kq:=(World.cell?_of_block (w:=w6) (a:=⟨g,q*5+3,none⟩) hbk).trans c6;have f8:w8.frozen? ⟨g,q*5+3,none⟩=false:=(World.frozen?_of_block (w:=w6) (a:=⟨g,q*5+3,none⟩) hbk).trans f6;have HR8:=Lib.hid ((HR6.out.drew.ext hx6).ext hx8);have HS8:=Lib.hid hS8;have HK8:=Lib.hid hK8;have hrun:(Builtin.append_ #[23,23] 23 #[kq,.slice (some ⟨w6.heap.size,0,none⟩) 1 1]).run Tryz.prog (w6.alloc (.cells #[.int .i64 top.kind,.string ⟨top.name.toArray⟩,.int .i64 top.sort,.slice pa kn kc] 25)).drew = .ok (.slice pa8 (par.kids.length+1) kc8) w8:=hrun;have HRUN:=Lib.hid hrun;have hl9:(st.take q++[(T.mk par.kind par.name par.sort (par.kids++[top]),n)]).length=q+1:=by rw[wd,wk];simp;omega
      have HL9:=Lib.hid hl9;clear hx8 hS8 hK8 hrun b0 hbk HS6 HK6 HR6 G6 hS7 hK7 hx7 hx6 hl9 hql;have hwq:IntKind.i64.wrap (q:Int)=(q:Int):=by rw[IntKind.wrap_i64];omega
      have hqz:(q:Int)<(q:Int)+1:=by omega
      go_region_law (first | (refine qnF rfl _ _ _ rfl rfl rfl HRUN.out ?_))
      all_goals
       go_wp2_with fail
       go_roundg m
       case measure=>omega
       case rel=>exact⟨_,_,g,cap,_,Γ8,σ8,rdx,by rw[HL9.out],HS8.out,HK8.out,⟨HR8.out.same (by simp) (Below.heap_setCell _ _ _ _ HNG.out),HNG.out⟩,HIH.out⟩
     ·obtain⟨w6,hw6⟩:∃ w6,(w5.alloc (.cells #[.bool true] 4)).drew=w6:=⟨_,rfl⟩
      obtain⟨k1,k2,k3,k4⟩:=KEY.out (.bool true);rw[hw6]at k1 k2 k3 k4 |-
      have HS6:=Lib.hid k1;have HK6:=Lib.hid k2;have HR6:=Lib.hid k3;have G6:=Lib.hid k4;clear KEY hw6 k1 k2 k3 k4 HS5 HK5 HR5 G5 HSZ5
      go_upto_region 12 with(fail)
      obtain⟨Γ7,σ7,kx,b4,hS7,hK7,hx7,hx6⟩:=qER HS6.out.drew' HK6.out.drew HP.out;rw[HA3.out]at b4;cases b4;have hql:q<st.length:=getElem?_lt HQ2.out;obtain⟨kq,rq,b0,_,⟨pa7,kc7,rfl⟩,v8,w8,hrun,⟨pa8,kc8,hv8⟩,Γ8,σ8,hx8,hS8,hK8⟩:=qFa qFm hS7 hK7 (wa _) (q:=q) (t:=par) (n:=n) (x := .mk 0 [] 0 []) (by rw[List.getElem?_take,if_pos (by omega)];exact HQ2.out) qCj HRM.out 25 23;rw[xI,km (by omega)]at hK8;subst hv8;obtain⟨c6,f6⟩:=hK7.cell b0;obtain⟨c0,c1,c2,c3⟩:=G6.out;have c7:∀ o:Obj,(w6.alloc o).cell? ⟨g,q*5+3,none⟩=some (.slice pa7 par.kids.length kc7) := λ o=>(World.cell?_alloc_lt _ _ _ (by show g<_;exact(qcE HK6.out.own).2)).trans c6;have hwl:wr.heap.size<w6.heap.size:=qrP c0;have hbk:=(hK7.priv.ext hx8 (by exact(qcE HK6.out.own).2)).2;have c8:w8.cell? ⟨g,q*5+3,none⟩=some (.slice pa7 par.kids.length kc7):=(World.cell?_of_block (w:=w6) (a:=⟨g,q*5+3,none⟩) hbk).trans c6;have f8:w8.frozen? ⟨g,q*5+3,none⟩=false:=(World.frozen?_of_block (w:=w6) (a:=⟨g,q*5+3,none⟩) hbk).trans f6;have hR8:qcw Γ8 (w8.setCell ⟨g,q*5+3,none⟩ (.slice pa8 (par.kids.length+1) kc8)) w0.heap.size 25:=((HR6.out.drew.ext hx6).ext hx8).same (by simp) (Below.heap_setCell _ _ _ _ HNG.out);have hl9:(st.take q).length=q:=by rw[wk];omega
      obtain⟨b,kc9,y1,y2,y3,y4,y5,Γ9,σ9,hx9,hS9,hK9⟩:=qNK hS8 hK8 (q:=q) (ks:=par.kids) (z := .mk 0 [] 0 []) (x:=top) (n:=n) (by rw[List.getElem?_append_right (by omega),hl9,kK];rfl) rfl (hx7.mono hx8.le)
      have y6:pa8=some ⟨b,0,none⟩/\kc8=kc9:=by
       rw[List.getElem?_take,if_pos (by omega),List.getElem?_set_self (by rw[hK7.own.1,wk];omega)]at y1;cases y1;exact⟨rfl,rfl⟩
      obtain⟨rfl,rfl⟩:=y6;obtain⟨u0,d0⟩:=y4 0 (by decide);obtain⟨u1,d1⟩:=y4 1 (by decide);obtain⟨u2,d2⟩:=y4 2 (by decide);obtain⟨u3,d3⟩:=y4 3 (by decide);have g0:=y5 (par.kids.length*4);have g1:=y5 (par.kids.length*4+1);have g2:=y5 (par.kids.length*4+2);have g3:=y5 (par.kids.length*4+3);have hres:b≠w0.heap.size := λ e=>hR8.1.own (e▸y3);have hR9:=(hR8.ext hx9)
      have hrun:(Builtin.append_ #[23,23] 23 #[.slice pa7 par.kids.length kc7,.slice (some ⟨w6.heap.size,0,none⟩) 1 1]).run Tryz.prog (w6.alloc (.cells #[.int .i64 0,.string ⟨#[]⟩,.int .i64 0,.slice none 0 0] 25)).drew = .ok (.slice (some ⟨b,0,none⟩) (par.kids.length+1) kc8) w8:=hrun;obtain⟨w9,hw9⟩:∃ w9,w8.setCell ⟨g,q*5+3,none⟩ (.slice (some ⟨b,0,none⟩) (par.kids.length+1) kc8)=w9:=⟨_,rfl⟩
      rw[hw9]at hS9 hK9 hR9 d0 d1 d2 d3 g0 g1 g2 g3;rw[wL]at d0
      have hl10:((st.take q++[(T.mk par.kind par.name par.sort (par.kids++[T.mk 0 [] 0 []]),n)]).set q (T.mk par.kind par.name par.sort (par.kids++[top]),n))=st.take q++[(T.mk par.kind par.name par.sort (par.kids++[top]),n)]:=by
       rw[vQ _ _ (by omega),hl9,kK];rfl
      have hK9:Stk w0.heap.size 79 Γ9 σ9 _ ((st.take q++[(T.mk par.kind par.name par.sort (par.kids++[T.mk 0 [] 0 []]),n)]).set q (T.mk par.kind par.name par.sort (par.kids++[top]),n)) _ g cap _:=hK9;rw[hl10]at hK9;have hl11:(st.take q++[(T.mk par.kind par.name par.sort (par.kids++[top]),n)]).length=q+1:=by rw[wd,hl9];rfl
      have HL11:=Lib.hid hl11;have HS9:=Lib.hid hS9;have HK9:=Lib.hid hK9;have HR9:=Lib.hid hR9;have HRUN:=Lib.hid hrun;have HW9:=Lib.hid hw9;have hwq:IntKind.i64.wrap (q:Int)=(q:Int):=by rw[IntKind.wrap_i64];omega
      have hqz:(q:Int)<(q:Int)+1:=by omega
      have hnz:(par.kids.length:Int)<(par.kids.length:Int)+1:=by omega
      clear hx8 hS8 hK8 hrun b0 hbk HS6 HK6 HR6 G6 hS7 hK7 hx7 hx6 hl9 hql hR8 hx9 hS9 hK9 hR9 hw9 hl10 hl11 y1 y2 y3 y4 y5 hres
      go_region_law (first | (refine qnF rfl _ _ _ rfl rfl rfl HRUN.out ?_))
      all_goals
       rw[HW9.out]
       go_wp2_with fail
       go_roundg m
       case measure=>omega
       case rel=>exact⟨_,_,g,cap,_,Γ9,σ9,rdx,by rw[HL11.out],HS9.out,HK9.out,⟨HR9.out,HNG.out⟩,HIH.out⟩
end Go.Proofs.YtinbdcelmgfniaaGreatDoor
namespace Go.AmZ
open Go Go.RowKit Go.GxZ
theorem qJB{ds:List AV}{e:Val RD}(h:qF RD (ds.take (Ty.size RD))=some e)(j:ds.drop (Ty.size RD)=[]):ds=qd RD e:=by
 have k:ds.take (Ty.size RD)=ds:=kH (List.drop_eq_nil_iff.1 j);rw[k]at h;have h:=qQ.1 h;let⟨s,f,w⟩:=e;change qoD (yJ .str) (qoD (yJ (.int .i64)) (yJ .bool)) ds=_ at h;unfold qoD at h;split at h<;>try cases h
 rename_i x r c;split at h<;>cases h;rename_i y d;split at d<;>try cases d
 rename_i l g a;split at d<;>cases d;rename_i b;have c:qdi ds=some (s,r):=c;have a:JH .i64 r=some (f,g):=a;have b:qda g=some (w,[]):=b;unfold qdi at c;split at c<;>cases c;unfold JH at a;split at a<;>try cases a
 rename_i i;split at a<;>cases a;have i:=of_decide_eq_true (by assumption);subst i;unfold qda at b;split at b<;>cases b;rfl
theorem qMg{σ:St}{ys:List AV}{a:QD [.box [.val RD]]}(h:dS σ [.box [.val RD]] 0 0 ys=some a):ys=[.ptr 0 0]/\σ.bx=[qd RD a.1]/\σ.rw=[]:=by
 cases ys with
 |nil=>simp[dS]at h
 |cons y ys=>
   simp only[dS]at h;cases c:qiU σ [.val RD] 0 0 y with
   |none=>rw[c]at h;cases h
   |some p=>
     let⟨v,n⟩:=p;rw[c]at h;simp only at h;unfold qiU at c;split at c<;>try cases c
     rename_i j f;have f:=qBM f;subst f;split at c<;>try cases c
     rename_i ds k g;have k:=wn k;subst k;simp only[qfp]at c;split at c<;>try cases c
     rename_i x m;split at c<;>cases c;rename_i d
     have l:ds.drop (Ty.size RD)=[]/\n=0:=by
      cases i:ds.drop (Ty.size RD)with
      |nil=>rw[i]at d;simp[qfp]at d;exact⟨rfl,d.symm⟩
      |cons z r=>rw[i]at d;simp[qfp]at d
     obtain⟨l,rfl⟩:=l;split at h<;>cases h;rename_i hdS;obtain⟨rfl,q,o⟩:=qkF hdS;have e:=qJB m l;let⟨b,c⟩:=xX.1 q.symm;refine⟨rfl,?_,wh o.symm⟩;rw[c]at g |-
     cases g;rw[e];rfl
end Go.AmZ
namespace Go.Proofs.YtinbdcelmgfniaaGreatDoor
open Go Go.RowKit Go.GxZ Go.AmZ Go.Lib
theorem hand_read{F:Val RD->Option qj6}(q:qT Tryz.prog 67 (sgP (qo8 F)))(k:Nat):qT Tryz.prog 35 (sgP ⟨[.box [.val RD]],[.one (.val .term)],λ x=>qo0 F k x.1⟩):=by
 refine⟨QU Tryz.func35 (by kernel_rfl),λ Γ σ w l h r i g a=>?_⟩;let⟨B,b,y,m⟩:= σ;unfold sgP at a;split at a<;>try cases a
 rename_i x p;let⟨z,_⟩:=x;obtain⟨rfl,j,c⟩:=qMg p;have c:b=[]:=c;subst c;split at a<;>cases a;rename_i n d;let⟨⟨o,_⟩,t,_⟩:=n;obtain⟨u0,A,rfl,f,g⟩:=g.uncons;have:=g.nil_inv;subst this;cases f;refine(qHA q i j rfl d).mono ?_;rintro e w' ⟨us,Γ',σ',rfl,v,u,s⟩;exact qIW i (by rw[j];rfl) rfl v u s
end Go.Proofs.YtinbdcelmgfniaaGreatDoor
namespace Go.AmZ
open Go Go.GxZ
set_option linter.unusedVariables false
set_option maxRecDepth 100000
open Go.Proofs.Tryz (func3 func10 func11 func12 func13 func14 func26 func32 func33 func34 func36 func37 func38 func39 func40 func41 func42 func43 func44 func45 func46 func50 func51 func52 func55 func56 func57 func58 func62 func64 func66 func67 func68 func69 func70 func71 func72 func73 func74 func75 func76 func77 func78 func79 func80 func81 func82 func83 func84 func85 func88 func89 func90 func91 func92 func93 func95 func96 func99 func100 func101 func102 func103 func105 func106 func107 func108 func109 func110 func111 func113 func114 func115 func117 func118 func119 func120 func121 func122 func123 func126 func127 func128 func129 func130 func131 func133 func134 func135 func136 func137 func138 func141 func142 func144 func149 func150 func151 func153 func154 func155 func156 func157 func158 func159 func160 func161 func162 func163 func164 func165 func166 func167 func168 func169 func170 func171 func172 func173 func174 func177 func184 func185 func186 func187 func190 func191 func192 func194 func195 func196 func197 func198 func199 func200 func201 func202 func214 func223 func224 func227 func228 func229 func230 func241)
theorem qjS(m:Nat)(h:yp Go.Proofs.Tryz.prog (tb.at m).pc.cfg):qT Go.Proofs.Tryz.prog 35 (sgP ⟨[.box [.val RD]],[.one (.val .term)],λ x=>jE (m+1) x.1⟩):=Go.Proofs.YtinbdcelmgfniaaGreatDoor.hand_read (F:=qx m) (h.prim 67 _ (by kernel_rfl)) m
theorem qb3(m:Nat)(h:yp Go.Proofs.Tryz.prog (tb.at m).pc.cfg):qT Go.Proofs.Tryz.prog 139 (mgP ⟨.term,[.clo 89 0],λ x=>zd (m+1) x.1⟩):=qyA (τ:=.term) Go.Proofs.Tryz.sortTrm (λ _=>rfl) Go.Proofs.Tryz.isAgg25 Go.Proofs.Tryz.sizeOf25 (qB8 (τ:=.term) (ρ:=y2) (qxH h (by kernel_rfl)) (F:=λ x y=>qy m x y) (by kernel_rfl) (λ _=>rfl)) (QU Go.Proofs.Tryz.func139 (by kernel_rfl)) (λ _ _ h=>h)
theorem qaL(m:Nat)(h:yp Go.Proofs.Tryz.prog (tb.at m).pc.cfg):qT Go.Proofs.Tryz.prog 140 (sgP ⟨[.row .term,.clo 141 0],[.one (.row .term)],λ x=>qK (m+1) x.1⟩):=qBu (qB8 (τ:=.term) (ρ:=.bool) (qxH h (by kernel_rfl)) (F:=λ x y=>jg m x y) (by kernel_rfl) (λ _=>rfl)) (λ _ _ h=>qHr h)
theorem qaq(m:Nat)(h:yp Go.Proofs.Tryz.prog (tb.at m).pc.cfg):qT Go.Proofs.Tryz.prog 152 (mgP ⟨y3,[.clo 153 0],λ x=>yy (m+1) x.1⟩):=qyA (τ:=y3) Go.Proofs.Tryz.sortBnd (λ _=>rfl) Go.Proofs.Tryz.isAgg76 Go.Proofs.Tryz.sizeOf76 (qB8 (τ:=y3) (ρ:=y2) (qxH h (by kernel_rfl)) (F:=λ x y=>qfk m x y) (by kernel_rfl) (λ _=>rfl)) (QU Go.Proofs.Tryz.func152 (by kernel_rfl)) (λ _ _ h=>h)
theorem tb_ok:∀ m,yp Go.Proofs.Tryz.prog (tb.at m).pc.cfg:=Tb.all_ok (by kernel_rfl) qID (by kernel_rfl) (nS func118 qpV (nP func73 qtb (nP func43 qtc (nP func33 qzL (nP func13 qAi (nP func11 qrA (nP func10 qwY (nP func3 qlr trivial trivial) trivial) (nP func12 qwl trivial trivial)) (nP func26 qo1 ⟨qeN (m:=0),(nP func14 qqf trivial trivial),trivial⟩ (nP func32 qCB trivial trivial))) (nP func38 qAl (nP func36 qzH ⟨⟨qoz (QU Go.Proofs.Tryz.func35 (by kernel_rfl)) λ _=>rfl,λ m h=>qjS m h⟩,(nP func34 qDx trivial trivial),trivial⟩ (nP func37 qvz trivial trivial)) (nP func41 qx5 (nP func40 qw2 (nP func39 qz8 trivial trivial) trivial) (nP func42 qxA trivial trivial)))) (nP func58 qpW (nP func51 qvh (nS func46 qsG (nP func45 qBn (nP func44 qwE trivial trivial) trivial) (nP func50 qnW trivial trivial)) (nS func56 qsI (nP func55 qxt (nP func52 qvu trivial trivial) trivial) (nP func57 qw9 trivial trivial))) (nS func68 qzR (nP func66 qub (nP func64 qAp (nP func62 qCr trivial trivial) trivial) (nS func67 qlx trivial trivial)) ⟨⟨⟨func71,λ _=>rfl,qnH,⟨func71,λ _=>rfl,qm1,trivial⟩⟩,vL _ _⟩,(nP func70 qwT (nP func69 qtA trivial trivial) trivial),(nP func72 qsF trivial trivial)⟩))) (nP func96 qz4 (nP func83 qpT (nP func78 qu8 (nP func76 qAj (nP func75 qx8 (nP func74 qzT trivial trivial) trivial) (nP func77 qyr trivial trivial)) (nP func81 qxr (nP func80 qwj (nP func79 quT trivial trivial) trivial) (nS func82 Jq trivial trivial))) (nP func90 qx1 (nP func88 qlb (nP func85 qi7 (nS func84 qkY trivial trivial) trivial) (nP func89 qvF trivial trivial)) (nP func93 qyd (nP func92 qx9 (nP func91 qxK trivial trivial) trivial) (nP func95 qCF trivial trivial)))) (nP func108 qwH (nP func103 quz (nS func101 qlw (nS func100 qlu (nP func99 qtI trivial trivial) trivial) (nP func102 qxG trivial trivial)) (nP func106 qz2 (nP func105 qvg ⟨λ c hc=>qp1 (m:=0) hc,trivial,trivial⟩ trivial) (nP func107 qwN trivial trivial))) (nP func114 qA4 (nS func111 quS (nS func110 qlv (nS func109 qpm trivial trivial) trivial) (nP func113 qhJ trivial trivial)) ⟨λ c hc=>qod (m:=0) hc,(nP func115 qBB trivial trivial),(nP func117 qAo trivial trivial)⟩)))) (nP func165 qAr (nP func141 qst (nP func130 quf (nP func123 qxs (nP func121 qys (nP func120 qto (nS func119 qqo trivial trivial) trivial) (nP func122 qzG trivial trivial)) (nP func128 qFS (nP func127 qsN (nP func126 qBr trivial trivial) trivial) (nP func129 qxE trivial trivial))) (nP func136 qB3 (nP func134 qxo (nP func133 qwi (nP func131 quX trivial trivial) trivial) (nP func135 qtN trivial trivial)) ⟨⟨qzh (QU Go.Proofs.Tryz.func139 (by kernel_rfl)) λ _=>rfl,λ m h=>qb3 m h⟩,(nP func138 qxJ (nP func137 qua trivial trivial) trivial),⟨⟨qoz (QU Go.Proofs.Tryz.func140 (by kernel_rfl)) λ _=>rfl,λ m h=>qaL m h⟩,trivial,trivial⟩⟩)) (nP func156 qDX (nS func151 qpN (nS func149 qrC (nP func144 qjH (nP func142 qzI trivial trivial) trivial) (nP func150 qvG trivial trivial)) (nP func154 qDv (nP func153 qoB ⟨⟨qzh (QU Go.Proofs.Tryz.func152 (by kernel_rfl)) λ _=>rfl,λ m h=>qaq m h⟩,trivial,trivial⟩ trivial) (nP func155 qAJ trivial trivial))) (nP func161 qsO (nS func159 qpY (nP func158 qGJ (nP func157 quP trivial trivial) trivial) (nP func160 qsA trivial trivial)) (nP func163 qft (nP func162 qwm trivial trivial) (nP func164 qv5 trivial trivial))))) (nS func194 qqz (nP func177 qCO (nP func170 qsK (nP func168 qzZ (nP func167 qyl (nP func166 qDM trivial trivial) trivial) (nP func169 qAs trivial trivial)) (nP func173 qzX (nP func172 qD4 (nP func171 qAq trivial trivial) trivial) (nP func174 qCq trivial trivial))) ⟨qdo (m:=0),⟨func186,(nS func185 qmL (nS func184 qa7 trivial trivial) trivial),(nS func187 qCN trivial trivial)⟩,(nS func192 qrl (nP func191 qrL (nP func190 qvM trivial trivial) trivial) ⟨qfw (m:=0),trivial,trivial⟩)⟩) (nP func223 Q0 (nP func199 qyo (nP func197 qyn (nP func196 qu1 (nP func195 qq1 trivial trivial) trivial) (nS func198 qti trivial trivial)) (nP func202 quD (nS func201 qBE (nP func200 qsH trivial trivial) trivial) (nS func214 qbI trivial trivial))) (nP func228 qoC ⟨qdG (m:=0),⟨qdE (m:=0),(nP func224 qoO trivial trivial),trivial⟩,(nP func227 qaI trivial trivial)⟩ (nP func230 qth (nP func229 qDw trivial trivial) (nP func241 qbn trivial trivial)))))))
end Go.AmZ
namespace Go.GxZ
open Go.RowKit Go.ChangeShapes Go.WideShapes Go.ChangeAt
open Go.WideMaps Go.WideElems
section
variable {H:Type}{enc:TypeId×Value->H}{P:Program}
theorem qpL(f:laidOutB P=true){W i:World}(g:Below W.heap.size W i):∀{ts:List TypeId}{vs:List Value}{ds:List (DataW H)}{ps:List MemPlace},
  (∀t∈ts,P.readableRec t=true/\t<P.types.size)->DataW.TrodAll enc P W 0 (λ _=>true) true ts vs ds ps->(∀x∈ps,x.block<W.heap.size)->
  DataW.TrodAll enc P i 0 (λ b=>decide (b<W.heap.size)) true ts vs ds ps
 |[],[],[],_,_,h,_=>h
 |t::ts,v::vs,d::ds,_,e,⟨p,q,m,l,k⟩,a=>by
   subst k;refine⟨p,q,?_,?_,rfl⟩
   .exact Below.trod f (e t (wi ..)).1 (e t (wi ..)).2 m g λ x c=>a x (vg _ c)
   .exact qpL f g (λ t j=>e t (wg _ j)) l λ x c=>a x (vb _ c)
 |[],[],_::_,_,_,h,_|[],_::_,_,_,_,h,_|_::_,[],_,_,_,h,_|_::_,_::_,[],_,_,h,_=>h.elim
theorem qLe{f:Func}{s:ChangeSpec}{b g a:Bool}{W A:World}{d:Array Value}{ds k:List (DataW H)}{c:List MemPlace}{ts:List TypeId}{T:TypeId}
  (E:laidOutB P=true) (m:f.params.toList=ts) (C:ts.all (λ t=>P.readableRec t&&decide (t<P.types.size))=true) (u:s.vars=[])
  (n:f.resultTypes = #[T]) (G:P.underlying T=some .bool)
  (y:DataW.Whole enc P f.params.toList s.vars b W d.toList ds k c)
  (i:(s.fn H (ds++k)).results=[.lit (.bool true)]) (e:(s.fn H (ds++k)).args=ds) (l:(s.fn H (ds++k)).vars=[])
  (w:Below W.heap.size W A):s.post enc P f b g a false W d (.bool true) A:=by
 have j:=y;have o:=λ x B=>j.lt x B;obtain⟨p,q,I,z,rfl,F,D⟩:=y;rw[u]at z;have r:k=[]/\q=[]:=trodVars_none z;obtain⟨rfl,rfl⟩:=r;rw[wy]at *;refine⟨ds,[],p,[],p,[],?_,?_,?_,?_,?_,λ h=>by cases h⟩
 .exact j
 .rw[n,wy,i];exact trodAll_mk1 (shut_bool G _)
 .rw[wy,e];refine qpL E w (ts:=f.params.toList) ?_ I o;intro t v;rw[m]at v;have:=wu.1 C t v;simpa using this
 .rw[wy,l,u];rfl
 .exact w.frame _
end
end Go.GxZ
namespace Go.Proofs.YtinbdcelmgfniaaGreatDoor
theorem Tryz.own:ownKnob Tryz.prog.godebug=none:=by kernel_rfl
theorem Tryz.laidOut:laidOutB Tryz.prog=true:=by kernel_rfl
end Go.Proofs.YtinbdcelmgfniaaGreatDoor
namespace Go.AmZ
open Go Go.GxZ Go.RowKit
theorem qyS:∀(τ:Ty) (v:Val τ),Qj τ (yO τ v)=some v:=by
 intro τ v;have h:=jV τ v;cases τ<;>exact h
def qB2:List ATy->Bool
 |[]=>true
 |.val _::r=>qB2 r
 |.fn::_=>false
theorem qqc:∀(ts:List ATy) (a:qbP ts),qB2 ts=true->qdD ts (Qt ts a [])=some a/\qfl (Qt ts a [])=[]
 |[],_,_=>⟨rfl,rfl⟩
 |.val τ::r,a,h=>by
   let⟨d,c⟩:=qqc r a.2 h;constructor
   .show qmV (Qj τ) (qdD r) (yO τ a.1::Qt r a.2 [])=_;simp only[qmV,qyS,d]
   .show qfl (yO τ a.1::Qt r a.2 [])=[];have:=(qcu (qyS τ a.1)).2;cases b:yO τ a.1<;>first|exact c|exact absurd b (this _ _)
 |.fn::_,_,h=>by cases h
theorem law_calls{P:Program}{f:FuncId}{c:TC}(o:qT P f (Jv (jA c f))){ts:List ATy}{fn:qbP ts->Option (qea [.bool])}(q:c.pf f []=some ⟨ts,[.bool],fn⟩)(m:qB2 ts=true){a:qbP ts}(h:fn a=some true)
  {W:World}{d:List Value} (k:RepL (ghW W) (Qt ts a []) d):Calls P f d.toArray W λ e w'=>e=.returned (.bool true)/\Below W.heap.size W w':=by
 let⟨u,t⟩:=qqc ts a m
 have n:jA c f (Qt ts a [])=some (.v (.bool true)):=by
  unfold jA;rw[t,q];simp only;rw[u];simp only;rw[h];rfl
 have l:Jv (jA c f) emp (Qt ts a [])=some (.v (.bool true),none):=by
  show(match jA c f (Qt ts a [])with|some v=>some (v,none)|none=>none)=_;rw[n]
 have:=o.2 (ghW W) emp W (Qt ts a []) d _ (qNa W) k l;refine Calls.mono this ?_;rintro e w' ⟨v,Γ',rfl,g,_,j,_⟩;have h:=zu j;subst h;refine⟨rfl,g.os,g.tape,g.output,g.size,λ b s=>g.block b s ?_⟩;rintro(⟨i,p,_⟩|⟨r,k,_⟩)
 .exact absurd p (wK _)
 .exact absurd k (wK _)
theorem qBk{Γ:Gh}{τ:Ty}{x:Val τ}{v:Value}(h:RepL Γ (qd τ x) v.cells.toList)(l:∀u∈v.cells.toList,u.oneCell'=true)(j:τ.agg=true->τ.size≠1)(e:τ.agg=false->∀cs,v≠.agg cs):Rep Γ (yO τ x) v:=by
 have c:=h.len;rw[yi]at c
 have agg:yO τ x=.agg (qd τ x)->τ.agg=true->Rep Γ (yO τ x) v:=by
  intro f g;rw[f];have d:=j g;cases v with
  |agg cs=>exact .agg _ _ h.len l h.rep
  |_=>exact absurd (show τ.size=1 by rw[<-c];rfl) d
 have one:∀{y:AV},qd τ x=[y]->yO τ x=y->τ.agg=false->Rep Γ (yO τ x) v:=by
  intro y f i g
  have k:v.cells = #[v]:=by
   cases v with
   |agg cs=>exact absurd rfl (e g cs)
   |_=>rfl
  rw[f,k]at h;rw[i];exact h.rep 0 y v rfl rfl
 cases τ with
 |term|pair a b|one a=>exact agg rfl rfl
 |_=>exact one rfl rfl rfl
open Go.ChangeShapes Go.WideShapes Go.ChangeAt Go.WideMaps Go.WideElems
theorem qMo{P:Program}{n:Nat}{τ:Ty}{t:TypeId}{W:World}{zk:Nat}{v:Value}(c:tyM P n τ t=true)(f:Value.okWide P W .any zk t v):τ.agg=false->∀cs,v≠.agg cs:=by
 intro g cs;cases n with
 |zero=>cases τ<;>simp[tyM]at c
 |succ n=>
 cases τ with
 |map a b=>simp[tyM]at c
 |int k=>
   simp only[tyM]at c;split at c
   .rename_i d;obtain⟨_,rfl⟩:=okWide_int d f;intro h;cases h
   .cases c
 |bool=>
   simp only[tyM]at c;split at c
   .rename_i d;obtain⟨_,rfl⟩:=okWide_bool d f;intro h;cases h
   .cases c
 |str=>
   simp only[tyM]at c;split at c
   .rename_i d;obtain⟨_,rfl⟩:=okWide_string d f;intro h;cases h
   .cases c
 |list a=>
   simp only[tyM]at c;split at c
   .rename_i e d;obtain⟨_,_,_,rfl⟩:=okWide_slice d f;intro h;cases h
   .cases c
 |_=>cases g
theorem arg_val{H:Type}{enc:TypeId×Value->H}{P:Program}{W:World}{n:Nat}{τ:Ty}{t:TypeId}{v:Value}{d:DataW H}{ps:List MemPlace}{zk:Nat}(b:tyM P n τ t=true)(f:τ.agg=true->τ.size≠1)(e:Value.okWide P W .any zk t v)
  (h:DataW.Trod enc P W 0 (λ _=>true) true t v d ps) (c:∀k∈d.weights P t,k<=reachBytes):∃x:Val τ,Rep (ghW W) (yO τ x) v/\qkV τ x:=by
 let⟨a,g⟩:=h;let⟨x,l,j,i⟩:=qLS a n τ t v.cells.toList (d,ps) b g c;exact⟨x,qBk l j f (qMo b e),i⟩
end Go.AmZ
