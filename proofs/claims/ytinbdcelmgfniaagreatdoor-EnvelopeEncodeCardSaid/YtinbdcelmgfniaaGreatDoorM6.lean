/- Part 6 of what the proofs stand on: plain functions of the program, and that they are its functions. -/
import Derived.Test.YtinbdcelmgfniaaGreatDoorM5
import Derived.KernelRfl
import Derived.Shelf.SlSortCmp.NoneTotal
import Derived.Test.YtinbdcelmgfniaaGreatDoorProg
import Derived.Test.YtinbdcelmgfniaaGreatDoorM2
import Derived.Test.YtinbdcelmgfniaaGreatDoorM4
import Derived.Deep.RegionLaw
import Derived.Handy
import Derived.Test.YtinbdcelmgfniaaGreatDoorM1
import Derived.ProofKit
import Derived.Test.YtinbdcelmgfniaaGreatDoorRows
set_option linter.unusedVariables false
set_option linter.unusedSimpArgs false
noncomputable section
namespace Go.AmZ
open Go Go.GxZ
set_option linter.unusedVariables false
set_option maxRecDepth 100000
theorem qqu:okP tb [] i83:=λ m a=>by kernel_rfl
theorem qjl:okP tb [] i85:=λ m a=>by kernel_rfl
theorem qlT:okS tb qQF:=λ m a=>by kernel_rfl
def qfs(m k x0 x1 x2 x3 x4 x5):=tb.QL qL8 4 m k [(0,.ptr 0 0),(4,vI x0),(14,vI x1),(15,vI x2)] ⟨[[.s x3,vI x4,.b x5]],[]⟩
theorem qkZ(m k):yj m k=qfs m k:=qW (M:=qfs m) rfl (λ _=>by kernel_rfl) k
theorem qlP:okS tb qL8:=λ m a=>(congrArg (λ L=>Jt m L a.1) (qkZ m m)).trans (by kernel_rfl)
theorem qlS:okS tb i67:=λ m a=>by kernel_rfl
theorem qEp:okP tb [] qOR:=λ m a=>by kernel_rfl
def qnC(m k x0 x1 x2):=tb.PL qMt 4 m k [(0,.s x0),(38,vI x1),(39,vI x2)] ⟨[],[]⟩
theorem qvv(m k):QI m k=qnC m k:=qW (M:=qnC m) rfl (λ _=>by kernel_rfl) k
theorem qxW:okP tb [] qMt:=λ m a=>(congrArg (λ L=>qe9 m L a.1) (qvv m m)).trans (by kernel_rfl)
def qqf(m k x0 x1 x2 x3 x4 x5):=tb.QL i68 17 m k [(1,vI x0),(2,.ptr 0 0),(3,.ptr 1 0),(57,vT x1),(58,vI x2),(59,vI x3)] ⟨[[vI x4],[vI x5]],[]⟩
theorem qyS(m k):jK m (yh m) k=qqf m k:=qW (M:=qqf m) rfl (λ _=>by kernel_rfl) k
theorem qAH:okS tb i68:=λ m a=>(congrArg (λ L=>qfU m (yh m) L a.1 a.2.1 a.2.2.1 a.2.2.2.1) (qyS m m)).trans (by kernel_rfl)
theorem qAB:okP tb [] i36:=λ m a=>by kernel_rfl
def qla(m k x0 x1 x2 x3 x4 x5 x6 x7):=tb.PL i73 2 m k [(0,.s x0),(2,.ptr 0 0),(5,.sl y6 x1 1),(6,vI x2),(7,vI x3)] ⟨[[.s x4,vI x5,vI x6,vI x7]],[]⟩
theorem qtf(m k):Q7 m k=qla m k:=qW (M:=qla m) rfl (λ _=>by kernel_rfl) k
theorem qu5:okP tb [] i73:=λ m a=>(congrArg (λ L=>qc3 m L a.1) (qtf m m)).trans (by kernel_rfl)
def qm8(m k x0 x1 x2 x3 x4 x5 x6):=tb.PL i80 13 m k [(1,.ptr 0 0),(38,vT x0),(39,vI x1),(40,vI x2)] ⟨[[vI x3,.s x4,vI x5,vT x6]],[]⟩
def ql6(m k x0 x1 x2):=tb.PL i80 22 m k [(62,vT x0),(63,vI x1),(64,vI x2)] ⟨[],[]⟩
theorem quj(m k):qZ m (qF m) k=(qm8 m k,ql6 m k):=qW (M:=λ k=>(qm8 m k,ql6 m k)) rfl (λ _=>by kernel_rfl) k
theorem qwM:okP tb [] i80:=λ m a=>(congrArg (a₁:=qZ m (qF m) m) (λ L=>qdW m (qF m) L.1 L.2 a.1) (quj m m)).trans (by kernel_rfl)
theorem qvB:okP tb [] i44:=λ m a=>by kernel_rfl
theorem qCL:okP tb [] qO7:=λ m a=>by kernel_rfl
def qre(m k x0 x1 x2 x3):=tb.PL qLC 3 m k [(3,vI x0),(7,vT x1),(8,vI x2),(9,vI x3)] ⟨[],[]⟩
theorem qAO(m k):qbV m (Qs m) k=qre m k:=qW (M:=qre m) rfl (λ _=>by kernel_rfl) k
theorem qDr:okP tb [] qLC:=λ m a=>(congrArg (λ L=>qgQ m (Qs m) L a.1) (qAO m m)).trans (by kernel_rfl)
def ql0(m k x0 x1 x2 x3 x4 x5 x6 x7 x8 x9):=tb.PL i89 11 m k [(2,.ptr 0 0),(3,.ptr 1 0),(5,vI x0),(6,vI x1)] ⟨[[vI x2,.s x3,vI x4,vT x5],[vI x6,.s x7,vI x8,vT x9]],[]⟩
theorem qtK(m k):Qf m (qy m) k=ql0 m k:=qW (M:=ql0 m) rfl (λ _=>by kernel_rfl) k
theorem qvP:okP tb [] i89:=λ m a=>(congrArg (λ L=>qdY m (qy m) L a.1 a.2.1) (qtK m m)).trans (by kernel_rfl)
theorem qyF:okP tb [] i70:=λ m a=>by kernel_rfl
theorem qEb:okP tb [] qPO:=λ m a=>by kernel_rfl
theorem qsZ:okP tb [] qPA:=λ m a=>by kernel_rfl
def qan(m k x0 x1 x2 x3 x4):=tb.PL qHc 3 m k [(0,.sl y5 x0 1),(3,vI x1),(9,.sl y5 x2 1),(10,vI x3),(11,vI x4)] ⟨[],[]⟩
def qap(m k x0 x1 x2 x3):=tb.PL qHc 11 m k [(6,.row 0 0),(25,.sl y5 x0 1),(26,vI x1),(27,vI x2)] ⟨[],[⟨.term,x3,0,0,false⟩]⟩
theorem qeP(m k):qn m k=(qan m k,qap m k):=qW (M:=λ k=>(qan m k,qap m k)) rfl (λ _=>by kernel_rfl) k
theorem qfy:okP tb [] qHc:=λ m a=>(congrArg (a₁:=qn m m) (λ L=>jb m L.1 L.2 a.1) (qeP m m)).trans (by kernel_rfl)
def qqx(m k x0 x1 x2):=tb.PL qMg 4 m k [(14,vT x0),(15,vI x1),(16,vI x2)] ⟨[],[]⟩
theorem qAQ(m k):qb2 m k=qqx m k:=qW (M:=qqx m) rfl (λ _=>by kernel_rfl) k
theorem qEs:okP tb [] qMg:=λ m a=>(congrArg (λ L=>qhz m L a.1 a.2.1) (qAQ m m)).trans (by kernel_rfl)
def qtm(m k x0 x1 x2):=tb.PL qLQ 2 m k [(0,vT x0),(1,vT x1),(5,.row 0 0)] ⟨[],[⟨.term,x2,0,0,false⟩]⟩
theorem qDp(m k):qdo m k=qtm m k:=qW (M:=qtm m) rfl (λ _=>by kernel_rfl) k
theorem qFb:okP tb [] qLQ:=λ m a=>(congrArg (λ L=>qiR m L a.1 a.2.1) (qDp m m)).trans (by kernel_rfl)
def qmJ(m k x0 x1 x2 x3):=tb.PL qLA 6 m k [(3,vT x0),(31,vT x1),(32,vI x2),(33,vI x3)] ⟨[],[]⟩
theorem qur(m k):QT m (yK m) k=qmJ m k:=qW (M:=qmJ m) rfl (λ _=>by kernel_rfl) k
theorem qxm:okP tb [] qLA:=λ m a=>(congrArg (λ L=>qd9 m (yK m) L a.1) (qur m m)).trans (by kernel_rfl)
def qqa(m k x0 x1 x2 x3 x4 x5 x6 x7 x8 x9 x10):=tb.PL qMO 4 m k [(1,.ptr 0 0),(2,.ptr 1 0),(9,vT x0),(10,vI x1),(11,vI x2)] ⟨[[vI x3,.s x4,vI x5,.row 0 0],[vI x6,.s x7,vI x8,.row 1 0]],[⟨.term,x9,0,0,false⟩,⟨.term,x10,0,0,false⟩]⟩
theorem qyu(m k):qaM m (jF m) k=qqa m k:=qW (M:=qqa m) rfl (λ _=>by kernel_rfl) k
theorem qA5:okP tb [] qMO:=λ m a=>(congrArg (λ L=>qgf m (jF m) L a.1) (qyu m m)).trans (by kernel_rfl)
def ql1(m k x0 x1 x2 x3 x4 x5 x6 x7 x8 x9 x10 x11 x12 x13 x14):=tb.PL qLE 4 m k [(5,.ptr 0 0),(6,.ptr 1 0),(8,.ptr 2 0),(9,.ptr 2 0),(14,.sl y2 x0 1),(15,vI x1),(16,vI x2)] ⟨[[vI x3,.s x4,vI x5,vT x6],[vI x7,.s x8,vI x9,.row 0 0],[vI x10,.s x11,vI x12,vT x13]],[⟨.term,x14,0,0,false⟩]⟩
theorem qt7(m k):qaI m k=ql1 m k:=qW (M:=ql1 m) rfl (λ _=>by kernel_rfl) k
theorem qxq:okP tb [] qLE:=λ m a=>(congrArg (λ L=>qd8 m L a.1 a.2.1 a.2.2.1) (qt7 m m)).trans (by kernel_rfl)
def qw0(m k x0 x1 x2 x3):=tb.PL qMN 3 m k [(3,.row 0 0),(9,vT x0),(10,vI x1),(11,vI x2)] ⟨[],[⟨.term,x3,0,0,false⟩]⟩
theorem qE0(m k):qet m (J8 m) k=qw0 m k:=qW (M:=qw0 m) rfl (λ _=>by kernel_rfl) k
theorem qHg:okP tb [] qMN:=λ m a=>(congrArg (λ L=>qka m (J8 m) L a.1) (qE0 m m)).trans (by kernel_rfl)
def qvi(m k x0 x1 x2 x3 x4 x5 x6 x7):=tb.PL qKQ 6 m k [(2,.ptr 0 0),(5,vT x0),(15,vT x1),(16,vI x2),(17,vI x3)] ⟨[[vI x4,.s x5,vI x6,.row 0 0]],[⟨.term,x7,0,0,true⟩]⟩
theorem qEB(m k):qeL m k=qvi m k:=qW (M:=qvi m) rfl (λ _=>by kernel_rfl) k
theorem qHE:okP tb [] qKQ:=λ m a=>(congrArg (λ L=>qku m L a.1) (qEB m m)).trans (by kernel_rfl)
theorem qrp:okP tb [] qPW:=λ m a=>by kernel_rfl
def qjI(m k x0 x1 x2 x3 x4 x5 x6 x7 x8 x9):=tb.PL qM6 3 m k [(1,.ptr 0 0),(2,.ptr 1 0),(10,.row 0 0),(11,vI x0),(12,vI x1)] ⟨[[vI x2,.s x3,vI x4,.row 0 0],[vI x5,.s x6,vI x7,.row 1 0]],[⟨.term,x8,0,0,false⟩,⟨.term,x9,0,0,false⟩]⟩
theorem qrS(m k):QM m (zy m) k=qjI m k:=qW (M:=qjI m) rfl (λ _=>by kernel_rfl) k
theorem qta:okP tb [] qM6:=λ m a=>(congrArg (λ L=>qch m (zy m) L a.1) (qrS m m)).trans (by kernel_rfl)
theorem qpa:okP tb [] qQo:=λ m a=>by kernel_rfl
def yu(m k x0 x1 x2 x3 x4 x5 x6 x7):=tb.PL qMH 3 m k [(0,.sl y1 x0 1),(2,.fn 224 []),(4,.ptr 0 0),(8,vI x1),(9,vI x2),(10,vI x3)] ⟨[[vI x4,.s x5,vI x6,vT x7]],[]⟩
theorem QW(m k):qr m k=yu m k:=qW (M:=yu m) rfl (λ _=>by kernel_rfl) k
theorem QZ:okP tb [224] qMH:=λ m a=>(congrArg (λ L=>qH m L a.1 a.2.1) (QW m m)).trans (by kernel_rfl)
theorem qqQ:okS tb qPE:=λ m a=>by kernel_rfl
def qh6(m k x0 x1 x2 x3 x4):=tb.QL qMX 12 m k [(0,.row 0 0),(2,vI x0),(52,vT x1),(53,vI x2),(54,vI x3)] ⟨[],[⟨y1,x4,0,0,false⟩]⟩
theorem qoK(m k):jx m (zx m) k=qh6 m k:=qW (M:=qh6 m) rfl (λ _=>by kernel_rfl) k
theorem qqv:okS tb qMX:=λ m a=>(congrArg (λ L=>qba m (zx m) L a.1 a.2.1 a.2.2.1) (qoK m m)).trans (by kernel_rfl)
theorem qyK:okP tb [] qPk:=λ m a=>by kernel_rfl
def qjP(m k x0 x1 x2 x3):=tb.PL qL3 4 m k [(0,.sl y1 x0 1),(9,.sl y1 x1 1),(10,vI x2),(11,vI x3)] ⟨[],[]⟩
theorem qrK(m k):j7 m k=qjP m k:=qW (M:=qjP m) rfl (λ _=>by kernel_rfl) k
theorem qth:okP tb [] qL3:=λ m a=>(congrArg (λ L=>qce m L a.1) (qrK m m)).trans (by kernel_rfl)
theorem qwP:okP tb [] qPg:=λ m a=>by kernel_rfl
def qlo(m k x0 x1 x2 x3 x4 x5 x6 x7 x8):=tb.PL qD5 6 m k [(2,.ptr 0 0),(5,.row 1 0),(6,.row 2 0),(18,.sl y1 x0 1),(19,vI x1),(20,vI x2)] ⟨[[vI x3,.s x4,vI x5,.row 0 0]],[⟨.term,x6,0,0,false⟩,⟨.term,x7,0,0,false⟩,⟨.term,x8,0,0,false⟩]⟩
def qkN(m k x0 x1 x2 x3 x4 x5 x6 x7 x8 x9 x10 x11 x12 x13 x14 x15):=tb.PL qD5 11 m k [(2,.ptr 0 0),(5,.row 1 0),(6,.row 2 0),(8,.ptr 1 0),(18,.sl y1 x0 1),(19,vI x1),(20,vI x2),(34,vI x3),(35,vI x4)] ⟨[[vI x5,.s x6,vI x7,.row 0 0],[vI x8,.s x9,vI x10,vT x11,vI x12]],[⟨.term,x13,0,0,false⟩,⟨.term,x14,0,0,false⟩,⟨.term,x15,0,0,false⟩]⟩
def qlD(m k x0 x1 x2 x3 x4 x5 x6 x7 x8 x9 x10 x11 x12 x13 x14 x15):=tb.PL qD5 15 m k [(2,.ptr 0 0),(5,.row 1 0),(6,.row 2 0),(8,.ptr 1 0),(18,.sl y1 x0 1),(19,vI x1),(20,vI x2),(46,vI x3),(47,vI x4)] ⟨[[vI x5,.s x6,vI x7,.row 0 0],[vI x8,.s x9,vI x10,vT x11,vI x12]],[⟨.term,x13,0,0,false⟩,⟨.term,x14,0,0,false⟩,⟨.term,x15,0,0,false⟩]⟩
theorem qs3(m k):qB m k=(qlo m k,qkN m k,qlD m k):=qW (M:=λ k=>(qlo m k,qkN m k,qlD m k)) rfl (λ _=>by kernel_rfl) k
theorem qub:okP tb [] qD5:=λ m a=>(congrArg (a₁:=qB m m) (λ L=>qc6 m L.1 L.2.1 L.2.2 a.1) (qs3 m m)).trans (by kernel_rfl)
def qiX(m k x0 x1 x2 x3):=tb.QL qLB 3 m k [(3,.row 0 0),(6,.sl y1 x0 1),(7,vI x1),(8,vI x2)] ⟨[],[⟨y1,x3,0,0,false⟩]⟩
theorem qqt(m k):Qo m k=qiX m k:=qW (M:=qiX m) rfl (λ _=>by kernel_rfl) k
theorem qqT:okS tb qLB:=λ m a=>(congrArg (λ L=>qbH m L a.1) (qqt m m)).trans (by kernel_rfl)
theorem qpu:okP tb [] qQr:=λ m a=>by kernel_rfl
def Ql(m k x0 x1 x2):=tb.PL qK2 2 m k [(0,.sl y1 x0 1),(1,.fn 228 []),(7,vI x1),(8,vI x2)] ⟨[],[]⟩
theorem qbj(m k):qC m k=Ql m k:=qW (M:=Ql m) rfl (λ _=>by kernel_rfl) k
theorem qbr:okP tb [228] qK2:=λ m a=>(congrArg (λ L=>zM m L a.1) (qbj m m)).trans (by kernel_rfl)
theorem qaJ:okP tb [228] qQk:=λ m a=>by kernel_rfl
theorem qrX:okP tb [] qPV:=λ m a=>by kernel_rfl
def qmh(m k x0 x1 x2 x3):=tb.PL qLH 9 m k [(8,.row 0 0),(23,.sl y1 x0 1),(24,vI x1),(25,vI x2)] ⟨[],[⟨y1,x3,0,0,false⟩]⟩
theorem qu9(m k):Jz m k=qmh m k:=qW (M:=qmh m) rfl (λ _=>by kernel_rfl) k
theorem qvI:okP tb [] qLH:=λ m a=>(congrArg (λ L=>qd0 m L a.1 a.2.1) (qu9 m m)).trans (by kernel_rfl)
theorem qAG:okP tb [] qQC:=λ m a=>by kernel_rfl
theorem qwG:okP tb [] qPn:=λ m a=>by kernel_rfl
def qlt(m k x0 x1 x2 x3 x4 x5 x6 x7 x8 x9 x10 x11 x12 x13 x14):=tb.PL qLG 5 m k [(1,.ptr 0 0),(2,.ptr 1 0),(4,.ptr 2 0),(19,vT x0),(20,vI x1),(21,vI x2)] ⟨[[vI x3,.s x4,vI x5,vT x6],[vI x7,.s x8,vI x9,.row 0 0],[vI x10,.s x11,vI x12,.row 1 0]],[⟨.term,x13,0,0,false⟩,⟨.term,x14,0,0,false⟩]⟩
theorem qs8(m k):Q4 m (yD m) k=qlt m k:=qW (M:=qlt m) rfl (λ _=>by kernel_rfl) k
theorem quD:okP tb [] qLG:=λ m a=>(congrArg (λ L=>qc2 m (yD m) L a.1) (qs8 m m)).trans (by kernel_rfl)
theorem quu:okP tb [] i69:=λ m a=>by kernel_rfl
theorem qtj:okP tb [] i72:=λ m a=>by kernel_rfl
def qgK(m k x0 x1 x2):=tb.PL i71 4 m k [(1,.fn 72 []),(18,vT x0),(19,vI x1),(20,vI x2)] ⟨[],[]⟩
theorem qne(m k):yH m (zh m) k=qgK m k:=qW (M:=qgK m) rfl (λ _=>by kernel_rfl) k
theorem qol:okP tb [72] i71:=λ m a=>(congrArg (λ L=>qaa m (zh m) L a.1) (qne m m)).trans (by kernel_rfl)
theorem qw6:okP tb [] i37:=λ m a=>by kernel_rfl
theorem qq8:okP tb [] i11:=λ m a=>by kernel_rfl
theorem qlQ:okS tb qOO:=λ m a=>by kernel_rfl
def qhj(m k x0 x1 x2 x3 x4):=tb.QL qMP 3 m k [(1,.fn 110 [.ptr 0 0,.ptr 1 0]),(10,vT x0),(11,vI x1),(12,vI x2)] ⟨[[vI x3],[.row 0 0]],[⟨.term,x4,0,0,false⟩]⟩
theorem qnG(m k):jO m (zA m) k=qhj m k:=qW (M:=qhj m) rfl (λ _=>by kernel_rfl) k
theorem qpr:okS tb qMP:=λ m a=>(congrArg (λ L=>qaC m (zA m) L a.1 a.2.1 a.2.2.1) (qnG m m)).trans (by kernel_rfl)
theorem qti:okP tb [] qQB:=λ m a=>by kernel_rfl
def qmf(m k x0 x1 x2):=tb.QL qMw 4 m k [(0,.row 0 0),(9,vI x0),(10,vI x1)] ⟨[],[⟨.term,x2,0,0,false⟩]⟩
theorem quJ(m k):JI m k=qmf m k:=qW (M:=qmf m) rfl (λ _=>by kernel_rfl) k
theorem qwb:okS tb qMw:=λ m a=>(congrArg (λ L=>qdM m L a.1) (quJ m m)).trans (by kernel_rfl)
theorem qyx:okP tb [] i81:=λ m a=>by kernel_rfl
theorem qDo:okP tb [] i45:=λ m a=>by kernel_rfl
theorem qll:okS tb i84:=λ m a=>by kernel_rfl
def yZ(m k x0 x1 x2 x3 x4 x5 x6):=tb.QL i82 2 m k [(0,.sl y7 x0 1),(1,.fn 84 [.ptr 0 0]),(7,vI x1),(8,vI x2)] ⟨[[vI x3,.s x4,vI x5,vT x6]],[]⟩
theorem Jj(m k):qt m k=yZ m k:=qW (M:=yZ m) rfl (λ _=>by kernel_rfl) k
theorem Jq:okS tb i82:=λ m a=>(congrArg (λ L=>qQ m L a.1 a.2.1) (Jj m m)).trans (by kernel_rfl)
def qjJ(m k x0 x1 x2 x3):=tb.QL i46 8 m k [(0,.row 0 0),(46,vT x0),(47,vI x1),(48,vI x2)] ⟨[],[⟨y13,x3,0,0,false⟩]⟩
theorem qrT(m k):jW m (z8 m) k=qjJ m k:=qW (M:=qjJ m) rfl (λ _=>by kernel_rfl) k
theorem qs0:okS tb i46:=λ m a=>(congrArg (λ L=>qcf m (z8 m) L a.1 a.2.1) (qrT m m)).trans (by kernel_rfl)
theorem qsd:okP tb [] i14:=λ m a=>by kernel_rfl
theorem qtT:okP tb [] qPM:=λ m a=>by kernel_rfl
def qfO(m k x0 x1 x2):=tb.PL qHO 4 m k [(1,.fn 120 []),(18,vT x0),(19,vI x1),(20,vI x2)] ⟨[],[]⟩
theorem qlU(m k):qgB m (qbe m) k=qfO m k:=qW (M:=qfO m) rfl (λ _=>by kernel_rfl) k
theorem qni:okP tb [120] qHO:=λ m a=>(congrArg (λ L=>qfP m (qbe m) L a.1) (qlU m m)).trans (by kernel_rfl)
theorem qyB:okP tb [] i93:=λ m a=>by kernel_rfl
theorem qqr:okP tb [] i58:=λ m a=>by kernel_rfl
def qg7(m k x0 x1 x2):=tb.PL i50 4 m k [(9,vT x0),(10,vI x1),(11,vI x2)] ⟨[],[]⟩
theorem qod(m k):qh3 m k=qg7 m k:=qW (M:=qg7 m) rfl (λ _=>by kernel_rfl) k
theorem qpU:okP tb [] i50:=λ m a=>(congrArg (λ L=>qg0 m L a.1) (qod m m)).trans (by kernel_rfl)
def qmg(m k x0 x1 x2 x3 x4 x5 x6 x7 x8 x9 x10 x11):=tb.PL i52 2 m k [(0,.sl y3 x0 1),(3,.ptr 0 0),(4,.ptr 1 0),(10,.sl y3 x1 1),(11,vI x2),(12,vI x3)] ⟨[[vI x4,.s x5,vI x6,vT x7],[vI x8,.s x9,vI x10,.row 0 0]],[⟨.term,x11,0,0,false⟩]⟩
def qmy(m k x0 x1 x2 x3 x4 x5 x6 x7 x8 x9 x10 x11):=tb.PL i52 10 m k [(0,.sl y3 x0 1),(4,.ptr 0 0),(7,.ptr 1 0),(27,vT x1),(28,vI x2),(29,vI x3)] ⟨[[vI x4,.s x5,vI x6,.row 0 0],[vI x7,.s x8,vI x9,.row 1 0]],[⟨.term,x10,0,0,false⟩,⟨.term,x11,0,0,false⟩]⟩
theorem quh(m k):qfp m (qeq m) k=(qmg m k,qmy m k):=qW (M:=λ k=>(qmg m k,qmy m k)) rfl (λ _=>by kernel_rfl) k
theorem qxp:okP tb [] i52:=λ m a=>(congrArg (a₁:=qfp m (qeq m) m) (λ L=>qm4 m (qeq m) L.1 L.2 a.1 a.2.1) (quh m m)).trans (by kernel_rfl)
theorem qkn:okP tb [] qQi:=λ m a=>by kernel_rfl
theorem qhY:okP tb [] qPh:=λ m a=>by kernel_rfl
theorem qlc:okP tb [] i88:=λ m a=>by kernel_rfl
theorem qxk:okP tb [] i51:=λ m a=>by kernel_rfl
def qjO(m k x0 x1 x2 x3 x4 x5 x6 x7 x8 x9 x10 x11 x12):=tb.QL i56 9 m k [(1,.s x0),(2,.mp 0),(6,.ptr 1 0),(7,.ptr 2 0),(38,vT x1),(39,vI x2),(40,vI x3)] ⟨[[.mc .str .str x4],[vI x5,.s x6,vI x7,.row 0 0],[vI x8,.s x9,vI x10,.row 1 0]],[⟨.term,x11,0,0,false⟩,⟨.term,x12,0,0,false⟩]⟩
theorem qqN(m k):qlA m (qcP m) k=qjO m k:=qW (M:=qjO m) rfl (λ _=>by kernel_rfl) k
theorem qs4:okS tb i56:=λ m a=>(congrArg (λ L=>qjH m (qcP m) L a.1 a.2.1 a.2.2.1) (qqN m m)).trans (by kernel_rfl)
theorem qyE:okP tb [] i91:=λ m a=>by kernel_rfl
theorem qBc:okP tb [] i96:=λ m a=>by kernel_rfl
theorem qxL:okP tb [] qO0:=λ m a=>by kernel_rfl
theorem qBe:okP tb [] qP1:=λ m a=>by kernel_rfl
theorem qyX:okP tb [] qPd:=λ m a=>by kernel_rfl
theorem qBR:okP tb [] i95:=λ m a=>by kernel_rfl
def qrC(m k x0 x1 x2 x3 x4 x5 x6 x7 x8 x9 x10 x11 x12):=tb.QL qMd 10 m k [(0,.mp 0),(3,.ptr 1 0),(4,.ptr 2 0),(7,.row 1 0),(32,vT x0),(33,vI x1),(34,vI x2)] ⟨[[.mc y12 .term x3],[vI x4,.s x5,vI x6,vT x7],[vI x8,.s x9,vI x10,.row 0 0]],[⟨.term,x11,0,0,false⟩,⟨.term,x12,0,0,false⟩]⟩
theorem qAF(m k):qtt m (qel m) k=qrC m k:=qW (M:=qrC m) rfl (λ _=>by kernel_rfl) k
theorem qCy:okS tb qMd:=λ m a=>(congrArg (λ L=>qrO m (qel m) L a.1 a.2.1) (qAF m m)).trans (by kernel_rfl)
def qh0(m k x0 x1 x2 x3 x4 x5 x6 x7 x8 x9 x10 x11 x12 x13 x14):=tb.QL qHI 6 m k [(0,.ptr 0 0),(4,.ptr 1 0),(5,.ptr 2 0),(8,.ptr 3 0),(9,.fn 186 [.ptr 5 0,.ptr 3 0]),(10,.row 1 0),(25,vI x0),(26,vI x1)] ⟨[[.sl y3 x2 1,.row 0 0],[vI x3,.s x4,vI x5,vT x6],[vI x7,.s x8,vI x9,vT x10],[.b x11],[.mc y12 .term x12],[.mp 4]],[⟨y3,x13,0,0,false⟩,⟨y3,x14,0,0,false⟩]⟩
def qh4(m k x0 x1 x2 x3 x4 x5 x6 x7 x8 x9 x10 x11 x12 x13 x14):=tb.QL qHI 12 m k [(0,.ptr 0 0),(4,.ptr 1 0),(5,.ptr 2 0),(8,.ptr 3 0),(9,.fn 186 [.ptr 5 0,.ptr 3 0]),(10,.row 1 0),(46,vI x0),(47,vI x1)] ⟨[[.sl y3 x2 1,.row 0 0],[vI x3,.s x4,vI x5,vT x6],[vI x7,.s x8,vI x9,vT x10],[.b x11],[.mc y12 .term x12],[.mp 4]],[⟨y3,x13,0,0,false⟩,⟨y3,x14,0,0,false⟩]⟩
theorem qoB(m k):qbA m k=(qh0 m k,qh4 m k):=qW (M:=λ k=>(qh0 m k,qh4 m k)) rfl (λ _=>by kernel_rfl) k
theorem qqk:okS tb qHI:=λ m a=>(congrArg (a₁:=qbA m m) (λ L=>qh1 m L.1 L.2 a.1 a.2.1 a.2.2.1) (qoB m m)).trans (by kernel_rfl)
theorem qrZ:okS tb qP0:=λ m a=>by kernel_rfl
theorem qv9:okP tb [] qP3:=λ m a=>by kernel_rfl
theorem qa7:okS tb qO4:=λ m a=>by kernel_rfl
theorem qna:okS tb qOP:=λ m a=>by kernel_rfl
def Qq(m k x0 x1 x2 x3 x4 x5 x6):=tb.QL qLI 2 m k [(0,vT x0),(1,.fn 185 [.ptr 0 0]),(7,vI x1),(8,vI x2)] ⟨[[vI x3,.s x4,vI x5,vT x6]],[]⟩
theorem qbp(m k):QB m (qeB m) (yJ m) (qdL m) (jn m) k=Qq m k:=qW (M:=Qq m) rfl (λ _=>by kernel_rfl) k
theorem qbL:okS tb qLI:=λ m a=>(congrArg (λ L=>Qp m (qeB m) (yJ m) (qdL m) (jn m) L a.1 a.2.1) (qbp m m)).trans (by kernel_rfl)
def qh2(m k x0 x1 x2 x3 x4 x5 x6 x7 x8 x9 x10 x11 x12):=tb.QL qMC 8 m k [(0,.ptr 0 0),(3,.ptr 1 0),(4,.ptr 2 0),(5,.row 1 0),(39,vI x0),(40,vI x1)] ⟨[[.sl y3 x2 1,.row 0 0],[vI x3,.s x4,vI x5,vT x6],[vI x7,.s x8,vI x9,vT x10]],[⟨y3,x11,0,0,false⟩,⟨y3,x12,0,0,false⟩]⟩
theorem qoY(m k):qiZ m k=qh2 m k:=qW (M:=qh2 m) rfl (λ _=>by kernel_rfl) k
theorem qqj:okS tb qMC:=λ m a=>(congrArg (λ L=>qh5 m L a.1) (qoY m m)).trans (by kernel_rfl)
theorem qoF:okP tb [] qQc:=λ m a=>by kernel_rfl
theorem qrR:okS tb qPK:=λ m a=>by kernel_rfl
def qn6(m k x0 x1):=tb.PL i92 2 m k [(4,.ptr 0 0)] ⟨[[.sl y3 x0 1,.row 0 0]],[⟨y3,x1,0,0,false⟩]⟩
theorem qwp(m k):qp4 m k=qn6 m k:=qW (M:=qn6 m) rfl (λ _=>by kernel_rfl) k
theorem qxY:okP tb [] i92:=λ m a=>(congrArg (λ L=>qnS m L a.1) (qwp m m)).trans (by kernel_rfl)
theorem qxS:okP tb [] i57:=λ m a=>by kernel_rfl
def qhL(m k x0 x1 x2 x3 x4 x5 x6):=tb.PL i26 5 m k [(0,vT x0),(4,.ptr 0 0),(20,vI x1),(21,vI x2)] ⟨[[vI x3,.s x4,vI x5,.row 0 0]],[⟨.term,x6,0,0,false⟩]⟩
def qhB(m k x0 x1 x2 x3 x4 x5 x6 x7 x8 x9 x10 x11 x12):=tb.PL i26 9 m k [(0,vT x0),(4,.ptr 0 0),(7,vI x1),(8,.ptr 1 0),(9,vI x2),(20,vI x3),(21,vI x4)] ⟨[[vI x5,.s x6,vI x7,.row 0 0],[vI x8,.s x9,vI x10,vT x11]],[⟨.term,x12,0,0,false⟩]⟩
theorem qnJ(m k):qbi m k=(qhL m k,qhB m k):=qW (M:=λ k=>(qhL m k,qhB m k)) rfl (λ _=>by kernel_rfl) k
theorem qpJ:okP tb [] i26:=λ m a=>(congrArg (a₁:=qbi m m) (λ L=>qhH m L.1 L.2 a.1) (qnJ m m)).trans (by kernel_rfl)
theorem qDP:okP tb [] i32:=λ m a=>by kernel_rfl
theorem qAJ:okP tb [] i33:=λ m a=>by kernel_rfl
theorem qBD:okP tb [] i34:=λ m a=>by kernel_rfl
theorem qyy:okP tb [] i10:=λ m a=>by kernel_rfl
def qp6(m k x0 x1 x2 x3 x4 x5):=tb.PL i39 3 m k [(1,.ptr 0 0),(3,vI x0),(4,vI x1)] ⟨[[vI x2,.s x3,vI x4,vT x5]],[]⟩
theorem qx2(m k):qaT m (jD m) k=qp6 m k:=qW (M:=qp6 m) rfl (λ _=>by kernel_rfl) k
theorem qAq:okP tb [] i39:=λ m a=>(congrArg (λ L=>qf4 m (jD m) L a.1) (qx2 m m)).trans (by kernel_rfl)
theorem qwl:okP tb [] i79:=λ m a=>by kernel_rfl
def qlw(m k x0 x1 x2 x3 x4 x5 x6 x7 x8):=tb.PL i43 18 m k [(2,.ptr 0 0),(3,.ptr 1 0),(9,vI x0)] ⟨[[vI x1,.s x2,vI x3,vT x4],[vI x5,.s x6,vI x7,vT x8]],[]⟩
theorem qs7(m k):Ja m (zR m) k=qlw m k:=qW (M:=qlw m) rfl (λ _=>by kernel_rfl) k
theorem qum:okP tb [] i43:=λ m a=>(congrArg (λ L=>qdi m (zR m) L a.1 a.2.1) (qs7 m m)).trans (by kernel_rfl)
theorem qAN:okP tb [] i13:=λ m a=>by kernel_rfl
def ql2(m k x0 x1 x2 x3 x4 x5):=tb.PL i86 5 m k [(1,vI x0),(2,.ptr 0 0),(5,vI x1)] ⟨[[vI x2,.s x3,vI x4,vT x5]],[]⟩
theorem qva(m k):JE m (jk m) k=ql2 m k:=qW (M:=ql2 m) rfl (λ _=>by kernel_rfl) k
theorem qwK:okP tb [] i86:=λ m a=>(congrArg (λ L=>qd5 m (jk m) L a.1 a.2.1) (qva m m)).trans (by kernel_rfl)
def qq1(m k x0 x1 x2):=tb.PL i47 4 m k [(0,vT x0),(2,vI x1),(7,vI x2)] ⟨[],[]⟩
theorem qAv(m k):qbY m k=qq1 m k:=qW (M:=qq1 m) rfl (λ _=>by kernel_rfl) k
theorem qDy:okP tb [] i47:=λ m a=>(congrArg (λ L=>qhy m L a.1 a.2.1 a.2.2.1) (qAv m m)).trans (by kernel_rfl)
theorem qB7:okP tb [] i15:=λ m a=>by kernel_rfl
theorem qrE:okP tb [] i16:=λ m a=>by kernel_rfl
def qn8(m k x0 x1 x2 x3 x4 x5):=tb.PL i40 3 m k [(1,.ptr 0 0),(3,vI x0),(4,vI x1)] ⟨[[vI x2,.s x3,vI x4,vT x5]],[]⟩
theorem qwE(m k):qad m (jM m) k=qn8 m k:=qW (M:=qn8 m) rfl (λ _=>by kernel_rfl) k
theorem qxO:okP tb [] i40:=λ m a=>(congrArg (λ L=>qe4 m (jM m) L a.1) (qwE m m)).trans (by kernel_rfl)
theorem qvO:okP tb [] qQA:=λ m a=>by kernel_rfl
theorem qyv:okP tb [] qOZ:=λ m a=>by kernel_rfl
def qmc(m k x0 x1):=tb.PL qMT 4 m k [(0,.s x0),(3,vI x1)] ⟨[],[]⟩
theorem qug(m k):JC m k=qmc m k:=qW (M:=qmc m) rfl (λ _=>by kernel_rfl) k
theorem qvx:okP tb [] qMT:=λ m a=>(congrArg (λ L=>qdV m L a.1) (qug m m)).trans (by kernel_rfl)
theorem qA4:okP tb [] qPY:=λ m a=>by kernel_rfl
def qnT(m k x0 x1 x2 x3 x4):=tb.PL i90 5 m k [(1,.ptr 0 0),(4,vI x0)] ⟨[[vI x1,.s x2,vI x3,vT x4]],[]⟩
theorem qvk(m k):qab m (jN m) k=qnT m k:=qW (M:=qnT m) rfl (λ _=>by kernel_rfl) k
theorem qy6:okP tb [] i90:=λ m a=>(congrArg (λ L=>qeU m (jN m) L a.1) (qvk m m)).trans (by kernel_rfl)
theorem qxJ:okP tb [] i55:=λ m a=>by kernel_rfl
theorem qt9:okP tb [] i99:=λ m a=>by kernel_rfl
def qp5(m k x0 x1 x2):=tb.PL i64 3 m k [(0,.s x0),(3,.sl y6 x1 1),(4,vI x2)] ⟨[],[]⟩
theorem qyL(m k):qaX m k=qp5 m k:=qW (M:=qp5 m) rfl (λ _=>by kernel_rfl) k
theorem qAV:okP tb [] i64:=λ m a=>(congrArg (λ L=>qfV m L a.1) (qyL m m)).trans (by kernel_rfl)
def qp0(m k x0 x1 x2 x3 x4 x5):=tb.PL qLP 3 m k [(1,.ptr 0 0),(3,.sl y6 x0 1),(4,vI x1)] ⟨[[vI x2,.s x3,vI x4,vT x5]],[]⟩
theorem qx1(m k):qa0 m k=qp0 m k:=qW (M:=qp0 m) rfl (λ _=>by kernel_rfl) k
theorem qAt:okP tb [] qLP:=λ m a=>(congrArg (λ L=>qgd m L a.1) (qx1 m m)).trans (by kernel_rfl)
def qm7(m k x0 x1 x2 x3 x4):=tb.PL qKv 4 m k [(1,.ptr 0 0),(3,vI x0)] ⟨[[vI x1,.s x2,vI x3,vT x4]],[]⟩
theorem qtF(m k):JB m k=qm7 m k:=qW (M:=qm7 m) rfl (λ _=>by kernel_rfl) k
theorem qvW:okP tb [] qKv:=λ m a=>(congrArg (λ L=>qdN m L a.1) (qtF m m)).trans (by kernel_rfl)
def qnH(m k x0 x1 x2 x3 x4):=tb.PL i77 11 m k [(1,.ptr 0 0),(4,vI x0)] ⟨[[vI x1,.s x2,vI x3,vT x4]],[]⟩
theorem qwt(m k):Jl m (jv m) k=qnH m k:=qW (M:=qnH m) rfl (λ _=>by kernel_rfl) k
theorem qx6:okP tb [] i77:=λ m a=>(congrArg (λ L=>qe6 m (jv m) L a.1) (qwt m m)).trans (by kernel_rfl)
theorem qxC:okP tb [] i41:=λ m a=>by kernel_rfl
def qq0(m k x0 x1 x2 x3 x4 x5):=tb.PL i62 3 m k [(1,.ptr 0 0),(3,.row 0 0),(4,vI x0)] ⟨[[vI x1,.s x2,vI x3,vT x4]],[⟨.term,x5,0,0,true⟩]⟩
theorem qBg(m k):qb0 m (Qv m) k=qq0 m k:=qW (M:=qq0 m) rfl (λ _=>by kernel_rfl) k
theorem qDQ:okP tb [] i62:=λ m a=>(congrArg (λ L=>qhC m (Qv m) L a.1) (qBg m m)).trans (by kernel_rfl)
theorem qE8:okP tb [] qO3:=λ m a=>by kernel_rfl
theorem qus:okP tb [] qQn:=λ m a=>by kernel_rfl
def qnF(m k x0 x1 x2 x3 x4 x5):=tb.PL qKs 4 m k [(0,vT x0),(3,.ptr 0 0),(5,vI x1)] ⟨[[vI x2,.s x3,vI x4,vT x5]],[]⟩
theorem qvA(m k):qaf m k=qnF m k:=qW (M:=qnF m) rfl (λ _=>by kernel_rfl) k
theorem qyA:okP tb [] qKs:=λ m a=>(congrArg (λ L=>qfn m L a.1 a.2.1) (qvA m m)).trans (by kernel_rfl)
theorem qA2:okP tb [] qQh:=λ m a=>by kernel_rfl
def qrn(m k x0 x1 x2 x3 x4 x5 x6 x7):=tb.PL qLe 4 m k [(0,vT x0),(3,.ptr 0 0),(5,.row 0 0),(6,.b x1),(7,vI x2)] ⟨[[vI x3,.s x4,vI x5,vT x6]],[⟨.term,x7,0,0,false⟩]⟩
theorem qA9(m k):qb5 m k=qrn m k:=qW (M:=qrn m) rfl (λ _=>by kernel_rfl) k
theorem qCw:okP tb [] qLe:=λ m a=>(congrArg (λ L=>qhh m L a.1 a.2.1) (qA9 m m)).trans (by kernel_rfl)
def qr2(m k x0 x1 x2 x3 x4 x5):=tb.PL qLc 2 m k [(0,vT x0),(3,.ptr 0 0),(5,vI x1)] ⟨[[vI x2,.s x3,vI x4,vT x5]],[]⟩
theorem qAK(m k):qb1 m k=qr2 m k:=qW (M:=qr2 m) rfl (λ _=>by kernel_rfl) k
theorem qCO:okP tb [] qLc:=λ m a=>(congrArg (λ L=>qhb m L a.1 a.2.1) (qAK m m)).trans (by kernel_rfl)
def qmK(m k x0 x1 x2 x3 x4 x5 x6):=tb.PL qNb 5 m k [(0,vT x0),(3,.ptr 0 0),(5,.row 0 0),(6,vI x1)] ⟨[[vI x2,.s x3,vI x4,vT x5]],[⟨.term,x6,0,0,false⟩]⟩
theorem qtW(m k):JL m k=qmK m k:=qW (M:=qmK m) rfl (λ _=>by kernel_rfl) k
theorem qvn:okP tb [] qNb:=λ m a=>(congrArg (λ L=>qdZ m L a.1 a.2.1) (qtW m m)).trans (by kernel_rfl)
def qp7(m k x0 x1 x2):=tb.PL qK7 3 m k [(1,vT x0),(5,vT x1),(6,vI x2)] ⟨[],[]⟩
theorem qyg(m k):J3 m k=qp7 m k:=qW (M:=qp7 m) rfl (λ _=>by kernel_rfl) k
theorem qAw:okP tb [] qK7:=λ m a=>(congrArg (λ L=>qgc m L a.1 a.2.1) (qyg m m)).trans (by kernel_rfl)
def qjC(m k x0 x1 x2 x3 x4 x5):=tb.PL qMl 7 m k [(1,.ptr 0 0),(3,vT x0),(4,vI x1)] ⟨[[vI x2,.s x3,vI x4,vT x5]],[]⟩
theorem qsh(m k):jX m (zZ m) k=qjC m k:=qW (M:=qjC m) rfl (λ _=>by kernel_rfl) k
theorem qs5:okP tb [] qMl:=λ m a=>(congrArg (λ L=>qca m (zZ m) L a.1) (qsh m m)).trans (by kernel_rfl)
theorem qAP:okP tb [] qQv:=λ m a=>by kernel_rfl
def qrL(m k x0 x1 x2 x3 x4 x5 x6):=tb.PL qLl 6 m k [(0,vT x0),(2,.ptr 0 0),(5,vT x1),(6,vI x2)] ⟨[[vI x3,.s x4,vI x5,.row 0 0]],[⟨.term,x6,0,0,true⟩]⟩
theorem qAr(m k):qbX m k=qrL m k:=qW (M:=qrL m) rfl (λ _=>by kernel_rfl) k
theorem qEm:okP tb [] qLl:=λ m a=>(congrArg (λ L=>qgU m L a.1) (qAr m m)).trans (by kernel_rfl)
theorem qtL:okP tb [] qOY:=λ m a=>by kernel_rfl
def qon(m k x0 x1 x2 x3 x4 x5):=tb.PL qK8 7 m k [(1,.ptr 0 0),(3,vI x0),(4,vI x1)] ⟨[[vI x2,.s x3,vI x4,vT x5]],[]⟩
theorem qvR(m k):Jn m (jr m) k=qon m k:=qW (M:=qon m) rfl (λ _=>by kernel_rfl) k
theorem qyz:okP tb [] qK8:=λ m a=>(congrArg (λ L=>qe3 m (jr m) L a.1) (qvR m m)).trans (by kernel_rfl)
def qqV(m k x0 x1 x2 x3 x4 x5 x6 x7 x8):=tb.QL qLS 4 m k [(0,.row 0 0),(2,vI x0),(4,.ptr 0 0),(7,.row 1 0),(8,.b x1),(9,vI x2)] ⟨[[vI x3,.s x4,vI x5,vT x6]],[⟨y1,x7,0,0,false⟩,⟨y1,x8,0,0,false⟩]⟩
theorem qA0(m k):JN m k=qqV m k:=qW (M:=qqV m) rfl (λ _=>by kernel_rfl) k
theorem qBx:okS tb qLS:=λ m a=>(congrArg (λ L=>qg2 m L a.1 a.2.1 a.2.2.1) (qA0 m m)).trans (by kernel_rfl)
def qle(m k x0 x1 x2 x3 x4 x5 x6):=tb.QL qKN 6 m k [(0,.row 0 0),(2,vI x0),(4,.ptr 0 0),(7,vI x1)] ⟨[[vI x2,.s x3,vI x4,vT x5]],[⟨y1,x6,0,0,false⟩]⟩
theorem qtb(m k):Qx m (yp m) k=qle m k:=qW (M:=qle m) rfl (λ _=>by kernel_rfl) k
theorem quk:okS tb qKN:=λ m a=>(congrArg (λ L=>qdp m (yp m) L a.1 a.2.1 a.2.2.1) (qtb m m)).trans (by kernel_rfl)
theorem qE3:okP tb [] qON:=λ m a=>by kernel_rfl
def qn4(m k x0 x1):=tb.PL qMb 4 m k [(0,.sl y1 x0 1),(3,vI x1)] ⟨[],[]⟩
theorem qvs(m k):Jm m k=qn4 m k:=qW (M:=qn4 m) rfl (λ _=>by kernel_rfl) k
theorem qyh:okP tb [] qMb:=λ m a=>(congrArg (λ L=>qeT m L a.1) (qvs m m)).trans (by kernel_rfl)
def qjT(m k x0 x1 x2):=tb.PL qyb 3 m k [(0,.sl y1 x0 1),(3,.row 0 0),(4,vI x1)] ⟨[],[⟨.term,x2,0,0,false⟩]⟩
def qjF(m k x0 x1 x2 x3):=tb.PL qyb 6 m k [(0,.sl y1 x0 1),(3,.row 0 0),(4,vI x1),(5,vI x2)] ⟨[],[⟨.term,x3,0,0,false⟩]⟩
def qjN(m k x0 x1 x2):=tb.PL qyb 10 m k [(0,.sl y1 x0 1),(3,.row 0 0),(6,vI x1)] ⟨[],[⟨.term,x2,0,0,false⟩]⟩
def qjQ(m k x0 x1 x2 x3):=tb.PL qyb 13 m k [(0,.sl y1 x0 1),(3,.row 0 0),(6,vI x1),(7,vI x2)] ⟨[],[⟨.term,x3,0,0,false⟩]⟩
theorem qsc(m k):qm m k=(qjT m k,qjF m k,qjN m k,qjQ m k):=qW (M:=λ k=>(qjT m k,qjF m k,qjN m k,qjQ m k)) rfl (λ _=>by kernel_rfl) k
theorem qs1:okP tb [] qyb:=λ m a=>(congrArg (a₁:=qm m m) (λ L=>qcn m L.1 L.2.1 L.2.2.1 L.2.2.2 a.1) (qsc m m)).trans (by kernel_rfl)
theorem qAD:okP tb [] qPC:=λ m a=>by kernel_rfl
theorem quV:okP tb [] qPr:=λ m a=>by kernel_rfl
def qlM(m k x0 x1):=tb.PL qKt 2 m k [(0,.sl y1 x0 1),(3,vI x1)] ⟨[],[]⟩
theorem qtc(m k):Jg m k=qlM m k:=qW (M:=qlM m) rfl (λ _=>by kernel_rfl) k
theorem quc:okP tb [] qKt:=λ m a=>(congrArg (λ L=>qde m L a.1) (qtc m m)).trans (by kernel_rfl)
def qsb(m k x0 x1 x2):=tb.PL qKV 9 m k [(1,.sl y1 x0 1),(8,.row 0 0),(9,vI x1)] ⟨[],[⟨y1,x2,0,0,false⟩]⟩
theorem qBh(m k):qaF m k=qsb m k:=qW (M:=qsb m) rfl (λ _=>by kernel_rfl) k
theorem qD4:okP tb [] qKV:=λ m a=>(congrArg (λ L=>qgS m L a.1 a.2.1) (qBh m m)).trans (by kernel_rfl)
theorem qyY:okP tb [] qOS:=λ m a=>by kernel_rfl
def qmO(m k x0 x1 x2 x3 x4 x5 x6 x7 x8 x9):=tb.PL qKM 5 m k [(1,.ptr 0 0),(2,.ptr 1 0),(4,.row 1 0),(5,vI x0)] ⟨[[vI x1,.s x2,vI x3,vT x4],[vI x5,.s x6,vI x7,.row 0 0]],[⟨.term,x8,0,0,false⟩,⟨.term,x9,0,0,false⟩]⟩
theorem quP(m k):JG m (ji m) k=qmO m k:=qW (M:=qmO m) rfl (λ _=>by kernel_rfl) k
theorem qwq:okP tb [] qKM:=λ m a=>(congrArg (λ L=>qea m (ji m) L a.1) (quP m m)).trans (by kernel_rfl)
theorem qwu:okP tb [] i78:=λ m a=>by kernel_rfl
def qn7(m k x0 x1):=tb.PL i42 6 m k [(5,vT x0),(6,vI x1)] ⟨[],[]⟩
theorem qv4(m k):qac m k=qn7 m k:=qW (M:=qn7 m) rfl (λ _=>by kernel_rfl) k
theorem qyp:okP tb [] i42:=λ m a=>(congrArg (λ L=>qfe m L a.1) (qv4 m m)).trans (by kernel_rfl)
def qqI(m k x0 x1 x2):=tb.PL qMr 3 m k [(0,vT x0),(3,vT x1),(4,vI x2)] ⟨[],[]⟩
theorem qBf(m k):qbZ m k=qqI m k:=qW (M:=qqI m) rfl (λ _=>by kernel_rfl) k
theorem qEc:okP tb [] qMr:=λ m a=>(congrArg (λ L=>qhm m L a.1) (qBf m m)).trans (by kernel_rfl)
def qqb(m k x0 x1 x2 x3):=tb.PL qLs 4 m k [(1,vI x0),(5,.row 0 0),(6,vT x1),(7,vI x2)] ⟨[],[⟨.term,x3,0,0,false⟩]⟩
theorem qxE(m k):qaS m k=qqb m k:=qW (M:=qqb m) rfl (λ _=>by kernel_rfl) k
theorem qA6:okP tb [] qLs:=λ m a=>(congrArg (λ L=>qf9 m L a.1 a.2.1) (qxE m m)).trans (by kernel_rfl)
theorem qAZ:okP tb [] i87:=λ m a=>by kernel_rfl
theorem qwH:okP tb [] i48:=λ m a=>by kernel_rfl
theorem qx7:okP tb [] i18:=λ m a=>by kernel_rfl
theorem qyt:okP tb [] i75:=λ m a=>by kernel_rfl
def qoj(m k x0 x1 x2):=tb.PL i65 3 m k [(0,.s x0),(3,.sl .str x1 1),(4,vI x2)] ⟨[],[]⟩
theorem qv2(m k):qae m k=qoj m k:=qW (M:=qoj m) rfl (λ _=>by kernel_rfl) k
theorem qyM:okP tb [] i65:=λ m a=>(congrArg (λ L=>qe2 m L a.1) (qv2 m m)).trans (by kernel_rfl)
theorem quE:okP tb [] i66:=λ m a=>by kernel_rfl
def qnR(m k x0 x1 x2 x3 x4 x5):=tb.PL i31 7 m k [(1,.ptr 0 0),(3,.s x0),(4,vI x1)] ⟨[[vI x2,.s x3,vI x4,vT x5]],[]⟩
theorem qvp(m k):Jo m (ju m) k=qnR m k:=qW (M:=qnR m) rfl (λ _=>by kernel_rfl) k
theorem qyD:okP tb [] i31:=λ m a=>(congrArg (λ L=>qfm m (ju m) L a.1) (qvp m m)).trans (by kernel_rfl)
theorem qwR:okP tb [] i17:=λ m a=>by kernel_rfl
theorem qlV:okP tb [] i4:=λ m a=>by kernel_rfl
end Go.AmZ
namespace Go.Proofs
open Go.Shelf
def Tryz.sortTrm_ren:Go.Shelf.Ren:=⟨λ|6=>139|15=>176|14=>175|28=>211|29=>179|20=>203|21=>204|22=>205|23=>206|24=>207|25=>208|26=>209|27=>210|46=>231|47=>232|48=>233|49=>234|50=>235|57=>242|n=>n,λ|22=>23|24=>25|25=>64|3=>3|39=>164|0=>0|53=>169|55=>144|4=>4|46=>188|45=>187|50=>192|5=>5|9=>9|66=>209|70=>83|76=>221|77=>222|n=>n,λ|n=>n⟩
theorem Tryz.sortTrm:Go.Proofs.SlLaysF0.n6 Tryz.prog Tryz.sortTrm_ren:={
 mixed:=by kernel_rfl
 f6:=⟨Tryz.f139.name,by decide,Tryz.func139.trans (congrArg some (by kernel_rfl))⟩
 f14:=⟨Tryz.f175.name,by decide,Tryz.func175.trans (congrArg some (by kernel_rfl))⟩
 f15:=Tryz.func176.trans (congrArg some (by kernel_rfl))
 f20:=⟨Tryz.f203.name,by decide,Tryz.func203.trans (congrArg some (by kernel_rfl))⟩
 f21:=⟨Tryz.f204.name,by decide,Tryz.func204.trans (congrArg some (by kernel_rfl))⟩
 f22:=⟨Tryz.f205.name,by decide,Tryz.func205.trans (congrArg some (by kernel_rfl))⟩
 f23:=⟨Tryz.f206.name,by decide,Tryz.func206.trans (congrArg some (by kernel_rfl))⟩
 f24:=⟨Tryz.f207.name,by decide,Tryz.func207.trans (congrArg some (by kernel_rfl))⟩
 f25:=⟨Tryz.f208.name,by decide,Tryz.func208.trans (congrArg some (by kernel_rfl))⟩
 f26:=⟨Tryz.f209.name,by decide,Tryz.func209.trans (congrArg some (by kernel_rfl))⟩
 f27:=⟨Tryz.f210.name,by decide,Tryz.func210.trans (congrArg some (by kernel_rfl))⟩
 f28:=Tryz.func211.trans (congrArg some (by kernel_rfl))
 f29:=Tryz.func179.trans (congrArg some (by kernel_rfl))
 f46:=⟨Tryz.f231.name,by decide,Tryz.func231.trans (congrArg some (by kernel_rfl))⟩
 f47:=Tryz.func232.trans (congrArg some (by kernel_rfl))
 f48:=Tryz.func233.trans (congrArg some (by kernel_rfl))
 f49:=⟨Tryz.f234.name,by decide,Tryz.func234.trans (congrArg some (by kernel_rfl))⟩
 f50:=⟨Tryz.f235.name,by decide,Tryz.func235.trans (congrArg some (by kernel_rfl))⟩
 f57:=⟨Tryz.f242.name,by decide,Tryz.func242.trans (congrArg some (by kernel_rfl))⟩
 t0:=Tryz.underlying0
 a0:=Tryz.isAgg0
 z0:=Tryz.sizeOf0
 v0:=Tryz.zeroValue0
 t3:=Tryz.underlying3
 a3:=Tryz.isAgg3
 z3:=Tryz.sizeOf3
 v3:=Tryz.zeroValue3
 t4:=Tryz.underlying4
 a4:=Tryz.isAgg4
 z4:=Tryz.sizeOf4
 v4:=Tryz.zeroValue4
 t5:=Tryz.underlying5
 a5:=Tryz.isAgg5
 z5:=Tryz.sizeOf5
 v5:=Tryz.zeroValue5
 t9:=Tryz.underlying9
 a9:=Tryz.isAgg9
 z9:=Tryz.sizeOf9
 v9:=Tryz.zeroValue9
 t22:=Tryz.underlying23
 a22:=Tryz.isAgg23
 z22:=Tryz.sizeOf23
 v22:=Tryz.zeroValue23
 t25:=Tryz.underlying64
 a25:=Tryz.isAgg64
 z25:=Tryz.sizeOf64
 v25:=Tryz.zeroValue64
 t39:=Tryz.underlying164
 a39:=Tryz.isAgg164
 z39:=Tryz.sizeOf164
 v39:=Tryz.zeroValue164
 t45:=Tryz.underlying187
 a45:=Tryz.isAgg187
 z45:=Tryz.sizeOf187
 v45:=Tryz.zeroValue187
 t46:=Tryz.underlying188
 a46:=Tryz.isAgg188
 z46:=Tryz.sizeOf188
 v46:=Tryz.zeroValue188
 t50:=Tryz.underlying192
 a50:=Tryz.isAgg192
 z50:=Tryz.sizeOf192
 v50:=Tryz.zeroValue192
 t53:=Tryz.underlying169
 a53:=Tryz.isAgg169
 z53:=Tryz.sizeOf169
 v53:=Tryz.zeroValue169
 t55:=Tryz.underlying144
 a55:=Tryz.isAgg144
 z55:=Tryz.sizeOf144
 v55:=Tryz.zeroValue144
 t66:=Tryz.underlying209
 a66:=Tryz.isAgg209
 z66:=Tryz.sizeOf209
 v66:=Tryz.zeroValue209
 t70:=Tryz.underlying83
 a70:=Tryz.isAgg83
 z70:=Tryz.sizeOf83
 v70:=Tryz.zeroValue83
 t76:=Tryz.underlying221
 a76:=Tryz.isAgg221
 z76:=Tryz.sizeOf221
 v76:=Tryz.zeroValue221
 t77:=Tryz.underlying222
 a77:=Tryz.isAgg222
 z77:=Tryz.sizeOf222
 v77:=Tryz.zeroValue222}
end Go.Proofs
namespace Go.Proofs
open Go.Shelf
def Tryz.sortBnd_ren:Go.Shelf.Ren:=⟨λ|6=>152|15=>176|14=>189|28=>211|29=>179|20=>215|21=>216|22=>217|23=>218|24=>219|25=>220|26=>221|27=>222|46=>236|47=>232|48=>233|49=>237|50=>238|57=>243|n=>n,λ|22=>48|24=>76|25=>150|3=>3|39=>164|0=>0|53=>169|55=>144|4=>4|46=>188|45=>187|50=>192|5=>5|9=>9|66=>209|70=>83|76=>221|77=>222|n=>n,λ|n=>n⟩
theorem Tryz.sortBnd:Go.Proofs.SlLaysF0.n6 Tryz.prog Tryz.sortBnd_ren:={
 mixed:=by kernel_rfl
 f6:=⟨Tryz.f152.name,by decide,Tryz.func152.trans (congrArg some (by kernel_rfl))⟩
 f14:=⟨Tryz.f189.name,by decide,Tryz.func189.trans (congrArg some (by kernel_rfl))⟩
 f15:=Tryz.func176.trans (congrArg some (by kernel_rfl))
 f20:=⟨Tryz.f215.name,by decide,Tryz.func215.trans (congrArg some (by kernel_rfl))⟩
 f21:=⟨Tryz.f216.name,by decide,Tryz.func216.trans (congrArg some (by kernel_rfl))⟩
 f22:=⟨Tryz.f217.name,by decide,Tryz.func217.trans (congrArg some (by kernel_rfl))⟩
 f23:=⟨Tryz.f218.name,by decide,Tryz.func218.trans (congrArg some (by kernel_rfl))⟩
 f24:=⟨Tryz.f219.name,by decide,Tryz.func219.trans (congrArg some (by kernel_rfl))⟩
 f25:=⟨Tryz.f220.name,by decide,Tryz.func220.trans (congrArg some (by kernel_rfl))⟩
 f26:=⟨Tryz.f221.name,by decide,Tryz.func221.trans (congrArg some (by kernel_rfl))⟩
 f27:=⟨Tryz.f222.name,by decide,Tryz.func222.trans (congrArg some (by kernel_rfl))⟩
 f28:=Tryz.func211.trans (congrArg some (by kernel_rfl))
 f29:=Tryz.func179.trans (congrArg some (by kernel_rfl))
 f46:=⟨Tryz.f236.name,by decide,Tryz.func236.trans (congrArg some (by kernel_rfl))⟩
 f47:=Tryz.func232.trans (congrArg some (by kernel_rfl))
 f48:=Tryz.func233.trans (congrArg some (by kernel_rfl))
 f49:=⟨Tryz.f237.name,by decide,Tryz.func237.trans (congrArg some (by kernel_rfl))⟩
 f50:=⟨Tryz.f238.name,by decide,Tryz.func238.trans (congrArg some (by kernel_rfl))⟩
 f57:=⟨Tryz.f243.name,by decide,Tryz.func243.trans (congrArg some (by kernel_rfl))⟩
 t0:=Tryz.underlying0
 a0:=Tryz.isAgg0
 z0:=Tryz.sizeOf0
 v0:=Tryz.zeroValue0
 t3:=Tryz.underlying3
 a3:=Tryz.isAgg3
 z3:=Tryz.sizeOf3
 v3:=Tryz.zeroValue3
 t4:=Tryz.underlying4
 a4:=Tryz.isAgg4
 z4:=Tryz.sizeOf4
 v4:=Tryz.zeroValue4
 t5:=Tryz.underlying5
 a5:=Tryz.isAgg5
 z5:=Tryz.sizeOf5
 v5:=Tryz.zeroValue5
 t9:=Tryz.underlying9
 a9:=Tryz.isAgg9
 z9:=Tryz.sizeOf9
 v9:=Tryz.zeroValue9
 t22:=Tryz.underlying48
 a22:=Tryz.isAgg48
 z22:=Tryz.sizeOf48
 v22:=Tryz.zeroValue48
 t25:=Tryz.underlying150
 a25:=Tryz.isAgg150
 z25:=Tryz.sizeOf150
 v25:=Tryz.zeroValue150
 t39:=Tryz.underlying164
 a39:=Tryz.isAgg164
 z39:=Tryz.sizeOf164
 v39:=Tryz.zeroValue164
 t45:=Tryz.underlying187
 a45:=Tryz.isAgg187
 z45:=Tryz.sizeOf187
 v45:=Tryz.zeroValue187
 t46:=Tryz.underlying188
 a46:=Tryz.isAgg188
 z46:=Tryz.sizeOf188
 v46:=Tryz.zeroValue188
 t50:=Tryz.underlying192
 a50:=Tryz.isAgg192
 z50:=Tryz.sizeOf192
 v50:=Tryz.zeroValue192
 t53:=Tryz.underlying169
 a53:=Tryz.isAgg169
 z53:=Tryz.sizeOf169
 v53:=Tryz.zeroValue169
 t55:=Tryz.underlying144
 a55:=Tryz.isAgg144
 z55:=Tryz.sizeOf144
 v55:=Tryz.zeroValue144
 t66:=Tryz.underlying209
 a66:=Tryz.isAgg209
 z66:=Tryz.sizeOf209
 v66:=Tryz.zeroValue209
 t70:=Tryz.underlying83
 a70:=Tryz.isAgg83
 z70:=Tryz.sizeOf83
 v70:=Tryz.zeroValue83
 t76:=Tryz.underlying221
 a76:=Tryz.isAgg221
 z76:=Tryz.sizeOf221
 v76:=Tryz.zeroValue221
 t77:=Tryz.underlying222
 a77:=Tryz.isAgg222
 z77:=Tryz.sizeOf222
 v77:=Tryz.zeroValue222}
end Go.Proofs
namespace Go.GxZ
open Go.RowKit
def Box(w:World)(b:Nat)(e d c a:Value):Prop:=
 w.cell? ⟨b,0,none⟩=some e/\w.cell? ⟨b,1,none⟩=some d/\w.cell? ⟨b,2,none⟩=some c/\w.cell? ⟨b,3,none⟩=some a
theorem Box.keep{w u:World}{b:Nat}{g f e d:Value}{B:Nat}(h:Box w b g f e d)(c:b<B)(a:Below B w u):Box u b g f e d:=
 ⟨(a.cell c).trans h.1,(a.cell c).trans h.2.1,(a.cell c).trans h.2.2.1,(a.cell c).trans h.2.2.2⟩
theorem qyk(w:World)(d c b a:Value)(t:TypeId):Box (w.alloc (Obj.cells #[d,c,b,a] t)) w.heap.size d c b a:=
 ⟨by rw[World.cell?_alloc_mark];rfl,by rw[World.cell?_alloc_mark];rfl,by rw[World.cell?_alloc_mark];rfl,by rw[World.cell?_alloc_mark];rfl⟩
theorem qQS(w:World)(e d c b:Value)(t:TypeId):
  ∃a,w.alloc (Obj.cells #[e,d,c,b] t)=a/\Below w.heap.size w a/\a.heap.size=w.heap.size+1/\∀u,Below a.heap.size a u->Box u w.heap.size e d c b:=
 ⟨_,rfl,(Below.refl _ _).alloc (wa _) _,by simp,λ _ f=>(qyk w e d c b t).keep (by simp) f⟩
theorem qKC(w:World)(d c b a f y1 y2 y3:Value)(t g:TypeId):
  ∃e,(w.alloc (Obj.cells #[d,c,b,a] t)).alloc (Obj.cells #[f,y1,y2,y3] g)=e/\Below w.heap.size w e/\e.heap.size=w.heap.size+2/\
   ∀u,Below e.heap.size e u->Box u w.heap.size d c b a/\Box u (w.heap.size+1) f y1 y2 y3:=by
 refine⟨_,rfl,((Below.refl _ _).alloc (wa _) _).alloc (by simp) _,by simp,λ u h=>⟨?_,?_⟩⟩
 .exact((qyk w d c b a t).keep (B:=w.heap.size+1) (by omega) (((Below.refl _ _).alloc (by simp) _))).keep (by simp;omega) h
 .have:=qyk (w.alloc (Obj.cells #[d,c,b,a] t)) f y1 y2 y3 g;rw[show(w.alloc (Obj.cells #[d,c,b,a] t)).heap.size=w.heap.size+1 by simp]at this;exact this.keep (by simp) h
theorem qAj(w:World)(b:Nat)(n y1 y2 y3 m l g f:Value)(h:Box w b n y1 y2 y3):
  ∃w',(((w.setCell ⟨b,0,none⟩ m).setCell ⟨b,1,none⟩ l).setCell ⟨b,2,none⟩ g).setCell ⟨b,3,none⟩ f=w'/\Box w' b m l g f/\(∀B,B<=b->∀w0,Below B w0 w->Below B w0 w')/\
   w'.heap.size=w.heap.size/\(∀k,k≠b->w'.heap[k]?=w.heap[k]?)/\(∀a,w'.frozen? a=w.frozen? a):=by
 let⟨r,q,p,o⟩:=h;have c:∀i j:Nat,i≠j->(⟨b,i,none⟩:Addr)≠⟨b,j,none⟩:=λ i j h k=>h (by cases k;rfl);refine⟨_,rfl,⟨?_,?_,?_,?_⟩,λ B e w0 h=>(((h.setCell e _).setCell e _).setCell e _).setCell e _,by simp,λ k d=>?_,λ a=>by simp⟩
 .rw[World.cell?_setCell_other _ _ _ _ (c 3 0 (by decide)),World.cell?_setCell_other _ _ _ _ (c 2 0 (by decide)),World.cell?_setCell_other _ _ _ _ (c 1 0 (by decide))];exact World.cell?_setCell_same _ _ _ r
 .rw[World.cell?_setCell_other _ _ _ _ (c 3 1 (by decide)),World.cell?_setCell_other _ _ _ _ (c 2 1 (by decide))];refine World.cell?_setCell_same _ _ _ (u:=y1) ?_;rw[World.cell?_setCell_other _ _ _ _ (c 0 1 (by decide))];exact q
 .rw[World.cell?_setCell_other _ _ _ _ (c 3 2 (by decide))];refine World.cell?_setCell_same _ _ _ (u:=y2) ?_;rw[World.cell?_setCell_other _ _ _ _ (c 1 2 (by decide)),World.cell?_setCell_other _ _ _ _ (c 0 2 (by decide))];exact p
 .refine World.cell?_setCell_same _ _ _ (u:=y3) ?_;rw[World.cell?_setCell_other _ _ _ _ (c 2 3 (by decide)),World.cell?_setCell_other _ _ _ _ (c 1 3 (by decide)),World.cell?_setCell_other _ _ _ _ (c 0 3 (by decide))];exact o
 .rw[Below.heap_setCell _ _ _ _ d,Below.heap_setCell _ _ _ _ d,Below.heap_setCell _ _ _ _ d,Below.heap_setCell _ _ _ _ d]
theorem Box.same{w u:World}{b:Nat}{g f e d:Value}(h:Box w b g f e d)(c:u.heap[b]?=w.heap[b]?):Box u b g f e d:=
 ⟨(World.cell?_of_block (w:=w) (a:=⟨b,0,none⟩) c).trans h.1,(World.cell?_of_block (w:=w) (a:=⟨b,1,none⟩) c).trans h.2.1,(World.cell?_of_block (w:=w) (a:=⟨b,2,none⟩) c).trans h.2.2.1,(World.cell?_of_block (w:=w) (a:=⟨b,3,none⟩) c).trans h.2.2.2⟩
end Go.GxZ
namespace Go.Proofs.YtinbdcelmgfniaaGreatDoor
open Go Go.RowKit Go.GxZ Go.AmZ Go.Lib
theorem qGo:qnM Tryz.prog .term 23 25 56:=⟨by
 have h:(match yO Tryz.prog 23 with|some ⟨_,_,_,_,.slice e k b z⟩=>Nat.beq e 25&&(Nat.beq k 4&&(Nat.beq b 56&&Nat.beq z.length 4))|_=>false)=true:=by kernel_rfl
 split at h
 .rename_i l j i g e k b z m;simp only[wc]at h;let⟨f,d,c,a⟩:=h;have f:=wn f;have d:=wn d;have c:=wn c;have a:=wn a;subst f;subst d;subst c;exact⟨l,j,i,g,z,m,a⟩
 .cases h⟩
theorem qH2{F:Val RD->Option qj4}{k:Nat}{b:Val RD}{r:(Val RD×Unit)×(T×Unit)}(h:qou F k b=some r):∃a nk nm sk lf,F b=some ((a,()),((nk,nm,sk,[],lf,()),()))/\qkm F k [(T.mk nk nm sk [],lf)] a=some r:=by
 unfold qou at h;cases c:qer F b with
 |none=>rw[c]at h;cases h
 |some x=>
   let⟨a,nk,nm,sk,lf⟩:=x;rw[c]at h;exact⟨a,nk,nm,sk,lf,qtz c,h⟩
def qLO(a:Gh)(w0:World)(b:Val RD)(t:T)(e:Ending)(w':World):Prop:=∃(us:List Value) (Γ:Gh) (σ:St),e=.returned (.agg us.toArray)/\RS a w0 b Γ σ w'/\RepL Γ (qd .term t) us/\∀u∈us,u.oneCell'=true
theorem qLn:(Tryz.prog.info? 79).map (λ i=>(i.zero,i.size,i.bytes))=some (some (.agg #[.int .i64 0,.string ⟨#[]⟩,.int .i64 0,.slice none 0 0,.int .i64 0]),5,64):=by kernel_rfl
set_option maxHeartbeats 4000000 in
set_option maxRecDepth 1000000 in
theorem qIw{F:Val RD->Option qj4}(hF:qU Tryz.prog 67 (sgP (qov F))){k:Nat}{Γ0:Gh}{σ0:St}{w0:World}{rd rd':Val RD}{t:T}(h0:Inv Γ0 σ0 w0)(hb : σ0.bx=[qd RD rd])(hr : σ0.rw=[])(hf:qou F k rd=some ((rd',()),(t,()))) :
  Calls Tryz.prog 35 #[.pointer (some ⟨Γ0.β 0,0,none⟩)] w0 (qLO Γ0 w0 rd' t):=by
 have HF:=Lib.hid hF;have hS:RS Γ0 w0 rd Γ0 σ0 w0:=⟨.refl _ _,h0,hb⟩
 have HS:=Lib.hid hS;have HR:=Lib.hid hr;have HQ:=Lib.hid hf;clear hF hS hr hf h0 hb;generalize hβ : Γ0.β 0 = β;have Hβ := Lib.hid hβ;clear hβ
 go_enter Tryz.func35,Tryz.ntmps35
 obtain⟨rd1,nk,nm,sk,lf,hf1,hl1⟩:=qH2 HQ.out
 have hc1:∀ o:Obj,Calls Tryz.prog 67 #[.pointer (some ⟨β,0,none⟩)] (w0.alloc o) λ e w'=>∃ Γ' σ' ku,e = .returned (.agg #[.int .i64 nk,.string ⟨nm.toArray⟩,.int .i64 sk,ku,.int .i64 lf])/\Ext Γ0 (w0.alloc o) Γ' w'/\RS Γ0 w0 rd1 Γ' σ' w' /\ σ'.rw = σ0.rw++[⟨4,[],0,0,false⟩]/\Rep Γ' (.rs σ0.rw.length 0 0 0 false) ku := λ o=>by
  rw[<- Hβ.out];exact qxn HF.out hf1 (HS.out.alloc o)
 have HC1:=Lib.hid hc1;have HL1:=Lib.hid hl1;clear hc1 hl1 hf1
 go_wp2_with (go_at_call 67;refine(HC1.out _).mono ?_;rintro e w1 ⟨Γ1,σ1,ku,rfl,hx1,hS1,hrw1,hku1⟩)
 have hR1 : σ1.rw[σ0.rw.length]?=some ⟨4,[],0,0,false⟩:=by rw[hrw1];simp
 have hsz1:w0.heap.size+1<=w1.heap.size:=by have:=hx1.size;simpa using this
 have hres0:qcs Γ0 (w0.alloc (Obj.cells #[.int .i64 0,.string ⟨#[]⟩,.int .i64 0,.slice none 0 0] 25)) w0.heap.size 25 :=
  ⟨qeG.new HS.out.i (wa _),by simp,heap_alloc_new w0 _⟩
 have hres1:=hres0.ext hx1;obtain⟨hS2,hK2⟩:=qOB (N:=79) (B:=w0.heap.size) hS1 (by omega) (nk:=nk) (sk:=sk) (nm:=nm) (lf:=lf) hR1 hku1;have hres2:qcs Γ1 (w1.alloc (Obj.cells #[.int .i64 nk,.string ⟨nm.toArray⟩,.int .i64 sk,ku,.int .i64 lf] 79)) w0.heap.size 25:=hres1.same (by simp) (Below.heap_alloc _ _ _ hres1.2.1);have hbet:∀{Γ : Gh},Le Γ0 Γ -> Γ.β 0 = β := λ h=>(h.β 0 (by rw[HS.out.i.nb,HS.out.bx];exact wan)).trans Hβ.out;have HBET:Hid (∀{Γ : Gh},Le Γ0 Γ -> Γ.β 0 = β):=@hbet;have HS2:=Lib.hid hS2;have HK2:=Lib.hid hK2;have HRES2:=Lib.hid hres2;have HSZ1:=Lib.hid hsz1;clear hR1 hres0 hres1 hS2 hK2 hres2 hx1 hS1 hrw1 hku1 hbet hsz1 HC1
 go_loopg [3] k (λ g1 v3 wr=>∃(st:List (T × Int)) (ids:List Nat) (g cap:Nat) (cs:List Value) (Γ : Gh) (σ : St) (rdx:Val RD),v3 = .slice (some ⟨g,0,none⟩) (st.length:Nat) cap/\Hid (RS Γ0 w0 rdx Γ σ wr)/\Hid (Stk w0.heap.size 79 Γ σ wr st ids g cap cs)/\Hid (qcs Γ wr w0.heap.size 25/\w0.heap.size≠g)/\Hid (qkm F g1 st rdx=some ((rd',()),(t,()))))
 case atStart=>exact⟨_,_,_,_,_,_,_,_,rfl,HS2.out,HK2.out,⟨HRES2.out,by have:=HSZ1.out;omega⟩,HL1.out⟩
 case round =>
  obtain⟨st,ids,g,cap,cs,Γ,σ,rdx,rfl,HSr,HKr,HRr,HLr⟩:=hrel;clear HS2 HK2 HRES2 HL1 HSZ1
  obtain⟨m,hm⟩:∃ m,gk=m+1:=by
   cases gk with
   | zero=>exact absurd HLr.out (by intro h;cases h)
   | succ m=>exact⟨m,rfl⟩
  have HLm:Hid (qkm F (m+1) st rdx=some ((rd',()),(t,()))):=by rw[<- hm];exact HLr
  clear HLr;obtain⟨hw0,hw1,hw2⟩:=HSr.out.box;rw[HBET.out HSr.out.x.le]at hw0 hw1 hw2;clear hw0 hw1;rcases qGU (show qmR F (qkm F m) st rdx=some ((rd',()),(t,()))from HLm.out)with⟨hw,he⟩ | ⟨hw,p,top,lt,hlen,hp,hcase⟩
  ·rw[hw]at hw2;cases he;obtain⟨r0,r1,r2,r3,rf⟩:=HRr.out.1.cells;have RF:=Lib.hid rf;have f0:=rf 0;have f1:=rf 1;have f2:=rf 2;have f3:=rf 3;clear rf
   go_wp2_with fail
   obtain⟨w9,hw9,⟨b0,b1,b2,b3⟩,_⟩:=qAj wr w0.heap.size _ _ _ _ (.int .i64 0) (.string ⟨#[]⟩) (.int .i64 0) (.slice none 0 0) ⟨r0,r1,r2,r3⟩;have hS9:=HSr.out.put4 HRr.out.1.1 (wa _) (.int .i64 0) (.string ⟨#[]⟩) (.int .i64 0) (.slice none 0 0);rw[hw9]at hS9 |-
   refine bodyPost_ret (v := .agg #[.int .i64 0,.string ⟨#[]⟩,.int .i64 0,.slice none 0 0]) (by simp[results,Tryz.results35,go_sem,b0,b1,b2,b3]) rfl ?_;exact⟨_,Γ,σ,rfl,hS9,qhn (t := .mk 0 [] 0 []) qCT,qoU rfl⟩
  ·rw[hw]at hw2;obtain⟨r,hr,NC⟩:=HKr.out.at hp;have hcap:=qNV HKr.out.own;have hpm:p+1<=maxLen:=by omega
   unfold maxLen at hpm;have hwp:IntKind.i64.wrap (((p+1:Nat):Int)-1)=(p:Int):=by rw[IntKind.wrap_i64];omega
   obtain⟨Rp,kp,z1,z2,z3,z4,z5,z6,a0,a1,a2,a3,a4⟩:=NC;obtain⟨c4,f4⟩:=HKr.out.cell a4;have hz:(p:Int)<((p+1:Nat):Int):=by omega
   rcases hcase with⟨hlt,hroom,rd1,nk1,nm1,sk1,lf1,hf1,hih⟩ | ⟨hlt,hend⟩
   ·clear z1 z2 z3 z4 z5 z6 a0 a1 a2 a3;rw[hlen]
    go_upto_region 6 with(fail)
    have hwr:iw .i64 (yk lt 1)=wrap64 (lt-1):=by show IntKind.i64.wrap (lt-1)=_;rw[IntKind.wrap_i64];unfold wrap64;rfl
    rw[hwr]at hih;have hS2:=HSr.out.set HKr.out.priv (qcB HKr.out.own).1 (p*5+4) (.int .i64 (wrap64 (lt-1)));have hK2:=HKr.out.left hp (wrap64 (lt-1));have hR2:qcs Γ (wr.setCell ⟨g,p*5+4,none⟩ (.int .i64 (wrap64 (lt-1)))) w0.heap.size 25:=HRr.out.1.same (by simp) (Below.heap_setCell _ _ _ _ HRr.out.2);have hc:=qxn HF.out hf1 hS2;rw[HBET.out HSr.out.x.le]at hc;generalize wr.setCell ⟨g,p*5+4,none⟩ (.int .i64 (wrap64 (lt-1)))=w2 at *;have HC:=Lib.hid hc;have HK2:=Lib.hid hK2;have HR2:=Lib.hid hR2;have HIH:=Lib.hid hih;have HRM:=Lib.hid hroom;have HLEN:=Lib.hid hlen;have HNG:=Lib.hid HRr.out.2;clear hc hK2 hR2 hih hroom hS2 HSr HKr HRr hlen hcap hwp hz c4 f4 a4 hr hp hf1 hw2 hwr;obtain⟨i0,hi,hz0,hz1,hz2⟩:=info_parts qLn
    go_wp2_with (first
     | (go_at_call 67;refine HC.out.mono ?_;rintro e w3 ⟨Γ3,σ3,ku3,rfl,hx3,hS3,hrw3,hku3⟩
        have hK3:=HK2.out.later hx3 (σ' := σ3) (λ r _ R h=>by rw[hrw3,List.getElem?_append_left (getElem?_lt h)];exact h);have hR3:=HR2.out.ext hx3;have hnid : σ.rw.length ∉ ids:=HK2.out.id_lt;have hlen2:(st.set p (top,wrap64 (lt-1))).length=p+1:=by rw[wH];exact HLEN.out
        obtain⟨v4,w4,hrun4,g4,cap4,hv4,hS4,hK4,hsz4,hbl4,hg4⟩:=qME Tryz.underlying81 hi hz0 hz1 hz2 rfl hS3 hK3 (wa _) (nk:=nk1) (nm:=nm1) (sk:=sk1) (lf:=lf1) (r := σ.rw.length) (by rw[hrw3];simp) hku3 hnid (by rw[hlen2];exact HRM.out) 81;have hR4:qcs Γ3 w4 w0.heap.size 25:=hR3.same hsz4 (hbl4 _ hR3.2.1 HNG.out);have hng4:w0.heap.size≠g4:=by rcases hg4 with rfl | h;exact HNG.out;have:=hR3.2.1;omega
        rw[hlen2]at hrun4 hv4;subst hv4;have HS4:=Lib.hid hS4;have HK4:=Lib.hid hK4;have HR4:=Lib.hid hR4;have HNG4:=Lib.hid hng4;have HRUN:=Lib.hid hrun4;clear hx3 hS3 hrw3 hku3 hK3 hR3 hnid hlen2 hrun4 hS4 hK4 hsz4 hbl4 hg4 hR4 hng4)
     | (at_builtin;refine qy3 _ _ _ rfl rfl rfl rfl HRUN.out ?_))
    go_roundg m
    case measure=>omega
    case rel=>exact⟨_,_,g4,cap4,_,Γ3,σ3,rd1,by rw[wd,wH,HLEN.out];rfl,HS4.out,HK4.out,⟨HR4.out,HNG4.out⟩,HIH.out⟩
   ·obtain⟨c0,f0⟩:=HKr.out.cell a0;obtain⟨c1,f1⟩:=HKr.out.cell a1;obtain⟨c2,f2⟩:=HKr.out.cell a2;obtain⟨c3,f3⟩:=HKr.out.cell a3;have hgl:=(qcB HKr.out.own).2;have hbl:w0.heap.size<wr.heap.size:=HRr.out.1.2.1;have NC:qiM Γ σ cs p top lt r:=⟨Rp,kp,z1,z2,z3,z4,z5,z6,a0,a1,a2,a3,a4⟩
    have hk1:=z6.one rfl;obtain⟨pa,kn,kc,rfl⟩:∃ pa kn kc,kp = .slice pa kn kc:=by cases z6;exact⟨_,_,_,rfl⟩
    clear z1 z2 z3 z4 z5 z6 a0 a1 a2 f0 f1 f2 f3 f4;rcases hend with⟨rfl,he⟩ | ⟨q,par,n,rfl,hq,hroom,hih⟩
    ·cases he;rw[hlen];have hR5:∀ o:Obj,qcs Γ (wr.alloc o) w0.heap.size 25 := λ o=>HRr.out.1.same (by simp) (Below.heap_alloc _ _ _ hbl);obtain⟨r0,r1,r2,r3,rf⟩:=HRr.out.1.cells;have f0:=rf 0;have f1:=rf 1;have f2:=rf 2;have f3:=rf 3;clear rf;have HNC:=Lib.hid NC;have HR5:=Lib.hid hR5;have HLT:=Lib.hid hlt;have HK1:=Lib.hid hk1;clear NC hR5 hk1
     go_wp2_with fail
     obtain⟨w9,hw9,⟨b0,b1,b2,b3⟩,_,hsz9,_⟩:=qAj wr w0.heap.size _ _ _ _ (.int .i64 t.kind) (.string ⟨t.name.toArray⟩) (.int .i64 t.sort) (.slice pa kn kc) ⟨r0,r1,r2,r3⟩;have hS9:=HSr.out.put4 HRr.out.1.1 (wa _) (.int .i64 t.kind) (.string ⟨t.name.toArray⟩) (.int .i64 t.sort) (.slice pa kn kc);rw[hw9]at hS9 |-
     have hl9:w0.heap.size<w9.heap.size:=by rw[hsz9];exact hbl
     refine bodyPost_ret (v := .agg #[.int .i64 t.kind,.string ⟨t.name.toArray⟩,.int .i64 t.sort,.slice pa kn kc]) (by simp[results,Tryz.results35,go_sem,b0,b1,b2,b3,hl9]) rfl ?_;have hS10:=hS9.alloc (.cells #[.int .i64 t.kind,.string ⟨t.name.toArray⟩,.int .i64 t.sort,.slice pa kn kc] 25);obtain⟨Γ1,σ9,kx,y1,y2,y3,y4,y5,y6,y7⟩:=qDN hS10.i HNC.out;obtain⟨_,kx',_,_,_,_,_,_,_,_,_,y8,_⟩:=HNC.out;have hcs:cs[0*5+3]?=some (.slice pa kn kc):=a3;rw[hcs]at y5;cases y5;exact⟨[.int .i64 t.kind,.string ⟨t.name.toArray⟩,.int .i64 t.sort,.slice pa kn kc],Γ1,σ9,rfl,⟨hS10.x.trans y3,y4,y1.trans hS10.bx⟩,qhn y6,qoU rfl⟩
    ·rw[hlen];have HNC:=Lib.hid NC;have HK1:=Lib.hid hk1;have HIH:=Lib.hid hih;have HRM:=Lib.hid hroom;have HQ2:=Lib.hid hq;have HP:=Lib.hid hp;have hqm:q+1+1<=2 ^ 63-1:=hpm;have hz2:¬ ((q:Int)+1=0):=by omega
     clear NC hk1 hih hroom hq HQ
     go_upto_region 11 with(fail)
     obtain⟨w5,hw5,hb5,hs5,hbx5⟩:=qQS wr (.int .i64 top.kind) (.string ⟨top.name.toArray⟩) (.int .i64 top.sort) (.slice pa kn kc) 25;have hS5:=HSr.out.alloc (.cells #[.int .i64 top.kind,.string ⟨top.name.toArray⟩,.int .i64 top.sort,.slice pa kn kc] 25);have hK5:=HKr.out.grown (World.grownBy_alloc wr (.cells #[.int .i64 top.kind,.string ⟨top.name.toArray⟩,.int .i64 top.sort,.slice pa kn kc] 25) none) (λ e=>by cases e);have hR5:qcs Γ (wr.alloc (.cells #[.int .i64 top.kind,.string ⟨top.name.toArray⟩,.int .i64 top.sort,.slice pa kn kc] 25)) w0.heap.size 25:=HRr.out.1.same (by simp) (Below.heap_alloc _ _ _ hbl);rw[hw5]at hS5 hK5 hR5 |-
     have g5:=hbx5 _ (Below.refl _ _);have HS5:=Lib.hid hS5;have HK5:=Lib.hid hK5;have HR5:=Lib.hid hR5;have G5:=Lib.hid g5;have HNG:=Lib.hid HRr.out.2;have HA3:=Lib.hid a3;have HSZ5:=Lib.hid hs5;clear hbx5 hw5 hb5 hS5 hK5 hR5 g5 HSr HKr HRr c0 c1 c2 c3 c4 a4 a3 hw2 hgl hbl hs5 hlen hp hcap hwp hr
     have key:∀ bv:Value,RS Γ0 w0 rdx Γ σ (w5.alloc (.cells #[bv] 4)).drew/\Stk w0.heap.size 79 Γ σ (w5.alloc (.cells #[bv] 4)).drew st ids g cap cs/\qcs Γ (w5.alloc (.cells #[bv] 4)).drew w0.heap.size 25/\Box (w5.alloc (.cells #[bv] 4)).drew wr.heap.size (.int .i64 top.kind) (.string ⟨top.name.toArray⟩) (.int .i64 top.sort) (.slice pa kn kc) := λ bv =>
      ⟨(HS5.out.alloc _).drew',(HK5.out.grown (World.grownBy_alloc w5 (.cells #[bv] 4) none) (λ e=>by cases e)).drew,(HR5.out.same (by simp) (Below.heap_alloc _ _ _ HR5.out.2.1)).drew,G5.out.same (Below.heap_alloc _ _ _ (by have:=HSZ5.out;omega))⟩
     have KEY:=Lib.hid key;clear key
     go_region
     ·obtain⟨w6,hw6⟩:∃ w6,(w5.alloc (.cells #[.bool false] 4)).drew=w6:=⟨_,rfl⟩
      obtain⟨k1,k2,k3,k4⟩:=KEY.out (.bool false);rw[hw6]at k1 k2 k3 k4 |-
      have HS6:=Lib.hid k1;have HK6:=Lib.hid k2;have HR6:=Lib.hid k3;have G6:=Lib.hid k4;clear KEY hw6 k1 k2 k3 k4 HS5 HK5 HR5 G5 HSZ5
      go_upto_region 14 with(fail)
      obtain⟨Γ7,σ7,kx,b4,hS7,hK7,hx7,hx6⟩:=qGG HS6.out.drew' HK6.out.drew HP.out;rw[HA3.out]at b4;cases b4;have hql:q<st.length:=getElem?_lt HQ2.out;obtain⟨kq,rq,b0,_,_,v8,w8,hrun,⟨pa8,kc8,hv8⟩,Γ8,σ8,hx8,hS8,hK8⟩:=qGu qGo hS7 hK7 (wa _) (q:=q) (t:=par) (n:=n) (by rw[List.getElem?_take,if_pos (by omega)];exact HQ2.out) hx7 HRM.out 25 23;rw[xM,kw (by omega)]at hK8;subst hv8;obtain⟨c6,f6⟩:=hK7.cell b0;obtain⟨c0,c1,c2,c3⟩:=G6.out;have c7:∀ o:Obj,(w6.alloc o).cell? ⟨g,q*5+3,none⟩=some kq := λ o=>(World.cell?_alloc_lt _ _ _ (by show g<_;exact(qcB HK6.out.own).2)).trans c6;have hbk:=(hK7.priv.ext hx8 (by exact(qcB HK6.out.own).2)).2;have c8:w8.cell? ⟨g,q*5+3,none⟩=some kq:=(World.cell?_of_block (w:=w6) (a:=⟨g,q*5+3,none⟩) hbk).trans c6;have f8:w8.frozen? ⟨g,q*5+3,none⟩=false:=(World.frozen?_of_block (w:=w6) (a:=⟨g,q*5+3,none⟩) hbk).trans f6;have HR8:=Lib.hid ((HR6.out.drew.ext hx6).ext hx8);have HS8:=Lib.hid hS8;have HK8:=Lib.hid hK8;have hrun:(Builtin.append_ #[23,23] 23 #[kq,.slice (some ⟨w6.heap.size,0,none⟩) 1 1]).run Tryz.prog (w6.alloc (.cells #[.int .i64 top.kind,.string ⟨top.name.toArray⟩,.int .i64 top.sort,.slice pa kn kc] 25)).drew = .ok (.slice pa8 (par.kids.length+1) kc8) w8:=hrun;have HRUN:=Lib.hid hrun;have hl9:(st.take q++[(T.mk par.kind par.name par.sort (par.kids++[top]),n)]).length=q+1:=by rw[wd,wm];simp;omega
      have HL9:=Lib.hid hl9;clear hx8 hS8 hK8 hrun b0 hbk HS6 HK6 HR6 G6 hS7 hK7 hx7 hx6 hl9 hql;have hwq:IntKind.i64.wrap (q:Int)=(q:Int):=by rw[IntKind.wrap_i64];omega
      have hqz:(q:Int)<(q:Int)+1:=by omega
      go_region_law (first | (refine qn1 rfl _ _ _ rfl rfl rfl HRUN.out ?_))
      all_goals
       go_wp2_with fail
       go_roundg m
       case measure=>omega
       case rel=>exact⟨_,_,g,cap,_,Γ8,σ8,rdx,by rw[HL9.out],HS8.out,HK8.out,⟨HR8.out.same (by simp) (Below.heap_setCell _ _ _ _ HNG.out),HNG.out⟩,HIH.out⟩
     ·obtain⟨w6,hw6⟩:∃ w6,(w5.alloc (.cells #[.bool true] 4)).drew=w6:=⟨_,rfl⟩
      obtain⟨k1,k2,k3,k4⟩:=KEY.out (.bool true);rw[hw6]at k1 k2 k3 k4 |-
      have HS6:=Lib.hid k1;have HK6:=Lib.hid k2;have HR6:=Lib.hid k3;have G6:=Lib.hid k4;clear KEY hw6 k1 k2 k3 k4 HS5 HK5 HR5 G5 HSZ5
      go_upto_region 12 with(fail)
      obtain⟨Γ7,σ7,kx,b4,hS7,hK7,hx7,hx6⟩:=qGG HS6.out.drew' HK6.out.drew HP.out;rw[HA3.out]at b4;cases b4;have hql:q<st.length:=getElem?_lt HQ2.out;obtain⟨kq,rq,b0,_,⟨pa7,kc7,rfl⟩,v8,w8,hrun,⟨pa8,kc8,hv8⟩,Γ8,σ8,hx8,hS8,hK8⟩:=qGu qGo hS7 hK7 (wa _) (q:=q) (t:=par) (n:=n) (x := .mk 0 [] 0 []) (by rw[List.getElem?_take,if_pos (by omega)];exact HQ2.out) qCT HRM.out 25 23;rw[xM,kw (by omega)]at hK8;subst hv8;obtain⟨c6,f6⟩:=hK7.cell b0;obtain⟨c0,c1,c2,c3⟩:=G6.out;have c7:∀ o:Obj,(w6.alloc o).cell? ⟨g,q*5+3,none⟩=some (.slice pa7 par.kids.length kc7) := λ o=>(World.cell?_alloc_lt _ _ _ (by show g<_;exact(qcB HK6.out.own).2)).trans c6;have hwl:wr.heap.size<w6.heap.size:=qso c0;have hbk:=(hK7.priv.ext hx8 (by exact(qcB HK6.out.own).2)).2;have c8:w8.cell? ⟨g,q*5+3,none⟩=some (.slice pa7 par.kids.length kc7):=(World.cell?_of_block (w:=w6) (a:=⟨g,q*5+3,none⟩) hbk).trans c6;have f8:w8.frozen? ⟨g,q*5+3,none⟩=false:=(World.frozen?_of_block (w:=w6) (a:=⟨g,q*5+3,none⟩) hbk).trans f6;have hR8:qcs Γ8 (w8.setCell ⟨g,q*5+3,none⟩ (.slice pa8 (par.kids.length+1) kc8)) w0.heap.size 25:=((HR6.out.drew.ext hx6).ext hx8).same (by simp) (Below.heap_setCell _ _ _ _ HNG.out);have hl9:(st.take q).length=q:=by rw[wm];omega
      obtain⟨b,kc9,y1,y2,y3,y4,y5,Γ9,σ9,hx9,hS9,hK9⟩:=qOG hS8 hK8 (q:=q) (ks:=par.kids) (z := .mk 0 [] 0 []) (x:=top) (n:=n) (by rw[List.getElem?_append_right (by omega),hl9,kL];rfl) rfl (hx7.mono hx8.le)
      have y6:pa8=some ⟨b,0,none⟩/\kc8=kc9:=by
       rw[List.getElem?_take,if_pos (by omega),List.getElem?_set_self (by rw[hK7.own.1,wm];omega)]at y1;cases y1;exact⟨rfl,rfl⟩
      obtain⟨rfl,rfl⟩:=y6;obtain⟨u0,d0⟩:=y4 0 (by decide);obtain⟨u1,d1⟩:=y4 1 (by decide);obtain⟨u2,d2⟩:=y4 2 (by decide);obtain⟨u3,d3⟩:=y4 3 (by decide);have g0:=y5 (par.kids.length*4);have g1:=y5 (par.kids.length*4+1);have g2:=y5 (par.kids.length*4+2);have g3:=y5 (par.kids.length*4+3);have hres:b≠w0.heap.size := λ e=>hR8.1.own (e▸y3);have hR9:=(hR8.ext hx9)
      have hrun:(Builtin.append_ #[23,23] 23 #[.slice pa7 par.kids.length kc7,.slice (some ⟨w6.heap.size,0,none⟩) 1 1]).run Tryz.prog (w6.alloc (.cells #[.int .i64 0,.string ⟨#[]⟩,.int .i64 0,.slice none 0 0] 25)).drew = .ok (.slice (some ⟨b,0,none⟩) (par.kids.length+1) kc8) w8:=hrun;obtain⟨w9,hw9⟩:∃ w9,w8.setCell ⟨g,q*5+3,none⟩ (.slice (some ⟨b,0,none⟩) (par.kids.length+1) kc8)=w9:=⟨_,rfl⟩
      rw[hw9]at hS9 hK9 hR9 d0 d1 d2 d3 g0 g1 g2 g3;rw[wL]at d0
      have hl10:((st.take q++[(T.mk par.kind par.name par.sort (par.kids++[T.mk 0 [] 0 []]),n)]).set q (T.mk par.kind par.name par.sort (par.kids++[top]),n))=st.take q++[(T.mk par.kind par.name par.sort (par.kids++[top]),n)]:=by
       rw[vS _ _ (by omega),hl9,kL];rfl
      have hK9:Stk w0.heap.size 79 Γ9 σ9 _ ((st.take q++[(T.mk par.kind par.name par.sort (par.kids++[T.mk 0 [] 0 []]),n)]).set q (T.mk par.kind par.name par.sort (par.kids++[top]),n)) _ g cap _:=hK9;rw[hl10]at hK9;have hl11:(st.take q++[(T.mk par.kind par.name par.sort (par.kids++[top]),n)]).length=q+1:=by rw[wd,hl9];rfl
      have HL11:=Lib.hid hl11;have HS9:=Lib.hid hS9;have HK9:=Lib.hid hK9;have HR9:=Lib.hid hR9;have HRUN:=Lib.hid hrun;have HW9:=Lib.hid hw9;have hwq:IntKind.i64.wrap (q:Int)=(q:Int):=by rw[IntKind.wrap_i64];omega
      have hqz:(q:Int)<(q:Int)+1:=by omega
      have hnz:(par.kids.length:Int)<(par.kids.length:Int)+1:=by omega
      clear hx8 hS8 hK8 hrun b0 hbk HS6 HK6 HR6 G6 hS7 hK7 hx7 hx6 hl9 hql hR8 hx9 hS9 hK9 hR9 hw9 hl10 hl11 y1 y2 y3 y4 y5 hres
      go_region_law (first | (refine qn1 rfl _ _ _ rfl rfl rfl HRUN.out ?_))
      all_goals
       rw[HW9.out]
       go_wp2_with fail
       go_roundg m
       case measure=>omega
       case rel=>exact⟨_,_,g,cap,_,Γ9,σ9,rdx,by rw[HL11.out],HS9.out,HK9.out,⟨HR9.out,HNG.out⟩,HIH.out⟩
end Go.Proofs.YtinbdcelmgfniaaGreatDoor
namespace Go.AmZ
open Go Go.RowKit Go.GxZ
theorem qK6{ds:List AV}{e:Val RD}(h:qE RD (ds.take (Ty.size RD))=some e)(j:ds.drop (Ty.size RD)=[]):ds=qd RD e:=by
 have k:ds.take (Ty.size RD)=ds:=kI (List.drop_eq_nil_iff.1 j);rw[k]at h;have h:=qS.1 h;let⟨s,f,w⟩:=e;change qpF (yM .str) (qpF (yM (.int .i64)) (yM .bool)) ds=_ at h;unfold qpF at h;split at h<;>try cases h
 rename_i x r c;split at h<;>cases h;rename_i y d;split at d<;>try cases d
 rename_i l g a;split at d<;>cases d;rename_i b;have c:qdn ds=some (s,r):=c;have a:JA .i64 r=some (f,g):=a;have b:qc9 g=some (w,[]):=b;unfold qdn at c;split at c<;>cases c;unfold JA at a;split at a<;>try cases a
 rename_i i;split at a<;>cases a;have i:=of_decide_eq_true (by assumption);subst i;unfold qc9 at b;split at b<;>cases b;rfl
theorem qOk{σ:St}{ys:List AV}{a:QG [.box [.val RD]]}(h:dS σ [.box [.val RD]] 0 0 ys=some a):ys=[.ptr 0 0]/\σ.bx=[qd RD a.1]/\σ.rw=[]:=by
 cases ys with
 |nil=>simp[dS]at h
 |cons y ys=>
   simp only[dS]at h;cases c:qiV σ [.val RD] 0 0 y with
   |none=>rw[c]at h;cases h
   |some p=>
     let⟨v,n⟩:=p;rw[c]at h;simp only at h;unfold qiV at c;split at c<;>try cases c
     rename_i j f;have f:=qCM f;subst f;split at c<;>try cases c
     rename_i ds k g;have k:=wn k;subst k;simp only[qft]at c;split at c<;>try cases c
     rename_i x m;split at c<;>cases c;rename_i d
     have l:ds.drop (Ty.size RD)=[]/\n=0:=by
      cases i:ds.drop (Ty.size RD)with
      |nil=>rw[i]at d;simp[qft]at d;exact⟨rfl,d.symm⟩
      |cons z r=>rw[i]at d;simp[qft]at d
     obtain⟨l,rfl⟩:=l;split at h<;>cases h;rename_i hdS;obtain⟨rfl,q,o⟩:=qkR hdS;have e:=qK6 m l;let⟨b,c⟩:=xX.1 q.symm;refine⟨rfl,?_,wi o.symm⟩;rw[c]at g |-
     cases g;rw[e];rfl
end Go.AmZ
namespace Go.Proofs.YtinbdcelmgfniaaGreatDoor
open Go Go.RowKit Go.GxZ Go.AmZ Go.Lib
theorem hand_read{F:Val RD->Option qj4}(q:qU Tryz.prog 67 (sgP (qov F)))(k:Nat):qU Tryz.prog 35 (sgP ⟨[.box [.val RD]],[.one (.val .term)],λ x=>qou F k x.1⟩):=by
 refine⟨QP Tryz.func35 (by kernel_rfl),λ Γ σ w l h r i g a=>?_⟩;let⟨B,b,y,m⟩:= σ;unfold sgP at a;split at a<;>try cases a
 rename_i x p;let⟨z,_⟩:=x;obtain⟨rfl,j,c⟩:=qOk p;have c:b=[]:=c;subst c;split at a<;>cases a;rename_i n d;let⟨⟨o,_⟩,t,_⟩:=n;obtain⟨u0,A,rfl,f,g⟩:=g.uncons;have:=g.nil_inv;subst this;cases f;refine(qIw q i j rfl d).mono ?_;rintro e w' ⟨us,Γ',σ',rfl,v,u,s⟩;exact qJQ i (by rw[j];rfl) rfl v u s
end Go.Proofs.YtinbdcelmgfniaaGreatDoor
namespace Go.AmZ
open Go Go.GxZ
set_option linter.unusedVariables false
set_option maxRecDepth 100000
open Go.Proofs.Tryz (func4 func10 func11 func13 func14 func15 func16 func17 func18 func26 func31 func32 func33 func34 func36 func37 func39 func40 func41 func42 func43 func44 func45 func46 func47 func48 func50 func51 func52 func55 func56 func57 func58 func62 func64 func65 func66 func67 func68 func69 func70 func71 func72 func73 func75 func77 func78 func79 func80 func81 func82 func83 func84 func85 func86 func87 func88 func89 func90 func91 func92 func93 func95 func96 func99 func100 func101 func102 func103 func105 func106 func107 func108 func109 func110 func111 func112 func113 func114 func115 func117 func118 func119 func120 func121 func122 func123 func126 func127 func128 func129 func130 func131 func133 func134 func135 func136 func137 func138 func141 func142 func143 func144 func149 func150 func151 func153 func154 func155 func156 func157 func158 func159 func160 func161 func162 func163 func164 func165 func166 func167 func168 func169 func170 func171 func172 func173 func174 func177 func184 func185 func186 func187 func190 func191 func192 func194 func195 func196 func197 func198 func199 func200 func201 func202 func214 func223 func224 func227 func228 func229 func230 func241)
theorem qj5(m:Nat)(h:yq Go.Proofs.Tryz.prog (tb.at m).pc.cfg):qU Go.Proofs.Tryz.prog 35 (sgP ⟨[.box [.val RD]],[.one (.val .term)],λ x=>jC (m+1) x.1⟩):=Go.Proofs.YtinbdcelmgfniaaGreatDoor.hand_read (F:=qw m) (h.prim 67 _ (by kernel_rfl)) m
theorem qb7(m:Nat)(h:yq Go.Proofs.Tryz.prog (tb.at m).pc.cfg):qU Go.Proofs.Tryz.prog 139 (mgP ⟨.term,[.clo 89 0],λ x=>zd (m+1) x.1⟩):=qzf (τ:=.term) Go.Proofs.Tryz.sortTrm (λ _=>rfl) Go.Proofs.Tryz.isAgg25 Go.Proofs.Tryz.sizeOf25 (qDk (τ:=.term) (ρ:=y2) (qyR h (by kernel_rfl)) (F:=λ x y=>qy m x y) (by kernel_rfl) (λ _=>rfl)) (QP Go.Proofs.Tryz.func139 (by kernel_rfl)) (λ _ _ h=>h)
theorem qaR(m:Nat)(h:yq Go.Proofs.Tryz.prog (tb.at m).pc.cfg):qU Go.Proofs.Tryz.prog 140 (sgP ⟨[.row .term,.clo 141 0],[.one (.row .term)],λ x=>qK (m+1) x.1⟩):=qCg (qDk (τ:=.term) (ρ:=.bool) (qyR h (by kernel_rfl)) (F:=λ x y=>jl m x y) (by kernel_rfl) (λ _=>rfl)) (λ _ _ h=>qH5 h)
theorem qai(m:Nat)(h:yq Go.Proofs.Tryz.prog (tb.at m).pc.cfg):qU Go.Proofs.Tryz.prog 152 (mgP ⟨y3,[.clo 153 0],λ x=>yx (m+1) x.1⟩):=qzf (τ:=y3) Go.Proofs.Tryz.sortBnd (λ _=>rfl) Go.Proofs.Tryz.isAgg76 Go.Proofs.Tryz.sizeOf76 (qDk (τ:=y3) (ρ:=y2) (qyR h (by kernel_rfl)) (F:=λ x y=>qfx m x y) (by kernel_rfl) (λ _=>rfl)) (QP Go.Proofs.Tryz.func152 (by kernel_rfl)) (λ _ _ h=>h)
theorem tb_ok:∀ m,yq Go.Proofs.Tryz.prog (tb.at m).pc.cfg:=Tb.all_ok (by kernel_rfl) qJf (by kernel_rfl) (nP func115 qDr (nP func69 quu (nP func41 qxC (nP func26 qpJ (nP func15 qB7 (nP func11 qq8 (nP func10 qyy (nP func4 qlV trivial trivial) trivial) (nP func14 qsd (nP func13 qAN trivial trivial) trivial)) (nP func18 qx7 (nP func17 qwR (nP func16 qrE trivial trivial) trivial) ⟨qff (m:=0),trivial,trivial⟩)) ⟨⟨qo0 (QP Go.Proofs.Tryz.func35 (by kernel_rfl)) λ _=>rfl,λ m h=>qj5 m h⟩,(nP func33 qAJ (nP func32 qDP (nP func31 qyD trivial trivial) trivial) (nP func34 qBD trivial trivial)),(nP func39 qAq (nP func37 qw6 (nP func36 qAB trivial trivial) trivial) (nP func40 qxO trivial trivial))⟩) (nP func55 qxJ (nP func47 qDy (nP func44 qvB (nP func43 qum (nP func42 qyp trivial trivial) trivial) (nS func46 qs0 (nP func45 qDo trivial trivial) trivial)) (nP func51 qxk (nP func50 qpU (nP func48 qwH trivial trivial) trivial) (nP func52 qxp trivial trivial))) (nP func64 qAV (nP func58 qqr (nP func57 qxS (nS func56 qs4 trivial trivial) trivial) (nP func62 qDQ trivial trivial)) (nS func67 qlS (nP func66 quE (nP func65 qyM trivial trivial) trivial) (nS func68 qAH trivial trivial))))) (nP func92 qxY (nS func82 Jq (nP func77 qx6 (nP func72 qtj ⟨⟨⟨func71,λ _=>rfl,qol,⟨func71,λ _=>rfl,qni,trivial⟩⟩,vp _ _⟩,(nP func70 qyF trivial trivial),trivial⟩ (nP func75 qyt (nP func73 qu5 trivial trivial) trivial)) (nP func80 qwM (nP func79 qwl (nP func78 qwu trivial trivial) trivial) (nP func81 qyx trivial trivial))) (nP func87 qAZ (nP func85 qjl (nS func84 qll (nP func83 qqu trivial trivial) trivial) (nP func86 qwK trivial trivial)) (nP func90 qy6 (nP func89 qvP (nP func88 qlc trivial trivial) trivial) (nP func91 qyE trivial trivial)))) (nP func105 qvx (nS func100 qlT (nP func96 qBc (nP func95 qBR (nP func93 qyB trivial trivial) trivial) (nP func99 qt9 trivial trivial)) (nP func103 quD (nP func102 qxW (nS func101 qlP trivial trivial) trivial) ⟨λ c hc=>qqn (m:=0) hc,trivial,trivial⟩)) (nS func110 qlQ (nP func108 qwq (nP func107 qvW (nP func106 qAt trivial trivial) trivial) (nS func109 qpr trivial trivial)) (nP func113 qhY (nP func112 qA6 (nS func111 qwb trivial trivial) trivial) (nP func114 qCL trivial trivial)))))) (nP func163 qfy ⟨⟨qzS (QP Go.Proofs.Tryz.func139 (by kernel_rfl)) λ _=>rfl,λ m h=>qb7 m h⟩,(nP func128 qHE (nP func121 qxL (nS func118 qqj (nP func117 qA4 ⟨λ c hc=>qpB (m:=0) hc,trivial,trivial⟩ trivial) (nP func120 qtT (nS func119 qrR trivial trivial) trivial)) (nP func126 qEp (nP func123 qyX (nP func122 qBe trivial trivial) trivial) (nP func127 qsZ trivial trivial))) (nP func134 qyv (nP func131 qwG (nP func130 qub (nP func129 qyK trivial trivial) trivial) (nP func133 qvO trivial trivial)) (nP func137 quV (nP func136 qEm (nP func135 qus trivial trivial) trivial) (nP func138 qyY trivial trivial)))),(nP func153 qoF (nP func144 qkn (nP func142 qA5 (nP func141 qti ⟨⟨qo0 (QP Go.Proofs.Tryz.func140 (by kernel_rfl)) λ _=>rfl,λ m h=>qaR m h⟩,trivial,trivial⟩ trivial) (nP func143 qEc trivial trivial)) (nS func151 qqk (nP func150 qv9 (nS func149 qrZ trivial trivial) trivial) ⟨⟨qzS (QP Go.Proofs.Tryz.func152 (by kernel_rfl)) λ _=>rfl,λ m h=>qai m h⟩,trivial,trivial⟩)) (nP func158 qHg (nP func156 qFb (nP func155 qEs (nP func154 qEb trivial trivial) trivial) (nP func157 qxm trivial trivial)) (nP func161 qta (nP func160 qth (nS func159 qqv trivial trivial) trivial) (nP func162 qwP trivial trivial))))⟩ ⟨qfC (m:=0),(nP func174 qD4 (nP func169 qAw (nP func166 qE8 (nP func165 qAG (nP func164 qvI trivial trivial) trivial) (nP func168 qA2 (nP func167 qyA trivial trivial) trivial)) (nP func172 qE3 (nP func171 qAP (nP func170 qs5 trivial trivial) trivial) (nP func173 qAD trivial trivial))) (nS func187 qCy (nS func185 qna (nS func184 qa7 (nP func177 qCw trivial trivial) trivial) ⟨func186,trivial,trivial⟩) (nP func191 qrp (nP func190 qxq ⟨qdu (m:=0),trivial,trivial⟩ trivial) (nS func192 qqQ trivial trivial)))),(nS func214 qbL (nS func198 quk (nP func196 qvn (nP func195 qrX (nS func194 qqT trivial trivial) trivial) (nP func197 qyz trivial trivial)) (nS func201 qBx (nP func200 qs1 (nP func199 qyh trivial trivial) trivial) (nP func202 quc trivial trivial))) (nP func227 qaJ ⟨qdK (m:=0),(nP func224 qpa (nP func223 QZ trivial trivial) trivial),⟨qdJ (m:=0),trivial,trivial⟩⟩ (nP func230 qtL (nP func229 qCO (nP func228 qpu trivial trivial) trivial) (nP func241 qbr trivial trivial))))⟩))
end Go.AmZ
namespace Go.GxZ
open Go.RowKit Go.ChangeShapes Go.WideShapes Go.ChangeAt
open Go.WideMaps Go.WideElems
section
variable {H:Type}{enc:TypeId×Value->H}{P:Program}
theorem qp9(f:laidOutB P=true){W i:World}(g:Below W.heap.size W i):∀{ts:List TypeId}{vs:List Value}{ds:List (DataW H)}{ps:List MemPlace},
  (∀t∈ts,P.readableRec t=true/\t<P.types.size)->DataW.TrodAll enc P W 0 (λ _=>true) true ts vs ds ps->(∀x∈ps,x.block<W.heap.size)->
  DataW.TrodAll enc P i 0 (λ b=>decide (b<W.heap.size)) true ts vs ds ps
 |[],[],[],_,_,h,_=>h
 |t::ts,v::vs,d::ds,_,e,⟨p,q,m,l,k⟩,a=>by
   subst k;refine⟨p,q,?_,?_,rfl⟩
   .exact Below.trod f (e t (wh ..)).1 (e t (wh ..)).2 m g λ x c=>a x (vl _ c)
   .exact qp9 f g (λ t j=>e t (wg _ j)) l λ x c=>a x (vc _ c)
 |[],[],_::_,_,_,h,_|[],_::_,_,_,_,h,_|_::_,[],_,_,_,h,_|_::_,_::_,[],_,_,h,_=>h.elim
theorem qLo{f:Func}{s:ChangeSpec}{b g a:Bool}{W A:World}{d:Array Value}{ds k:List (DataW H)}{c:List MemPlace}{ts:List TypeId}{T:TypeId}
  (E:laidOutB P=true) (m:f.params.toList=ts) (C:ts.all (λ t=>P.readableRec t&&decide (t<P.types.size))=true) (u:s.vars=[])
  (n:f.resultTypes = #[T]) (G:P.underlying T=some .bool)
  (y:DataW.Whole enc P f.params.toList s.vars b W d.toList ds k c)
  (i:(s.fn H (ds++k)).results=[.lit (.bool true)]) (e:(s.fn H (ds++k)).args=ds) (l:(s.fn H (ds++k)).vars=[])
  (w:Below W.heap.size W A):s.post enc P f b g a false W d (.bool true) A:=by
 have j:=y;have o:=λ x B=>j.lt x B;obtain⟨p,q,I,z,rfl,F,D⟩:=y;rw[u]at z;have r:k=[]/\q=[]:=trodVars_none z;obtain⟨rfl,rfl⟩:=r;rw[ww]at *;refine⟨ds,[],p,[],p,[],?_,?_,?_,?_,?_,λ h=>by cases h⟩
 .exact j
 .rw[n,ww,i];exact trodAll_mk1 (shut_bool G _)
 .rw[ww,e];refine qp9 E w (ts:=f.params.toList) ?_ I o;intro t v;rw[m]at v;have:=wv.1 C t v;simpa using this
 .rw[ww,l,u];rfl
 .exact w.frame _
end
end Go.GxZ
namespace Go.Proofs.YtinbdcelmgfniaaGreatDoor
theorem Tryz.own:ownKnob Tryz.prog.godebug=none:=by kernel_rfl
theorem Tryz.laidOut:laidOutB Tryz.prog=true:=by kernel_rfl
end Go.Proofs.YtinbdcelmgfniaaGreatDoor
namespace Go.AmZ
open Go Go.GxZ Go.RowKit
theorem qzs:∀(τ:Ty) (v:Val τ),Qm τ (yQ τ v)=some v:=by
 intro τ v;have h:=jY τ v;cases τ<;>exact h
def qCx:List ATy->Bool
 |[]=>true
 |.val _::r=>qCx r
 |.fn::_=>false
theorem qrA:∀(ts:List ATy) (a:qbC ts),qCx ts=true->qdD ts (Qu ts a [])=some a/\qfu (Qu ts a [])=[]
 |[],_,_=>⟨rfl,rfl⟩
 |.val τ::r,a,h=>by
   let⟨d,c⟩:=qrA r a.2 h;constructor
   .show qnv (Qm τ) (qdD r) (yQ τ a.1::Qu r a.2 [])=_;simp only[qnv,qzs,d]
   .show qfu (yQ τ a.1::Qu r a.2 [])=[];have:=(qcC (qzs τ a.1)).2;cases b:yQ τ a.1<;>first|exact c|exact absurd b (this _ _)
 |.fn::_,_,h=>by cases h
theorem law_calls{P:Program}{f:FuncId}{c:TC}(o:qU P f (Jw (jE c f))){ts:List ATy}{fn:qbC ts->Option (qeu [.bool])}(q:c.pf f []=some ⟨ts,[.bool],fn⟩)(m:qCx ts=true){a:qbC ts}(h:fn a=some true)
  {W:World}{d:List Value} (k:RepL (ghW W) (Qu ts a []) d):Calls P f d.toArray W λ e w'=>e=.returned (.bool true)/\Below W.heap.size W w':=by
 let⟨u,t⟩:=qrA ts a m
 have n:jE c f (Qu ts a [])=some (.v (.bool true)):=by
  unfold jE;rw[t,q];simp only;rw[u];simp only;rw[h];rfl
 have l:Jw (jE c f) emp (Qu ts a [])=some (.v (.bool true),none):=by
  show(match jE c f (Qu ts a [])with|some v=>some (v,none)|none=>none)=_;rw[n]
 have:=o.2 (ghW W) emp W (Qu ts a []) d _ (qN0 W) k l;refine Calls.mono this ?_;rintro e w' ⟨v,Γ',rfl,g,_,j,_⟩;have h:=zq j;subst h;refine⟨rfl,g.os,g.tape,g.output,g.size,λ b s=>g.block b s ?_⟩;rintro(⟨i,p,_⟩|⟨r,k,_⟩)
 .exact absurd p (wK _)
 .exact absurd k (wK _)
theorem qDn{Γ:Gh}{τ:Ty}{x:Val τ}{v:Value}(h:RepL Γ (qd τ x) v.cells.toList)(l:∀u∈v.cells.toList,u.oneCell'=true)(j:τ.agg=true->τ.size≠1)(e:τ.agg=false->∀cs,v≠.agg cs):Rep Γ (yQ τ x) v:=by
 have c:=h.len;rw[yi]at c
 have agg:yQ τ x=.agg (qd τ x)->τ.agg=true->Rep Γ (yQ τ x) v:=by
  intro f g;rw[f];have d:=j g;cases v with
  |agg cs=>exact .agg _ _ h.len l h.rep
  |_=>exact absurd (show τ.size=1 by rw[<-c];rfl) d
 have one:∀{y:AV},qd τ x=[y]->yQ τ x=y->τ.agg=false->Rep Γ (yQ τ x) v:=by
  intro y f i g
  have k:v.cells = #[v]:=by
   cases v with
   |agg cs=>exact absurd rfl (e g cs)
   |_=>rfl
  rw[f,k]at h;rw[i];exact h.rep 0 y v rfl rfl
 cases τ with
 |term|pair a b|one a=>exact agg rfl rfl
 |_=>exact one rfl rfl rfl
open Go.ChangeShapes Go.WideShapes Go.ChangeAt Go.WideMaps Go.WideElems
theorem qN1{P:Program}{n:Nat}{τ:Ty}{t:TypeId}{W:World}{zF:Nat}{v:Value}(c:tyM P n τ t=true)(f:Value.okWide P W .any zF t v):τ.agg=false->∀cs,v≠.agg cs:=by
 intro g cs;cases n with
 |zero=>cases τ<;>simp[tyM]at c
 |succ n=>
 cases τ with
 |map a b=>simp[tyM]at c
 |int k=>
   simp only[tyM]at c;split at c
   .rename_i d;obtain⟨_,rfl⟩:=okWide_int d f;intro h;cases h
   .cases c
 |bool=>
   simp only[tyM]at c;split at c
   .rename_i d;obtain⟨_,rfl⟩:=okWide_bool d f;intro h;cases h
   .cases c
 |str=>
   simp only[tyM]at c;split at c
   .rename_i d;obtain⟨_,rfl⟩:=okWide_string d f;intro h;cases h
   .cases c
 |list a=>
   simp only[tyM]at c;split at c
   .rename_i e d;obtain⟨_,_,_,rfl⟩:=okWide_slice d f;intro h;cases h
   .cases c
 |_=>cases g
theorem arg_val{H:Type}{enc:TypeId×Value->H}{P:Program}{W:World}{n:Nat}{τ:Ty}{t:TypeId}{v:Value}{d:DataW H}{ps:List MemPlace}{zF:Nat}(b:tyM P n τ t=true)(f:τ.agg=true->τ.size≠1)(e:Value.okWide P W .any zF t v)
  (h:DataW.Trod enc P W 0 (λ _=>true) true t v d ps) (c:∀k∈d.weights P t,k<=reachBytes):∃x:Val τ,Rep (ghW W) (yQ τ x) v/\qlm τ x:=by
 let⟨a,g⟩:=h;let⟨x,l,j,i⟩:=qKW a n τ t v.cells.toList (d,ps) b g c;exact⟨x,qDn l j f (qN1 b e),i⟩
end Go.AmZ
