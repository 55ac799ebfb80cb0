/- Part 6 of what the proofs stand on: plain functions of the program, and that they are its functions. -/
import Derived.Test.YtckmkimhkhilgaaGreatM5
import Derived.KernelRfl
import Derived.Shelf.SlSortCmp.NoneTotal
import Derived.Test.YtckmkimhkhilgaaGreatProg
import Derived.Test.YtckmkimhkhilgaaGreatM2
import Derived.Test.YtckmkimhkhilgaaGreatM4
import Derived.Test.YtckmkimhkhilgaaGreatM3
import Derived.Deep.RegionLaw
import Derived.Handy
import Derived.Test.YtckmkimhkhilgaaGreatM1
import Derived.ProofKit
import Derived.Test.YtckmkimhkhilgaaGreatRows
set_option linter.unusedVariables false
set_option linter.unusedSimpArgs false
noncomputable section
namespace Go.AmZ
open Go Go.GxZ
set_option linter.unusedVariables false
set_option maxRecDepth 100000
theorem qxZ:okS tb i12 := λ m a=>by kernel_rfl
theorem qls:okS tb i32 := λ m a=>by kernel_rfl
theorem qCA:okP tb [] qOC := λ m a=>by kernel_rfl
def qom(m k x0 x1 x2):=tb.PL qKE 4 m k [(0,.s x0),(38,vI x1),(39,vI x2)] ⟨[],[]⟩
theorem qvN(m k):QB m k=qom m k:=qR (M:=qom m) rfl (λ _=>by kernel_rfl) k
theorem qx7:okP tb [] qKE := λ m a=>(congrArg (λ L=>qfh m L a.1) (qvN m m)).trans (by kernel_rfl)
def qqe(m k x0 x1 x2 x3 x4 x5):=tb.QL i88 17 m k [(1,vI x0),(2,.ptr 0 0),(3,.ptr 1 0),(57,vT x1),(58,vI x2),(59,vI x3)] ⟨[[vI x4],[vI x5]],[]⟩
theorem qw3(m k):jK m (yc m) k=qqe m k:=qR (M:=qqe m) rfl (λ _=>by kernel_rfl) k
theorem qAd:okS tb i88 := λ m a=>(congrArg (λ L=>qgm m (yc m) L a.1 a.2.1 a.2.2.1 a.2.2.2.1) (qw3 m m)).trans (by kernel_rfl)
theorem qzF:okP tb [] i64 := λ m a=>by kernel_rfl
def qlH(m k x0 x1 x2 x3 x4 x5 x6 x7):=tb.PL i75 2 m k [(0,.s x0),(2,.ptr 0 0),(5,.sl y5 x1 1),(6,vI x2),(7,vI x3)] ⟨[[.s x4,vI x5,vI x6,vI x7]],[]⟩
theorem qs0(m k):Jn m k=qlH m k:=qR (M:=qlH m) rfl (λ _=>by kernel_rfl) k
theorem qtC:okP tb [] i75 := λ m a=>(congrArg (λ L=>qdB m L a.1) (qs0 m m)).trans (by kernel_rfl)
def qm5(m k x0 x1 x2 x3 x4 x5 x6):=tb.PL i69 13 m k [(1,.ptr 0 0),(38,vT x0),(39,vI x1),(40,vI x2)] ⟨[[vI x3,.s x4,vI x5,vT x6]],[]⟩
def qmG(m k x0 x1 x2):=tb.PL i69 22 m k [(62,vT x0),(63,vI x1),(64,vI x2)] ⟨[],[]⟩
theorem qub(m k):qV m (qD m) k=(qm5 m k,qmG m k):=qR (M := λ k=>(qm5 m k,qmG m k)) rfl (λ _=>by kernel_rfl) k
theorem qva:okP tb [] i69 := λ m a=>(congrArg (a₁ := qV m (qD m) m) (λ L=>qet m (qD m) L.1 L.2 a.1) (qub m m)).trans (by kernel_rfl)
theorem qvM:okP tb [] i53 := λ m a=>by kernel_rfl
theorem qmw:okS tb i92 := λ m a=>by kernel_rfl
def qij(m k x0 x1 x2 x3 x4):=tb.QL i91 3 m k [(1,.fn 92 [.ptr 0 0,.ptr 1 0]),(10,vT x0),(11,vI x1),(12,vI x2)] ⟨[[vI x3],[.row 0 0]],[⟨.term,x4,0,0,false⟩]⟩
theorem qoV(m k):jV m (zH m) k=qij m k:=qR (M:=qij m) rfl (λ _=>by kernel_rfl) k
theorem qqC:okS tb i91 := λ m a=>(congrArg (λ L=>qbs m (zH m) L a.1 a.2.1 a.2.2.1) (qoV m m)).trans (by kernel_rfl)
theorem qC6:okP tb [] qNG := λ m a=>by kernel_rfl
def qsb(m k x0 x1 x2 x3):=tb.PL qLA 3 m k [(3,vI x0),(7,vT x1),(8,vI x2),(9,vI x3)] ⟨[],[]⟩
theorem qAo(m k):qcd m (Qp m) k=qsb m k:=qR (M:=qsb m) rfl (λ _=>by kernel_rfl) k
theorem qCy:okP tb [] qLA := λ m a=>(congrArg (λ L=>qhp m (Qp m) L a.1) (qAo m m)).trans (by kernel_rfl)
def qnr(m k x0 x1 x2 x3 x4 x5 x6 x7 x8 x9):=tb.PL i95 11 m k [(2,.ptr 0 0),(3,.ptr 1 0),(5,vI x0),(6,vI x1)] ⟨[[vI x2,.s x3,vI x4,vT x5],[vI x6,.s x7,vI x8,vT x9]],[]⟩
theorem qua(m k):Qd m (qA m) k=qnr m k:=qR (M:=qnr m) rfl (λ _=>by kernel_rfl) k
theorem qvD:okP tb [] i95 := λ m a=>(congrArg (λ L=>qeq m (qA m) L a.1 a.2.1) (qua m m)).trans (by kernel_rfl)
theorem qs7:okP tb [] qNy := λ m a=>by kernel_rfl
def qqo(m k x0 x1 x2 x3 x4 x5 x6 x7 x8 x9 x10):=tb.PL qLN 4 m k [(1,.ptr 0 0),(2,.ptr 1 0),(9,vT x0),(10,vI x1),(11,vI x2)] ⟨[[vI x3,.s x4,vI x5,.row 0 0],[vI x6,.s x7,vI x8,.row 1 0]],[⟨.term,x9,0,0,false⟩,⟨.term,x10,0,0,false⟩]⟩
theorem qx0(m k):qa3 m (jA m) k=qqo m k:=qR (M:=qqo m) rfl (λ _=>by kernel_rfl) k
theorem qz2:okP tb [] qLN := λ m a=>(congrArg (λ L=>qgj m (jA m) L a.1) (qx0 m m)).trans (by kernel_rfl)
def qm7(m k x0 x1 x2):=tb.QL i93 4 m k [(0,.row 0 0),(9,vI x0),(10,vI x1)] ⟨[],[⟨.term,x2,0,0,false⟩]⟩
theorem quc(m k):JX m k=qm7 m k:=qR (M:=qm7 m) rfl (λ _=>by kernel_rfl) k
theorem qvx:okS tb i93 := λ m a=>(congrArg (λ L=>qep m L a.1) (quc m m)).trans (by kernel_rfl)
theorem qyk:okP tb [] i70 := λ m a=>by kernel_rfl
theorem qC8:okP tb [] i54 := λ m a=>by kernel_rfl
theorem qxk:okP tb [] i72 := λ m a=>by kernel_rfl
theorem qAN:okP tb [] qNB := λ m a=>by kernel_rfl
theorem qs3:okP tb [] qNF := λ m a=>by kernel_rfl
def qaD(m k x0 x1 x2 x3 x4):=tb.PL qGC 3 m k [(0,.sl y7 x0 1),(3,vI x1),(9,.sl y7 x2 1),(10,vI x3),(11,vI x4)] ⟨[],[]⟩
def qaE(m k x0 x1 x2 x3):=tb.PL qGC 11 m k [(6,.row 0 0),(25,.sl y7 x0 1),(26,vI x1),(27,vI x2)] ⟨[],[⟨.term,x3,0,0,false⟩]⟩
theorem qfG(m k):qn m k=(qaD m k,qaE m k):=qR (M := λ k=>(qaD m k,qaE m k)) rfl (λ _=>by kernel_rfl) k
theorem qf0:okP tb [] qGC := λ m a=>(congrArg (a₁ := qn m m) (λ L=>yY m L.1 L.2 a.1) (qfG m m)).trans (by kernel_rfl)
def qrj(m k x0 x1 x2):=tb.PL qJ6 4 m k [(14,vT x0),(15,vI x1),(16,vI x2)] ⟨[],[]⟩
theorem qzQ(m k):qcp m k=qrj m k:=qR (M:=qrj m) rfl (λ _=>by kernel_rfl) k
theorem qDn:okP tb [] qJ6 := λ m a=>(congrArg (λ L=>qht m L a.1 a.2.1) (qzQ m m)).trans (by kernel_rfl)
def qtg(m k x0 x1 x2):=tb.PL qKJ 2 m k [(0,vT x0),(1,vT x1),(5,.row 0 0)] ⟨[],[⟨.term,x2,0,0,false⟩]⟩
theorem qDp(m k):qdG m k=qtg m k:=qR (M:=qtg m) rfl (λ _=>by kernel_rfl) k
theorem qDW:okP tb [] qKJ := λ m a=>(congrArg (λ L=>qi5 m L a.1 a.2.1) (qDp m m)).trans (by kernel_rfl)
def qnb(m k x0 x1 x2 x3):=tb.PL qJF 6 m k [(3,vT x0),(31,vT x1),(32,vI x2),(33,vI x3)] ⟨[],[]⟩
theorem qtt(m k):QX m (yD m) k=qnb m k:=qR (M:=qnb m) rfl (λ _=>by kernel_rfl) k
theorem qv5:okP tb [] qJF := λ m a=>(congrArg (λ L=>qea m (yD m) L a.1) (qtt m m)).trans (by kernel_rfl)
def qmF(m k x0 x1 x2 x3 x4 x5 x6 x7 x8 x9 x10 x11 x12 x13 x14):=tb.PL qJ4 4 m k [(5,.ptr 0 0),(6,.ptr 1 0),(8,.ptr 2 0),(9,.ptr 2 0),(14,.sl y2 x0 1),(15,vI x1),(16,vI x2)] ⟨[[vI x3,.s x4,vI x5,vT x6],[vI x7,.s x8,vI x9,.row 0 0],[vI x10,.s x11,vI x12,vT x13]],[⟨.term,x14,0,0,false⟩]⟩
theorem qt6(m k):qaX m k=qmF m k:=qR (M:=qmF m) rfl (λ _=>by kernel_rfl) k
theorem qwo:okP tb [] qJ4 := λ m a=>(congrArg (λ L=>qec m L a.1 a.2.1 a.2.2.1) (qt6 m m)).trans (by kernel_rfl)
def quR(m k x0 x1 x2 x3):=tb.PL qKi 3 m k [(3,.row 0 0),(9,vT x0),(10,vI x1),(11,vI x2)] ⟨[],[⟨.term,x3,0,0,false⟩]⟩
theorem qD4(m k):qeA m (qan m) k=quR m k:=qR (M:=quR m) rfl (λ _=>by kernel_rfl) k
theorem qGK:okP tb [] qKi := λ m a=>(congrArg (λ L=>qkA m (qan m) L a.1) (qD4 m m)).trans (by kernel_rfl)
def qwP(m k x0 x1 x2 x3 x4 x5 x6 x7):=tb.PL qLs 6 m k [(2,.ptr 0 0),(5,vT x0),(15,vT x1),(16,vI x2),(17,vI x3)] ⟨[[vI x4,.s x5,vI x6,.row 0 0]],[⟨.term,x7,0,0,true⟩]⟩
theorem qD6(m k):qeQ m k=qwP m k:=qR (M:=qwP m) rfl (λ _=>by kernel_rfl) k
theorem qF0:okP tb [] qLs := λ m a=>(congrArg (λ L=>qkm m L a.1) (qD6 m m)).trans (by kernel_rfl)
theorem qrJ:okP tb [] qOV := λ m a=>by kernel_rfl
def qkf(m k x0 x1 x2 x3 x4 x5 x6 x7 x8 x9):=tb.PL qJS 3 m k [(1,.ptr 0 0),(2,.ptr 1 0),(10,.row 0 0),(11,vI x0),(12,vI x1)] ⟨[[vI x2,.s x3,vI x4,.row 0 0],[vI x5,.s x6,vI x7,.row 1 0]],[⟨.term,x8,0,0,false⟩,⟨.term,x9,0,0,false⟩]⟩
theorem qrW(m k):QJ m (zt m) k=qkf m k:=qR (M:=qkf m) rfl (λ _=>by kernel_rfl) k
theorem qs2:okP tb [] qJS := λ m a=>(congrArg (λ L=>qcz m (zt m) L a.1) (qrW m m)).trans (by kernel_rfl)
theorem qoY:okP tb [] qNO := λ m a=>by kernel_rfl
def yp(m k x0 x1 x2 x3 x4 x5 x6 x7):=tb.PL qKZ 3 m k [(0,.sl y3 x0 1),(2,.fn 186 []),(4,.ptr 0 0),(8,vI x1),(9,vI x2),(10,vI x3)] ⟨[[vI x4,.s x5,vI x6,vT x7]],[]⟩
theorem QO(m k):qr m k=yp m k:=qR (M:=yp m) rfl (λ _=>by kernel_rfl) k
theorem Q6:okP tb [186] qKZ := λ m a=>(congrArg (λ L=>qE m L a.1 a.2.1) (QO m m)).trans (by kernel_rfl)
theorem qrU:okS tb qNu := λ m a=>by kernel_rfl
def qik(m k x0 x1 x2 x3 x4):=tb.QL qJt 12 m k [(0,.row 0 0),(2,vI x0),(52,vT x1),(53,vI x2),(54,vI x3)] ⟨[],[⟨y3,x4,0,0,false⟩]⟩
theorem qpZ(m k):js m (zr m) k=qik m k:=qR (M:=qik m) rfl (λ _=>by kernel_rfl) k
theorem qqD:okS tb qJt := λ m a=>(congrArg (λ L=>qbt m (zr m) L a.1 a.2.1 a.2.2.1) (qpZ m m)).trans (by kernel_rfl)
theorem qyb:okP tb [] qNX := λ m a=>by kernel_rfl
def qj7(m k x0 x1 x2 x3):=tb.PL qJJ 4 m k [(0,.sl y3 x0 1),(9,.sl y3 x1 1),(10,vI x2),(11,vI x3)] ⟨[],[]⟩
theorem qry(m k):jW m k=qj7 m k:=qR (M:=qj7 m) rfl (λ _=>by kernel_rfl) k
theorem qsS:okP tb [] qJJ := λ m a=>(congrArg (λ L=>qcA m L a.1) (qry m m)).trans (by kernel_rfl)
theorem qvU:okP tb [] qOq := λ m a=>by kernel_rfl
def qmh(m k x0 x1 x2 x3 x4 x5 x6 x7 x8):=tb.PL qAO 6 m k [(2,.ptr 0 0),(5,.row 1 0),(6,.row 2 0),(18,.sl y3 x0 1),(19,vI x1),(20,vI x2)] ⟨[[vI x3,.s x4,vI x5,.row 0 0]],[⟨.term,x6,0,0,false⟩,⟨.term,x7,0,0,false⟩,⟨.term,x8,0,0,false⟩]⟩
def qlD(m k x0 x1 x2 x3 x4 x5 x6 x7 x8 x9 x10 x11 x12 x13 x14 x15):=tb.PL qAO 11 m k [(2,.ptr 0 0),(5,.row 1 0),(6,.row 2 0),(8,.ptr 1 0),(18,.sl y3 x0 1),(19,vI x1),(20,vI x2),(34,vI x3),(35,vI x4)] ⟨[[vI x5,.s x6,vI x7,.row 0 0],[vI x8,.s x9,vI x10,vT x11,vI x12]],[⟨.term,x13,0,0,false⟩,⟨.term,x14,0,0,false⟩,⟨.term,x15,0,0,false⟩]⟩
def qlf(m k x0 x1 x2 x3 x4 x5 x6 x7 x8 x9 x10 x11 x12 x13 x14 x15):=tb.PL qAO 15 m k [(2,.ptr 0 0),(5,.row 1 0),(6,.row 2 0),(8,.ptr 1 0),(18,.sl y3 x0 1),(19,vI x1),(20,vI x2),(46,vI x3),(47,vI x4)] ⟨[[vI x5,.s x6,vI x7,.row 0 0],[vI x8,.s x9,vI x10,vT x11,vI x12]],[⟨.term,x13,0,0,false⟩,⟨.term,x14,0,0,false⟩,⟨.term,x15,0,0,false⟩]⟩
theorem qsO(m k):qz m k=(qmh m k,qlD m k,qlf m k):=qR (M := λ k=>(qmh m k,qlD m k,qlf m k)) rfl (λ _=>by kernel_rfl) k
theorem qux:okP tb [] qAO := λ m a=>(congrArg (a₁ := qz m m) (λ L=>qdD m L.1 L.2.1 L.2.2 a.1) (qsO m m)).trans (by kernel_rfl)
def qjn(m k x0 x1 x2 x3):=tb.QL qLI 3 m k [(3,.row 0 0),(6,.sl y3 x0 1),(7,vI x1),(8,vI x2)] ⟨[],[⟨y3,x3,0,0,false⟩]⟩
theorem qqA(m k):Qk m k=qjn m k:=qR (M:=qjn m) rfl (λ _=>by kernel_rfl) k
theorem qrS:okS tb qLI := λ m a=>(congrArg (λ L=>qbN m L a.1) (qqA m m)).trans (by kernel_rfl)
theorem qpB:okP tb [] qNQ := λ m a=>by kernel_rfl
def Qi(m k x0 x1 x2):=tb.PL qLp 2 m k [(0,.sl y3 x0 1),(1,.fn 190 []),(7,vI x1),(8,vI x2)] ⟨[],[]⟩
theorem qbx(m k):qB m k=Qi m k:=qR (M:=Qi m) rfl (λ _=>by kernel_rfl) k
theorem qbA:okP tb [190] qLp := λ m a=>(congrArg (λ L=>zD m L a.1) (qbx m m)).trans (by kernel_rfl)
theorem qaW:okP tb [190] qOK := λ m a=>by kernel_rfl
theorem qrT:okP tb [] qOu := λ m a=>by kernel_rfl
def qm3(m k x0 x1 x2 x3):=tb.PL qJo 9 m k [(8,.row 0 0),(23,.sl y3 x0 1),(24,vI x1),(25,vI x2)] ⟨[],[⟨y3,x3,0,0,false⟩]⟩
theorem qtF(m k):JY m k=qm3 m k:=qR (M:=qm3 m) rfl (λ _=>by kernel_rfl) k
theorem qvm:okP tb [] qJo := λ m a=>(congrArg (λ L=>qeg m L a.1 a.2.1) (qtF m m)).trans (by kernel_rfl)
theorem qzP:okP tb [] qOk := λ m a=>by kernel_rfl
theorem qvQ:okP tb [] qNS := λ m a=>by kernel_rfl
def qlk(m k x0 x1 x2 x3 x4 x5 x6 x7 x8 x9 x10 x11 x12 x13 x14):=tb.PL i94 5 m k [(1,.ptr 0 0),(2,.ptr 1 0),(4,.ptr 2 0),(19,vT x0),(20,vI x1),(21,vI x2)] ⟨[[vI x3,.s x4,vI x5,vT x6],[vI x7,.s x8,vI x9,.row 0 0],[vI x10,.s x11,vI x12,.row 1 0]],[⟨.term,x13,0,0,false⟩,⟨.term,x14,0,0,false⟩]⟩
theorem qsX(m k):Ji m (yA m) k=qlk m k:=qR (M:=qlk m) rfl (λ _=>by kernel_rfl) k
theorem qt2:okP tb [] i94 := λ m a=>(congrArg (λ L=>qdp m (yA m) L a.1) (qsX m m)).trans (by kernel_rfl)
theorem qtZ:okP tb [] i71 := λ m a=>by kernel_rfl
theorem qsZ:okP tb [] i74 := λ m a=>by kernel_rfl
def qgX(m k x0 x1 x2):=tb.PL i73 4 m k [(1,.fn 74 []),(18,vT x0),(19,vI x1),(20,vI x2)] ⟨[],[]⟩
theorem qnD(m k):yC m (zb m) k=qgX m k:=qR (M:=qgX m) rfl (λ _=>by kernel_rfl) k
theorem qoJ:okP tb [74] i73 := λ m a=>(congrArg (λ L=>qak m (zb m) L a.1) (qnD m m)).trans (by kernel_rfl)
theorem qwG:okP tb [] i55 := λ m a=>by kernel_rfl
theorem qlr:okS tb i78 := λ m a=>by kernel_rfl
def yS(m k x0 x1 x2 x3 x4 x5 x6):=tb.QL i76 2 m k [(0,.sl y9 x0 1),(1,.fn 78 [.ptr 0 0]),(7,vI x1),(8,vI x2)] ⟨[[vI x3,.s x4,vI x5,vT x6]],[]⟩
theorem Js(m k):qu m k=yS m k:=qR (M:=yS m) rfl (λ _=>by kernel_rfl) k
theorem JA:okS tb i76 := λ m a=>(congrArg (λ L=>qL m L a.1 a.2.1) (Js m m)).trans (by kernel_rfl)
theorem qqF:okP tb [] i77 := λ m a=>by kernel_rfl
theorem qjJ:okP tb [] i79 := λ m a=>by kernel_rfl
def qj8(m k x0 x1 x2 x3):=tb.QL i56 8 m k [(0,.row 0 0),(46,vT x0),(47,vI x1),(48,vI x2)] ⟨[],[⟨y13,x3,0,0,false⟩]⟩
theorem qr3(m k):jY m (zZ m) k=qj8 m k:=qR (M:=qj8 m) rfl (λ _=>by kernel_rfl) k
theorem qsW:okS tb i56 := λ m a=>(congrArg (λ L=>qcH m (zZ m) L a.1 a.2.1) (qr3 m m)).trans (by kernel_rfl)
theorem qrw:okP tb [] i33 := λ m a=>by kernel_rfl
theorem qnT:okS tb i34 := λ m a=>by kernel_rfl
def qqw(m k x0 x1 x2 x3 x4):=tb.PL i57 3 m k [(0,.s x0),(3,.i .u32 x1),(4,.i .u32 x2),(7,vI x3),(8,vI x4)] ⟨[],[]⟩
theorem qxM(m k):qa6 m k=qqw m k:=qR (M:=qqw m) rfl (λ _=>by kernel_rfl) k
theorem qAa:okP tb [] i57 := λ m a=>(congrArg (λ L=>qgv m L a.1) (qxM m m)).trans (by kernel_rfl)
theorem qCM:okP tb [] i35 := λ m a=>by kernel_rfl
theorem qmt:okS tb i13 := λ m a=>by kernel_rfl
theorem qjY:okS tb i38 := λ m a=>by kernel_rfl
theorem qlS:okS tb i16 := λ m a=>by kernel_rfl
theorem qBJ:okP tb [] i39 := λ m a=>by kernel_rfl
theorem qms:okS tb qOn := λ m a=>by kernel_rfl
def qfN(m k x0 x1 x2 x3 x4 x5):=tb.QL qJC 4 m k [(0,.ptr 0 0),(4,vI x0),(14,vI x1),(15,vI x2)] ⟨[[.s x3,vI x4,.b x5]],[]⟩
theorem qlL(m k):ye m k=qfN m k:=qR (M:=qfN m) rfl (λ _=>by kernel_rfl) k
theorem qmA:okS tb qJC := λ m a=>(congrArg (λ L=>JL m L a.1) (qlL m m)).trans (by kernel_rfl)
theorem qmq:okS tb i87 := λ m a=>by kernel_rfl
theorem qre:okP tb [] i40 := λ m a=>by kernel_rfl
theorem qjS:okS tb i17 := λ m a=>by kernel_rfl
theorem qwa:okP tb [] i65 := λ m a=>by kernel_rfl
def qqj(m k x0 x1 x2 x3 x4 x5):=tb.PL i66 3 m k [(1,.ptr 0 0),(3,vI x0),(4,vI x1)] ⟨[[vI x2,.s x3,vI x4,vT x5]],[]⟩
theorem qx9(m k):qa2 m (yZ m) k=qqj m k:=qR (M:=qqj m) rfl (λ _=>by kernel_rfl) k
theorem qzX:okP tb [] i66 := λ m a=>(congrArg (λ L=>qgt m (yZ m) L a.1) (qx9 m m)).trans (by kernel_rfl)
def qlP(m k x0 x1 x2 x3 x4 x5 x6 x7 x8):=tb.PL i41 18 m k [(2,.ptr 0 0),(3,.ptr 1 0),(9,vI x0)] ⟨[[vI x1,.s x2,vI x3,vT x4],[vI x5,.s x6,vI x7,vT x8]],[]⟩
theorem qsY(m k):Jo m (zK m) k=qlP m k:=qR (M:=qlP m) rfl (λ _=>by kernel_rfl) k
theorem quj:okP tb [] i41 := λ m a=>(congrArg (λ L=>qdt m (zK m) L a.1 a.2.1) (qsY m m)).trans (by kernel_rfl)
theorem qAh:okP tb [] i18 := λ m a=>by kernel_rfl
theorem qkl:okS tb i28 := λ m a=>by kernel_rfl
theorem qAt:okP tb [] i52 := λ m a=>by kernel_rfl
theorem qyp:okP tb [] i31 := λ m a=>by kernel_rfl
theorem qyg:okP tb [] i10 := λ m a=>by kernel_rfl
theorem qla:okS tb i15 := λ m a=>by kernel_rfl
def qnA(m k x0 x1 x2 x3 x4 x5):=tb.PL i42 5 m k [(1,vI x0),(2,.ptr 0 0),(5,vI x1)] ⟨[[vI x2,.s x3,vI x4,vT x5]],[]⟩
theorem quF(m k):JU m (jd m) k=qnA m k:=qR (M:=qnA m) rfl (λ _=>by kernel_rfl) k
theorem qwN:okP tb [] i42 := λ m a=>(congrArg (λ L=>qee m (jd m) L a.1 a.2.1) (quF m m)).trans (by kernel_rfl)
def qsd(m k x0 x1 x2):=tb.PL i19 4 m k [(0,vT x0),(2,vI x1),(7,vI x2)] ⟨[],[]⟩
theorem qzO(m k):qcf m k=qsd m k:=qR (M:=qsd m) rfl (λ _=>by kernel_rfl) k
theorem qA1:okP tb [] i19 := λ m a=>(congrArg (λ L=>qh1 m L a.1 a.2.1 a.2.2.1) (qzO m m)).trans (by kernel_rfl)
def qrM(m k x0 x1 x2):=tb.PL i21 3 m k [(0,.sl y6 x0 1),(3,.row 0 0),(4,vI x1)] ⟨[],[⟨.term,x2,0,0,false⟩]⟩
theorem qAz(m k):qcq m k=qrM m k:=qR (M:=qrM m) rfl (λ _=>by kernel_rfl) k
theorem qB9:okP tb [] i21 := λ m a=>(congrArg (λ L=>qhE m L a.1) (qAz m m)).trans (by kernel_rfl)
theorem qCu:okS tb i22 := λ m a=>by kernel_rfl
def qoj(m k x0 x1 x2 x3 x4 x5):=tb.PL i68 3 m k [(1,.ptr 0 0),(3,vI x0),(4,vI x1)] ⟨[[vI x2,.s x3,vI x4,vT x5]],[]⟩
theorem qvT(m k):qat m (jo m) k=qoj m k:=qR (M:=qoj m) rfl (λ _=>by kernel_rfl) k
theorem qym:okP tb [] i68 := λ m a=>(congrArg (λ L=>qfw m (jo m) L a.1) (qvT m m)).trans (by kernel_rfl)
theorem qwp:okP tb [] qOs := λ m a=>by kernel_rfl
theorem qxQ:okP tb [] qOQ := λ m a=>by kernel_rfl
def qm8(m k x0 x1):=tb.PL qJz 4 m k [(0,.s x0),(3,vI x1)] ⟨[],[]⟩
theorem qto(m k):J0 m k=qm8 m k:=qR (M:=qm8 m) rfl (λ _=>by kernel_rfl) k
theorem qwq:okP tb [] qJz := λ m a=>(congrArg (λ L=>qd7 m L a.1) (qto m m)).trans (by kernel_rfl)
theorem qAv:okP tb [] qON := λ m a=>by kernel_rfl
def qoP(m k x0 x1 x2 x3 x4):=tb.PL i97 5 m k [(1,.ptr 0 0),(4,vI x0)] ⟨[[vI x1,.s x2,vI x3,vT x4]],[]⟩
theorem qvB(m k):qau m (jM m) k=qoP m k:=qR (M:=qoP m) rfl (λ _=>by kernel_rfl) k
theorem qxw:okP tb [] i97 := λ m a=>(congrArg (λ L=>qff m (jM m) L a.1) (qvB m m)).trans (by kernel_rfl)
theorem qxP:okP tb [] i80 := λ m a=>by kernel_rfl
theorem quO:okP tb [] qNr := λ m a=>by kernel_rfl
def qqg(m k x0 x1 x2):=tb.PL i85 3 m k [(0,.s x0),(3,.sl y5 x1 1),(4,vI x2)] ⟨[],[]⟩
theorem qw2(m k):qbh m k=qqg m k:=qR (M:=qqg m) rfl (λ _=>by kernel_rfl) k
theorem qzM:okP tb [] i85 := λ m a=>(congrArg (λ L=>qgd m L a.1) (qw2 m m)).trans (by kernel_rfl)
def qqy(m k x0 x1 x2 x3 x4 x5):=tb.PL i98 3 m k [(1,.ptr 0 0),(3,.sl y5 x0 1),(4,vI x1)] ⟨[[vI x2,.s x3,vI x4,vT x5]],[]⟩
theorem qxl(m k):qa8 m k=qqy m k:=qR (M:=qqy m) rfl (λ _=>by kernel_rfl) k
theorem qAm:okP tb [] i98 := λ m a=>(congrArg (λ L=>qgs m L a.1) (qxl m m)).trans (by kernel_rfl)
def qmS(m k x0 x1 x2 x3 x4):=tb.PL i99 4 m k [(1,.ptr 0 0),(3,vI x0)] ⟨[[vI x1,.s x2,vI x3,vT x4]],[]⟩
theorem qur(m k):JW m k=qmS m k:=qR (M:=qmS m) rfl (λ _=>by kernel_rfl) k
theorem qvb:okP tb [] i99 := λ m a=>(congrArg (λ L=>qew m L a.1) (qur m m)).trans (by kernel_rfl)
def qof(m k x0 x1 x2 x3 x4):=tb.PL i81 11 m k [(1,.ptr 0 0),(4,vI x0)] ⟨[[vI x1,.s x2,vI x3,vT x4]],[]⟩
theorem quS(m k):Jt m (jk m) k=qof m k:=qR (M:=qof m) rfl (λ _=>by kernel_rfl) k
theorem qxr:okP tb [] i81 := λ m a=>(congrArg (λ L=>qfl m (jk m) L a.1) (quS m m)).trans (by kernel_rfl)
theorem qyr:okP tb [] i58 := λ m a=>by kernel_rfl
def qsa(m k x0 x1 x2 x3 x4 x5):=tb.PL i84 3 m k [(1,.ptr 0 0),(3,.row 0 0),(4,vI x0)] ⟨[[vI x1,.s x2,vI x3,vT x4]],[⟨.term,x5,0,0,true⟩]⟩
theorem qAj(m k):qch m (Qn m) k=qsa m k:=qR (M:=qsa m) rfl (λ _=>by kernel_rfl) k
theorem qAS:okP tb [] i84 := λ m a=>(congrArg (λ L=>qhh m (Qn m) L a.1) (qAj m m)).trans (by kernel_rfl)
def qrd(m k x0 x1 x2 x3 x4 x5 x6 x7):=tb.PL qLB 4 m k [(0,vT x0),(3,.ptr 0 0),(5,.row 0 0),(6,.b x1),(7,vI x2)] ⟨[[vI x3,.s x4,vI x5,vT x6]],[⟨.term,x7,0,0,false⟩]⟩
theorem qAw(m k):qce m k=qrd m k:=qR (M:=qrd m) rfl (λ _=>by kernel_rfl) k
theorem qA5:okP tb [] qLB := λ m a=>(congrArg (λ L=>qhQ m L a.1 a.2.1) (qAw m m)).trans (by kernel_rfl)
def qrR(m k x0 x1 x2):=tb.PL qKw 3 m k [(0,vT x0),(3,vT x1),(4,vI x2)] ⟨[],[]⟩
theorem qzV(m k):qb9 m k=qrR m k:=qR (M:=qrR m) rfl (λ _=>by kernel_rfl) k
theorem qCJ:okP tb [] qKw := λ m a=>(congrArg (λ L=>qhX m L a.1) (qzV m m)).trans (by kernel_rfl)
def qql(m k x0 x1 x2 x3):=tb.PL qJ3 4 m k [(1,vI x0),(5,.row 0 0),(6,vT x1),(7,vI x2)] ⟨[],[⟨.term,x3,0,0,false⟩]⟩
theorem qw8(m k):qbe m k=qql m k:=qR (M:=qql m) rfl (λ _=>by kernel_rfl) k
theorem qz8:okP tb [] qJ3 := λ m a=>(congrArg (λ L=>qgw m L a.1 a.2.1) (qw8 m m)).trans (by kernel_rfl)
theorem qAy:okP tb [] i82 := λ m a=>by kernel_rfl
theorem qvn:okP tb [] i59 := λ m a=>by kernel_rfl
theorem qB3:okP tb [] qOT := λ m a=>by kernel_rfl
theorem qDM:okP tb [] qOX := λ m a=>by kernel_rfl
theorem qtN:okP tb [] qN4 := λ m a=>by kernel_rfl
def qoB(m k x0 x1 x2 x3 x4 x5):=tb.PL qKn 4 m k [(0,vT x0),(3,.ptr 0 0),(5,vI x1)] ⟨[[vI x2,.s x3,vI x4,vT x5]],[]⟩
theorem qvf(m k):qaz m k=qoB m k:=qR (M:=qoB m) rfl (λ _=>by kernel_rfl) k
theorem qxd:okP tb [] qKn := λ m a=>(congrArg (λ L=>qfJ m L a.1 a.2.1) (qvf m m)).trans (by kernel_rfl)
theorem qAe:okP tb [] qNx := λ m a=>by kernel_rfl
def qrz(m k x0 x1 x2 x3 x4 x5):=tb.PL qK1 2 m k [(0,vT x0),(3,.ptr 0 0),(5,vI x1)] ⟨[[vI x2,.s x3,vI x4,vT x5]],[]⟩
theorem qAp(m k):qca m k=qrz m k:=qR (M:=qrz m) rfl (λ _=>by kernel_rfl) k
theorem qCD:okP tb [] qK1 := λ m a=>(congrArg (λ L=>qhm m L a.1 a.2.1) (qAp m m)).trans (by kernel_rfl)
def qng(m k x0 x1 x2 x3 x4 x5 x6):=tb.PL qLy 5 m k [(0,vT x0),(3,.ptr 0 0),(5,.row 0 0),(6,vI x1)] ⟨[[vI x2,.s x3,vI x4,vT x5]],[⟨.term,x6,0,0,false⟩]⟩
theorem qt3(m k):JS m k=qng m k:=qR (M:=qng m) rfl (λ _=>by kernel_rfl) k
theorem qvK:okP tb [] qLy := λ m a=>(congrArg (λ L=>qd8 m L a.1 a.2.1) (qt3 m m)).trans (by kernel_rfl)
def qqr(m k x0 x1 x2):=tb.PL qJ9 3 m k [(1,vT x0),(5,vT x1),(6,vI x2)] ⟨[],[]⟩
theorem qxS(m k):qaj m k=qqr m k:=qR (M:=qqr m) rfl (λ _=>by kernel_rfl) k
theorem qzK:okP tb [] qJ9 := λ m a=>(congrArg (λ L=>qgz m L a.1 a.2.1) (qxS m m)).trans (by kernel_rfl)
def qkh(m k x0 x1 x2 x3 x4 x5):=tb.PL qK7 7 m k [(1,.ptr 0 0),(3,vT x0),(4,vI x1)] ⟨[[vI x2,.s x3,vI x4,vT x5]],[]⟩
theorem qrf(m k):Qb m (zW m) k=qkh m k:=qR (M:=qkh m) rfl (λ _=>by kernel_rfl) k
theorem qs1:okP tb [] qK7 := λ m a=>(congrArg (λ L=>qcK m (zW m) L a.1) (qrf m m)).trans (by kernel_rfl)
theorem qzY:okP tb [] qOg := λ m a=>by kernel_rfl
def qrn(m k x0 x1 x2 x3 x4 x5 x6):=tb.PL qKH 6 m k [(0,vT x0),(2,.ptr 0 0),(5,vT x1),(6,vI x2)] ⟨[[vI x3,.s x4,vI x5,.row 0 0]],[⟨.term,x6,0,0,true⟩]⟩
theorem qAn(m k):qcm m k=qrn m k:=qR (M:=qrn m) rfl (λ _=>by kernel_rfl) k
theorem qCR:okP tb [] qKH := λ m a=>(congrArg (λ L=>qhf m L a.1) (qAn m m)).trans (by kernel_rfl)
theorem quf:okP tb [] qN0 := λ m a=>by kernel_rfl
def qoT(m k x0 x1 x2 x3 x4 x5):=tb.PL qKP 7 m k [(1,.ptr 0 0),(3,vI x0),(4,vI x1)] ⟨[[vI x2,.s x3,vI x4,vT x5]],[]⟩
theorem qvq(m k):Jx m (ji m) k=qoT m k:=qR (M:=qoT m) rfl (λ _=>by kernel_rfl) k
theorem qxD:okP tb [] qKP := λ m a=>(congrArg (λ L=>qe9 m (ji m) L a.1) (qvq m m)).trans (by kernel_rfl)
def qrb(m k x0 x1 x2 x3 x4 x5 x6 x7 x8):=tb.QL qJP 4 m k [(0,.row 0 0),(2,vI x0),(4,.ptr 0 0),(7,.row 1 0),(8,.b x1),(9,vI x2)] ⟨[[vI x3,.s x4,vI x5,vT x6]],[⟨y3,x7,0,0,false⟩,⟨y3,x8,0,0,false⟩]⟩
theorem qzG(m k):J4 m k=qrb m k:=qR (M:=qrb m) rfl (λ _=>by kernel_rfl) k
theorem qBL:okS tb qJP := λ m a=>(congrArg (λ L=>qhq m L a.1 a.2.1 a.2.2.1) (qzG m m)).trans (by kernel_rfl)
def ql1(m k x0 x1 x2 x3 x4 x5 x6):=tb.QL qLb 6 m k [(0,.row 0 0),(2,vI x0),(4,.ptr 0 0),(7,vI x1)] ⟨[[vI x2,.s x3,vI x4,vT x5]],[⟨y3,x6,0,0,false⟩]⟩
theorem qs5(m k):Qm m (yj m) k=ql1 m k:=qR (M:=ql1 m) rfl (λ _=>by kernel_rfl) k
theorem qtO:okS tb qLb := λ m a=>(congrArg (λ L=>qdf m (yj m) L a.1 a.2.1 a.2.2.1) (qs5 m m)).trans (by kernel_rfl)
theorem qEf:okP tb [] qOp := λ m a=>by kernel_rfl
def qoS(m k x0 x1):=tb.PL qKR 4 m k [(0,.sl y3 x0 1),(3,vI x1)] ⟨[],[]⟩
theorem qvi(m k):Jy m k=qoS m k:=qR (M:=qoS m) rfl (λ _=>by kernel_rfl) k
theorem qxo:okP tb [] qKR := λ m a=>(congrArg (λ L=>qfH m L a.1) (qvi m m)).trans (by kernel_rfl)
def qj9(m k x0 x1 x2):=tb.PL qxC 3 m k [(0,.sl y3 x0 1),(3,.row 0 0),(4,vI x1)] ⟨[],[⟨.term,x2,0,0,false⟩]⟩
def qkg(m k x0 x1 x2 x3):=tb.PL qxC 6 m k [(0,.sl y3 x0 1),(3,.row 0 0),(4,vI x1),(5,vI x2)] ⟨[],[⟨.term,x3,0,0,false⟩]⟩
def qj5(m k x0 x1 x2):=tb.PL qxC 10 m k [(0,.sl y3 x0 1),(3,.row 0 0),(6,vI x1)] ⟨[],[⟨.term,x2,0,0,false⟩]⟩
def qki(m k x0 x1 x2 x3):=tb.PL qxC 13 m k [(0,.sl y3 x0 1),(3,.row 0 0),(6,vI x1),(7,vI x2)] ⟨[],[⟨.term,x3,0,0,false⟩]⟩
theorem qqT(m k):ql m k=(qj9 m k,qkg m k,qj5 m k,qki m k):=qR (M := λ k=>(qj9 m k,qkg m k,qj5 m k,qki m k)) rfl (λ _=>by kernel_rfl) k
theorem qs6:okP tb [] qxC := λ m a=>(congrArg (a₁ := ql m m) (λ L=>qcv m L.1 L.2.1 L.2.2.1 L.2.2.2 a.1) (qqT m m)).trans (by kernel_rfl)
theorem qzD:okP tb [] qOH := λ m a=>by kernel_rfl
theorem quh:okP tb [] qOr := λ m a=>by kernel_rfl
def qmi(m k x0 x1):=tb.PL qJO 2 m k [(0,.sl y3 x0 1),(3,vI x1)] ⟨[],[]⟩
theorem qsU(m k):Ja m k=qmi m k:=qR (M:=qmi m) rfl (λ _=>by kernel_rfl) k
theorem qun:okP tb [] qJO := λ m a=>(congrArg (λ L=>qdl m L a.1) (qsU m m)).trans (by kernel_rfl)
def qqL(m k x0 x1 x2):=tb.PL qJL 9 m k [(1,.sl y3 x0 1),(8,.row 0 0),(9,vI x1)] ⟨[],[⟨y3,x2,0,0,false⟩]⟩
theorem qz1(m k):qaV m k=qqL m k:=qR (M:=qqL m) rfl (λ _=>by kernel_rfl) k
theorem qCT:okP tb [] qJL := λ m a=>(congrArg (λ L=>qhs m L a.1 a.2.1) (qz1 m m)).trans (by kernel_rfl)
theorem qxz:okP tb [] qOt := λ m a=>by kernel_rfl
def qmJ(m k x0 x1 x2 x3 x4 x5 x6 x7 x8 x9):=tb.PL qLi 5 m k [(1,.ptr 0 0),(2,.ptr 1 0),(4,.row 1 0),(5,vI x0)] ⟨[[vI x1,.s x2,vI x3,vT x4],[vI x5,.s x6,vI x7,.row 0 0]],[⟨.term,x8,0,0,false⟩,⟨.term,x9,0,0,false⟩]⟩
theorem qtr(m k):J1 m (jf m) k=qmJ m k:=qR (M:=qmJ m) rfl (λ _=>by kernel_rfl) k
theorem qvg:okP tb [] qLi := λ m a=>(congrArg (λ L=>qem m (jf m) L a.1) (qtr m m)).trans (by kernel_rfl)
theorem qvy:okP tb [] i83 := λ m a=>by kernel_rfl
def qn6(m k x0 x1):=tb.PL i60 6 m k [(5,vT x0),(6,vI x1)] ⟨[],[]⟩
theorem qv1(m k):qaw m k=qn6 m k:=qR (M:=qn6 m) rfl (λ _=>by kernel_rfl) k
theorem qxB:okP tb [] i60 := λ m a=>(congrArg (λ L=>qfm m L a.1) (qv1 m m)).trans (by kernel_rfl)
theorem qyn:okP tb [] i36 := λ m a=>by kernel_rfl
theorem qyh:okP tb [] i86 := λ m a=>by kernel_rfl
def qoq(m k x0 x1 x2):=tb.PL i61 3 m k [(0,.s x0),(3,.sl .str x1 1),(4,vI x2)] ⟨[],[]⟩
theorem qu4(m k):qaq m k=qoq m k:=qR (M:=qoq m) rfl (λ _=>by kernel_rfl) k
theorem qys:okP tb [] i61 := λ m a=>(congrArg (λ L=>qfk m L a.1) (qu4 m m)).trans (by kernel_rfl)
theorem qtH:okP tb [] i62 := λ m a=>by kernel_rfl
def qoU(m k x0 x1 x2 x3 x4 x5):=tb.PL i37 7 m k [(1,.ptr 0 0),(3,.s x0),(4,vI x1)] ⟨[[vI x2,.s x3,vI x4,vT x5]],[]⟩
theorem qv3(m k):Jv m (jm m) k=qoU m k:=qR (M:=qoU m) rfl (λ _=>by kernel_rfl) k
theorem qwX:okP tb [] i37 := λ m a=>(congrArg (λ L=>qfK m (jm m) L a.1) (qv3 m m)).trans (by kernel_rfl)
theorem qwK:okP tb [] i14 := λ m a=>by kernel_rfl
def qoa(m k x0 x1 x2 x3):=tb.PL i43 4 m k [(0,.s x0),(3,.i .u32 x1),(4,.i .u32 x2),(5,vI x3)] ⟨[],[]⟩
theorem qvI(m k):qav m k=qoa m k:=qR (M:=qoa m) rfl (λ _=>by kernel_rfl) k
theorem qxG:okP tb [] i43 := λ m a=>(congrArg (λ L=>qfv m L a.1) (qvI m m)).trans (by kernel_rfl)
theorem qAl:okP tb [] i20 := λ m a=>by kernel_rfl
theorem qoQ:okS tb i25 := λ m a=>by kernel_rfl
theorem qmx:okS tb i26 := λ m a=>by kernel_rfl
def qdP(m k x0 x1 x2 x3 x4 x5):=tb.QL i27 3 m k [(0,.ptr 0 0),(1,vI x0),(5,.row 1 0),(11,.row 0 0),(12,vI x1),(13,vI x2)] ⟨[[vI x3,.row 0 0]],[⟨y1,x4,0,0,false⟩,⟨y2,x5,0,0,false⟩]⟩
theorem qjA(m k):yb m k=qdP m k:=qR (M:=qdP m) rfl (λ _=>by kernel_rfl) k
theorem qjI:okS tb i27 := λ m a=>(congrArg (λ L=>QA m L a.1 a.2.1) (qjA m m)).trans (by kernel_rfl)
theorem qoo:okS tb i49 := λ m a=>by kernel_rfl
theorem qmC:okS tb i29 := λ m a=>by kernel_rfl
theorem qz4:okP tb [] i50 := λ m a=>by kernel_rfl
def qqt(m k x0 x1 x2 x3 x4 x5 x6 x7 x8 x9 x10 x11):=tb.PL i89 8 m k [(0,.s x0),(1,vI x1),(4,.ptr 0 0),(7,.ptr 1 0),(8,vI x2),(9,vI x3)] ⟨[[vI x4,.s x5,vI x6,.row 0 0],[vI x7,.s x8,vI x9,.row 1 0]],[⟨.term,x10,0,0,false⟩,⟨.term,x11,0,0,false⟩]⟩
theorem qxF(m k):jI m k=qqt m k:=qR (M:=qqt m) rfl (λ _=>by kernel_rfl) k
theorem qAq:okP tb [] i89 := λ m a=>(congrArg (λ L=>qbL m L a.1 a.2.1) (qxF m m)).trans (by kernel_rfl)
def qqd(m k x0 x1 x2 x3 x4):=tb.PL i90 4 m k [(0,.s x0),(1,vI x1),(2,.s x2),(9,.sl y5 x3 1),(10,vI x4)] ⟨[],[]⟩
theorem qw6(m k):qbi m k=qqd m k:=qR (M:=qqd m) rfl (λ _=>by kernel_rfl) k
theorem qzL:okP tb [] i90 := λ m a=>(congrArg (λ L=>qgp m L a.1 a.2.1 a.2.2.1) (qw6 m m)).trans (by kernel_rfl)
def qqh(m k x0 x1 x2 x3 x4 x5 x6 x7 x8 x9 x10 x11):=tb.PL i67 12 m k [(0,.s x0),(4,.ptr 0 0),(7,.ptr 1 0),(8,vI x1),(9,vI x2),(11,vI x3)] ⟨[[vI x4,.s x5,vI x6,.row 0 0],[vI x7,.s x8,vI x9,.row 1 0]],[⟨.term,x10,0,0,false⟩,⟨.term,x11,0,0,false⟩]⟩
theorem qxY(m k):Qw m (qT m) k=qqh m k:=qR (M:=qqh m) rfl (λ _=>by kernel_rfl) k
theorem qzI:okP tb [] i67 := λ m a=>(congrArg (λ L=>qax m (qT m) L a.1 a.2.1) (qxY m m)).trans (by kernel_rfl)
theorem qwu:okP tb [] i51 := λ m a=>by kernel_rfl
theorem qlJ:okS tb i30 := λ m a=>by kernel_rfl
theorem qoF:okS tb i44 := λ m a=>by kernel_rfl
theorem qnF:okS tb i45 := λ m a=>by kernel_rfl
def qfP(m k x0 x1 x2 x3):=tb.PL i46 4 m k [(0,.sl y2 x0 1),(1,.sl y2 x1 1),(12,vI x2),(13,vI x3)] ⟨[],[]⟩
theorem qlQ(m k):yN m k=qfP m k:=qR (M:=qfP m) rfl (λ _=>by kernel_rfl) k
theorem qmp:okP tb [] i46 := λ m a=>(congrArg (λ L=>JH m L a.1 a.2.1) (qlQ m m)).trans (by kernel_rfl)
def qeZ(m k x0 x1 x2 x3 x4):=tb.QL i47 3 m k [(0,.ptr 0 0),(1,vI x0),(5,.row 1 0),(6,vI x1)] ⟨[[vI x2,.row 0 0]],[⟨y1,x3,0,0,false⟩,⟨y2,x4,0,0,false⟩]⟩
theorem qkC(m k):yw m k=qeZ m k:=qR (M:=qeZ m) rfl (λ _=>by kernel_rfl) k
theorem qlR:okS tb i47 := λ m a=>(congrArg (λ L=>Jk m L a.1 a.2.1) (qkC m m)).trans (by kernel_rfl)
theorem qnB:okS tb i48 := λ m a=>by kernel_rfl
theorem qEd:okS tb i23 := λ m a=>by kernel_rfl
def ql0(m k x0 x1 x2 x3 x4 x5 x6):=tb.QL i24 6 m k [(5,.ptr 0 0),(7,.ptr 1 0),(25,.sl y6 x0 1),(26,vI x1),(27,vI x2)] ⟨[[vI x3,.row 0 0],[vI x4,.row 1 0]],[⟨y1,x5,0,0,false⟩,⟨y1,x6,0,0,false⟩]⟩
theorem qsR(m k):Jg m k=ql0 m k:=qR (M:=ql0 m) rfl (λ _=>by kernel_rfl) k
theorem quu:okS tb i24 := λ m a=>(congrArg (λ L=>qdk m L a.1) (qsR m m)).trans (by kernel_rfl)
theorem qmo:okP tb [] i9 := λ m a=>by kernel_rfl
end Go.AmZ
namespace Go.Proofs
open Go.Shelf
def Tryz.sortTrm_ren:Go.Shelf.Ren:=⟨λ | 6=>107 | 15=>131 | 14=>130 | 28=>163 | 29=>164 | 20=>155 | 21=>156 | 22=>157 | 23=>158 | 24=>159 | 25=>160 | 26=>161 | 27=>162 | 46=>180 | 47=>181 | 48=>182 | 49=>183 | 50=>184 | 57=>193 | n=>n,λ | 22=>22 | 24=>24 | 25=>86 | 3=>3 | 39=>95 | 0=>0 | 53=>88 | 55=>175 | 4=>4 | 46=>167 | 45=>166 | 50=>171 | 5=>5 | 9=>9 | 66=>184 | 70=>126 | 76=>197 | 77=>198 | n=>n,λ | n=>n⟩
theorem Tryz.sortTrm:Go.Proofs.SlLaysF0.n6 Tryz.prog Tryz.sortTrm_ren:={
 mixed:=by kernel_rfl
 f6:=⟨Tryz.f107.name,by decide,Tryz.func107.trans (congrArg some (by kernel_rfl))⟩
 f14:=⟨Tryz.f130.name,by decide,Tryz.func130.trans (congrArg some (by kernel_rfl))⟩
 f15:=Tryz.func131.trans (congrArg some (by kernel_rfl))
 f20:=⟨Tryz.f155.name,by decide,Tryz.func155.trans (congrArg some (by kernel_rfl))⟩
 f21:=⟨Tryz.f156.name,by decide,Tryz.func156.trans (congrArg some (by kernel_rfl))⟩
 f22:=⟨Tryz.f157.name,by decide,Tryz.func157.trans (congrArg some (by kernel_rfl))⟩
 f23:=⟨Tryz.f158.name,by decide,Tryz.func158.trans (congrArg some (by kernel_rfl))⟩
 f24:=⟨Tryz.f159.name,by decide,Tryz.func159.trans (congrArg some (by kernel_rfl))⟩
 f25:=⟨Tryz.f160.name,by decide,Tryz.func160.trans (congrArg some (by kernel_rfl))⟩
 f26:=⟨Tryz.f161.name,by decide,Tryz.func161.trans (congrArg some (by kernel_rfl))⟩
 f27:=⟨Tryz.f162.name,by decide,Tryz.func162.trans (congrArg some (by kernel_rfl))⟩
 f28:=Tryz.func163.trans (congrArg some (by kernel_rfl))
 f29:=Tryz.func164.trans (congrArg some (by kernel_rfl))
 f46:=⟨Tryz.f180.name,by decide,Tryz.func180.trans (congrArg some (by kernel_rfl))⟩
 f47:=Tryz.func181.trans (congrArg some (by kernel_rfl))
 f48:=Tryz.func182.trans (congrArg some (by kernel_rfl))
 f49:=⟨Tryz.f183.name,by decide,Tryz.func183.trans (congrArg some (by kernel_rfl))⟩
 f50:=⟨Tryz.f184.name,by decide,Tryz.func184.trans (congrArg some (by kernel_rfl))⟩
 f57:=⟨Tryz.f193.name,by decide,Tryz.func193.trans (congrArg some (by kernel_rfl))⟩
 t0:=Tryz.underlying0
 a0:=Tryz.isAgg0
 z0:=Tryz.sizeOf0
 v0:=Tryz.zeroValue0
 t3:=Tryz.underlying3
 a3:=Tryz.isAgg3
 z3:=Tryz.sizeOf3
 v3:=Tryz.zeroValue3
 t4:=Tryz.underlying4
 a4:=Tryz.isAgg4
 z4:=Tryz.sizeOf4
 v4:=Tryz.zeroValue4
 t5:=Tryz.underlying5
 a5:=Tryz.isAgg5
 z5:=Tryz.sizeOf5
 v5:=Tryz.zeroValue5
 t9:=Tryz.underlying9
 a9:=Tryz.isAgg9
 z9:=Tryz.sizeOf9
 v9:=Tryz.zeroValue9
 t22:=Tryz.underlying22
 a22:=Tryz.isAgg22
 z22:=Tryz.sizeOf22
 v22:=Tryz.zeroValue22
 t25:=Tryz.underlying86
 a25:=Tryz.isAgg86
 z25:=Tryz.sizeOf86
 v25:=Tryz.zeroValue86
 t39:=Tryz.underlying95
 a39:=Tryz.isAgg95
 z39:=Tryz.sizeOf95
 v39:=Tryz.zeroValue95
 t45:=Tryz.underlying166
 a45:=Tryz.isAgg166
 z45:=Tryz.sizeOf166
 v45:=Tryz.zeroValue166
 t46:=Tryz.underlying167
 a46:=Tryz.isAgg167
 z46:=Tryz.sizeOf167
 v46:=Tryz.zeroValue167
 t50:=Tryz.underlying171
 a50:=Tryz.isAgg171
 z50:=Tryz.sizeOf171
 v50:=Tryz.zeroValue171
 t53:=Tryz.underlying88
 a53:=Tryz.isAgg88
 z53:=Tryz.sizeOf88
 v53:=Tryz.zeroValue88
 t55:=Tryz.underlying175
 a55:=Tryz.isAgg175
 z55:=Tryz.sizeOf175
 v55:=Tryz.zeroValue175
 t66:=Tryz.underlying184
 a66:=Tryz.isAgg184
 z66:=Tryz.sizeOf184
 v66:=Tryz.zeroValue184
 t70:=Tryz.underlying126
 a70:=Tryz.isAgg126
 z70:=Tryz.sizeOf126
 v70:=Tryz.zeroValue126
 t76:=Tryz.underlying197
 a76:=Tryz.isAgg197
 z76:=Tryz.sizeOf197
 v76:=Tryz.zeroValue197
 t77:=Tryz.underlying198
 a77:=Tryz.isAgg198
 z77:=Tryz.sizeOf198
 v77:=Tryz.zeroValue198 }
end Go.Proofs
namespace Go.GxZ
open Go.RowKit
def Box(w:World)(b:Nat)(e d c a:Value):Prop :=
 w.cell? ⟨b,0,none⟩=some e/\w.cell? ⟨b,1,none⟩=some d/\w.cell? ⟨b,2,none⟩=some c/\w.cell? ⟨b,3,none⟩=some a
theorem Box.keep{w u:World}{b:Nat}{g f e d:Value}{B:Nat}(h:Box w b g f e d)(c:b<B)(a:Below B w u):Box u b g f e d :=
 ⟨(a.cell c).trans h.1,(a.cell c).trans h.2.1,(a.cell c).trans h.2.2.1,(a.cell c).trans h.2.2.2⟩
theorem qxW(w:World)(d c b a:Value)(t:TypeId):Box (w.alloc (Obj.cells #[d,c,b,a] t)) w.heap.size d c b a :=
 ⟨by rw[World.cell?_alloc_mark];rfl,by rw[World.cell?_alloc_mark];rfl,by rw[World.cell?_alloc_mark];rfl,by rw[World.cell?_alloc_mark];rfl⟩
theorem qPo(w:World)(e d c b:Value)(t:TypeId) :
  ∃ a,w.alloc (Obj.cells #[e,d,c,b] t)=a/\Below w.heap.size w a/\a.heap.size=w.heap.size+1/\∀ u,Below a.heap.size a u->Box u w.heap.size e d c b :=
 ⟨_,rfl,(Below.refl _ _).alloc (wb _) _,by simp,λ _ f=>(qxW w e d c b t).keep (by simp) f⟩
theorem qJn(w:World)(d c b a f y1 y2 y3:Value)(t g:TypeId) :
  ∃ e,(w.alloc (Obj.cells #[d,c,b,a] t)).alloc (Obj.cells #[f,y1,y2,y3] g)=e/\Below w.heap.size w e/\e.heap.size=w.heap.size+2 /\
   ∀ u,Below e.heap.size e u->Box u w.heap.size d c b a/\Box u (w.heap.size+1) f y1 y2 y3:=by
 refine⟨_,rfl,((Below.refl _ _).alloc (wb _) _).alloc (by simp) _,by simp,λ u h=>⟨?_,?_⟩⟩
 ·exact((qxW w d c b a t).keep (B:=w.heap.size+1) (by omega) (((Below.refl _ _).alloc (by simp) _))).keep (by simp;omega) h
 ·have:=qxW (w.alloc (Obj.cells #[d,c,b,a] t)) f y1 y2 y3 g;rw[show(w.alloc (Obj.cells #[d,c,b,a] t)).heap.size=w.heap.size+1 by simp]at this;exact this.keep (by simp) h
theorem qyH(w:World)(b:Nat)(n y1 y2 y3 m l g f:Value)(h:Box w b n y1 y2 y3) :
  ∃ w',(((w.setCell ⟨b,0,none⟩ m).setCell ⟨b,1,none⟩ l).setCell ⟨b,2,none⟩ g).setCell ⟨b,3,none⟩ f=w'/\Box w' b m l g f/\(∀ B,B<=b->∀ w0,Below B w0 w->Below B w0 w') /\
   w'.heap.size=w.heap.size/\(∀ k,k≠b->w'.heap[k]?=w.heap[k]?)/\(∀ a,w'.frozen? a=w.frozen? a):=by
 obtain⟨r,q,p,o⟩:=h;have c:∀ i j:Nat,i≠j->(⟨b,i,none⟩:Addr)≠⟨b,j,none⟩ := λ i j h k=>h (by cases k;rfl);refine⟨_,rfl,⟨?_,?_,?_,?_⟩,λ B e w0 h=>(((h.setCell e _).setCell e _).setCell e _).setCell e _,by simp,λ k d=>?_,λ a=>by simp⟩
 ·rw[World.cell?_setCell_other _ _ _ _ (c 3 0 (by decide)),World.cell?_setCell_other _ _ _ _ (c 2 0 (by decide)),World.cell?_setCell_other _ _ _ _ (c 1 0 (by decide))];exact World.cell?_setCell_same _ _ _ r
 ·rw[World.cell?_setCell_other _ _ _ _ (c 3 1 (by decide)),World.cell?_setCell_other _ _ _ _ (c 2 1 (by decide))];refine World.cell?_setCell_same _ _ _ (u:=y1) ?_;rw[World.cell?_setCell_other _ _ _ _ (c 0 1 (by decide))];exact q
 ·rw[World.cell?_setCell_other _ _ _ _ (c 3 2 (by decide))];refine World.cell?_setCell_same _ _ _ (u:=y2) ?_;rw[World.cell?_setCell_other _ _ _ _ (c 1 2 (by decide)),World.cell?_setCell_other _ _ _ _ (c 0 2 (by decide))];exact p
 ·refine World.cell?_setCell_same _ _ _ (u:=y3) ?_;rw[World.cell?_setCell_other _ _ _ _ (c 2 3 (by decide)),World.cell?_setCell_other _ _ _ _ (c 1 3 (by decide)),World.cell?_setCell_other _ _ _ _ (c 0 3 (by decide))];exact o
 ·rw[Below.heap_setCell _ _ _ _ d,Below.heap_setCell _ _ _ _ d,Below.heap_setCell _ _ _ _ d,Below.heap_setCell _ _ _ _ d]
theorem Box.same{w u:World}{b:Nat}{g f e d:Value}(h:Box w b g f e d)(c:u.heap[b]?=w.heap[b]?):Box u b g f e d :=
 ⟨(World.cell?_of_block (w:=w) (a:=⟨b,0,none⟩) c).trans h.1,(World.cell?_of_block (w:=w) (a:=⟨b,1,none⟩) c).trans h.2.1,(World.cell?_of_block (w:=w) (a:=⟨b,2,none⟩) c).trans h.2.2.1,(World.cell?_of_block (w:=w) (a:=⟨b,3,none⟩) c).trans h.2.2.2⟩
end Go.GxZ
namespace Go.Proofs.YtckmkimhkhilgaaGreat
open Go Go.RowKit Go.GxZ Go.AmZ Go.Lib
theorem qFt:qok Tryz.prog .term 22 24 56:=⟨by
 have h:(match jF Tryz.prog 22 with | some ⟨_,_,_,_,.slice e k b z⟩=>Nat.beq e 24&&(Nat.beq k 4&&(Nat.beq b 56&&Nat.beq z.length 4)) | _=>false)=true:=by kernel_rfl
 split at h
 ·rename_i l j i g e k b z m;simp only[wd]at h;obtain⟨f,d,c,a⟩:=h;have f:=wj f;have d:=wj d;have c:=wj c;have a:=wj a;subst f;subst d;subst c;exact⟨l,j,i,g,z,m,a⟩
 ·cases h⟩
theorem qG8{F:Val RD->Option qkM}{k:Nat}{b:Val RD}{r:(Val RD × Unit) × (T × Unit)}(h:qpq F k b=some r):∃ a nk nm sk lf,F b=some ((a,()),((nk,nm,sk,[],lf,()),()))/\qkN F k [(T.mk nk nm sk [],lf)] a=some r:=by
 unfold qpq at h;cases c:qeD F b with
 | none=>rw[c]at h;cases h
 | some x =>
   obtain⟨a,nk,nm,sk,lf⟩:=x;rw[c]at h;exact⟨a,nk,nm,sk,lf,qtl c,h⟩
def qK4(a:Gh)(w0:World)(b:Val RD)(t:T)(e:Ending)(w':World):Prop:=∃(us:List Value) (Γ : Gh) (σ : St),e = .returned (.agg us.toArray)/\RS a w0 b Γ σ w'/\RepL Γ (qi .term t) us/\∀ u∈us,u.oneCell'=true
theorem qLr:(Tryz.prog.info? 122).map (λ i=>(i.zero,i.size,i.bytes))=some (some (.agg #[.int .i64 0,.string ⟨#[]⟩,.int .i64 0,.slice none 0 0,.int .i64 0]),5,64):=by kernel_rfl
set_option maxHeartbeats 4000000 in
set_option maxRecDepth 1000000 in
theorem qHV{F:Val RD->Option qkM}(hF:qY Tryz.prog 87 (sgP (qp9 F))){k:Nat}{Γ0:Gh}{σ0:St}{w0:World}{rd rd':Val RD}{t:T}(h0:Inv Γ0 σ0 w0)(hb : σ0.bx=[qi RD rd])(hr : σ0.rw=[])(hf:qpq F k rd=some ((rd',()),(t,()))) :
  Calls Tryz.prog 63 #[.pointer (some ⟨Γ0.β 0,0,none⟩)] w0 (qK4 Γ0 w0 rd' t):=by
 have HF:=Lib.hid hF;have hS:RS Γ0 w0 rd Γ0 σ0 w0:=⟨.refl _ _,h0,hb⟩
 have HS:=Lib.hid hS;have HR:=Lib.hid hr;have HQ:=Lib.hid hf;clear hF hS hr hf h0 hb;generalize hβ : Γ0.β 0 = β;have Hβ := Lib.hid hβ;clear hβ
 go_enter Tryz.func63,Tryz.ntmps63
 obtain⟨rd1,nk,nm,sk,lf,hf1,hl1⟩:=qG8 HQ.out
 have hc1:∀ o:Obj,Calls Tryz.prog 87 #[.pointer (some ⟨β,0,none⟩)] (w0.alloc o) λ e w'=>∃ Γ' σ' ku,e = .returned (.agg #[.int .i64 nk,.string ⟨nm.toArray⟩,.int .i64 sk,ku,.int .i64 lf])/\Ext Γ0 (w0.alloc o) Γ' w'/\RS Γ0 w0 rd1 Γ' σ' w' /\ σ'.rw = σ0.rw++[⟨4,[],0,0,false⟩]/\Rep Γ' (.rs σ0.rw.length 0 0 0 false) ku := λ o=>by
  rw[<- Hβ.out];exact qv7 HF.out hf1 (HS.out.alloc o)
 have HC1:=Lib.hid hc1;have HL1:=Lib.hid hl1;clear hc1 hl1 hf1
 go_wp2_with (go_at_call 87;refine(HC1.out _).mono ?_;rintro e w1 ⟨Γ1,σ1,ku,rfl,hx1,hS1,hrw1,hku1⟩)
 have hR1 : σ1.rw[σ0.rw.length]?=some ⟨4,[],0,0,false⟩:=by rw[hrw1];simp
 have hsz1:w0.heap.size+1<=w1.heap.size:=by have:=hx1.size;simpa using this
 have hres0:qcY Γ0 (w0.alloc (Obj.cells #[.int .i64 0,.string ⟨#[]⟩,.int .i64 0,.slice none 0 0] 24)) w0.heap.size 24 :=
  ⟨qeJ.new HS.out.i (wb _),by simp,heap_alloc_new w0 _⟩
 have hres1:=hres0.ext hx1;obtain⟨hS2,hK2⟩:=qMD (N:=122) (B:=w0.heap.size) hS1 (by omega) (nk:=nk) (sk:=sk) (nm:=nm) (lf:=lf) hR1 hku1;have hres2:qcY Γ1 (w1.alloc (Obj.cells #[.int .i64 nk,.string ⟨nm.toArray⟩,.int .i64 sk,ku,.int .i64 lf] 122)) w0.heap.size 24:=hres1.same (by simp) (Below.heap_alloc _ _ _ hres1.2.1);have hbet:∀{Γ : Gh},Le Γ0 Γ -> Γ.β 0 = β := λ h=>(h.β 0 (by rw[HS.out.i.nb,HS.out.bx];exact wai)).trans Hβ.out;have HBET:Hid (∀{Γ : Gh},Le Γ0 Γ -> Γ.β 0 = β):=@hbet;have HS2:=Lib.hid hS2;have HK2:=Lib.hid hK2;have HRES2:=Lib.hid hres2;have HSZ1:=Lib.hid hsz1;clear hR1 hres0 hres1 hS2 hK2 hres2 hx1 hS1 hrw1 hku1 hbet hsz1 HC1
 go_loopg [3] k (λ g1 v3 wr=>∃(st:List (T × Int)) (ids:List Nat) (g cap:Nat) (cs:List Value) (Γ : Gh) (σ : St) (rdx:Val RD),v3 = .slice (some ⟨g,0,none⟩) (st.length:Nat) cap/\Hid (RS Γ0 w0 rdx Γ σ wr)/\Hid (Stk w0.heap.size 122 Γ σ wr st ids g cap cs)/\Hid (qcY Γ wr w0.heap.size 24/\w0.heap.size≠g)/\Hid (qkN F g1 st rdx=some ((rd',()),(t,()))))
 case atStart=>exact⟨_,_,_,_,_,_,_,_,rfl,HS2.out,HK2.out,⟨HRES2.out,by have:=HSZ1.out;omega⟩,HL1.out⟩
 case round =>
  obtain⟨st,ids,g,cap,cs,Γ,σ,rdx,rfl,HSr,HKr,HRr,HLr⟩:=hrel;clear HS2 HK2 HRES2 HL1 HSZ1
  obtain⟨m,hm⟩:∃ m,gk=m+1:=by
   cases gk with
   | zero=>exact absurd HLr.out (by intro h;cases h)
   | succ m=>exact⟨m,rfl⟩
  have HLm:Hid (qkN F (m+1) st rdx=some ((rd',()),(t,()))):=by rw[<- hm];exact HLr
  clear HLr;obtain⟨hw0,hw1,hw2⟩:=HSr.out.box;rw[HBET.out HSr.out.x.le]at hw0 hw1 hw2;clear hw0 hw1;rcases qGl (show qnc F (qkN F m) st rdx=some ((rd',()),(t,()))from HLm.out)with⟨hw,he⟩ | ⟨hw,p,top,lt,hlen,hp,hcase⟩
  ·rw[hw]at hw2;cases he;obtain⟨r0,r1,r2,r3,rf⟩:=HRr.out.1.cells;have RF:=Lib.hid rf;have f0:=rf 0;have f1:=rf 1;have f2:=rf 2;have f3:=rf 3;clear rf
   go_wp2_with fail
   obtain⟨w9,hw9,⟨b0,b1,b2,b3⟩,_⟩:=qyH wr w0.heap.size _ _ _ _ (.int .i64 0) (.string ⟨#[]⟩) (.int .i64 0) (.slice none 0 0) ⟨r0,r1,r2,r3⟩;have hS9:=HSr.out.put4 HRr.out.1.1 (wb _) (.int .i64 0) (.string ⟨#[]⟩) (.int .i64 0) (.slice none 0 0);rw[hw9]at hS9 |-
   refine bodyPost_ret (v := .agg #[.int .i64 0,.string ⟨#[]⟩,.int .i64 0,.slice none 0 0]) (by simp[results,Tryz.results63,go_sem,b0,b1,b2,b3]) rfl ?_;exact⟨_,Γ,σ,rfl,hS9,qhc (t := .mk 0 [] 0 []) qBU,qpm rfl⟩
  ·rw[hw]at hw2;obtain⟨r,hr,NC⟩:=HKr.out.at hp;have hcap:=qMh HKr.out.own;have hpm:p+1<=maxLen:=by omega
   unfold maxLen at hpm;have hwp:IntKind.i64.wrap (((p+1:Nat):Int)-1)=(p:Int):=by rw[IntKind.wrap_i64];omega
   obtain⟨Rp,kp,z1,z2,z3,z4,z5,z6,a0,a1,a2,a3,a4⟩:=NC;obtain⟨c4,f4⟩:=HKr.out.cell a4;have hz:(p:Int)<((p+1:Nat):Int):=by omega
   rcases hcase with⟨hlt,hroom,rd1,nk1,nm1,sk1,lf1,hf1,hih⟩ | ⟨hlt,hend⟩
   ·clear z1 z2 z3 z4 z5 z6 a0 a1 a2 a3;rw[hlen]
    go_upto_region 6 with(fail)
    have hwr:iw .i64 (zm lt 1)=wrap64 (lt-1):=by show IntKind.i64.wrap (lt-1)=_;rw[IntKind.wrap_i64];unfold wrap64;rfl
    rw[hwr]at hih;have hS2:=HSr.out.set HKr.out.priv (qcQ HKr.out.own).1 (p*5+4) (.int .i64 (wrap64 (lt-1)));have hK2:=HKr.out.left hp (wrap64 (lt-1));have hR2:qcY Γ (wr.setCell ⟨g,p*5+4,none⟩ (.int .i64 (wrap64 (lt-1)))) w0.heap.size 24:=HRr.out.1.same (by simp) (Below.heap_setCell _ _ _ _ HRr.out.2);have hc:=qv7 HF.out hf1 hS2;rw[HBET.out HSr.out.x.le]at hc;generalize wr.setCell ⟨g,p*5+4,none⟩ (.int .i64 (wrap64 (lt-1)))=w2 at *;have HC:=Lib.hid hc;have HK2:=Lib.hid hK2;have HR2:=Lib.hid hR2;have HIH:=Lib.hid hih;have HRM:=Lib.hid hroom;have HLEN:=Lib.hid hlen;have HNG:=Lib.hid HRr.out.2;clear hc hK2 hR2 hih hroom hS2 HSr HKr HRr hlen hcap hwp hz c4 f4 a4 hr hp hf1 hw2 hwr;obtain⟨i0,hi,hz0,hz1,hz2⟩:=info_parts qLr
    go_wp2_with (first
     | (go_at_call 87;refine HC.out.mono ?_;rintro e w3 ⟨Γ3,σ3,ku3,rfl,hx3,hS3,hrw3,hku3⟩
        have hK3:=HK2.out.later hx3 (σ' := σ3) (λ r _ R h=>by rw[hrw3,List.getElem?_append_left (getElem?_lt h)];exact h);have hR3:=HR2.out.ext hx3;have hnid : σ.rw.length ∉ ids:=HK2.out.id_lt;have hlen2:(st.set p (top,wrap64 (lt-1))).length=p+1:=by rw[wJ];exact HLEN.out
        obtain⟨v4,w4,hrun4,g4,cap4,hv4,hS4,hK4,hsz4,hbl4,hg4⟩:=qJT Tryz.underlying124 hi hz0 hz1 hz2 rfl hS3 hK3 (wb _) (nk:=nk1) (nm:=nm1) (sk:=sk1) (lf:=lf1) (r := σ.rw.length) (by rw[hrw3];simp) hku3 hnid (by rw[hlen2];exact HRM.out) 124;have hR4:qcY Γ3 w4 w0.heap.size 24:=hR3.same hsz4 (hbl4 _ hR3.2.1 HNG.out);have hng4:w0.heap.size≠g4:=by rcases hg4 with rfl | h;exact HNG.out;have:=hR3.2.1;omega
        rw[hlen2]at hrun4 hv4;subst hv4;have HS4:=Lib.hid hS4;have HK4:=Lib.hid hK4;have HR4:=Lib.hid hR4;have HNG4:=Lib.hid hng4;have HRUN:=Lib.hid hrun4;clear hx3 hS3 hrw3 hku3 hK3 hR3 hnid hlen2 hrun4 hS4 hK4 hsz4 hbl4 hg4 hR4 hng4)
     | (at_builtin;refine qxh _ _ _ rfl rfl rfl rfl HRUN.out ?_))
    go_roundg m
    case measure=>omega
    case rel=>exact⟨_,_,g4,cap4,_,Γ3,σ3,rd1,by rw[wc,wJ,HLEN.out];rfl,HS4.out,HK4.out,⟨HR4.out,HNG4.out⟩,HIH.out⟩
   ·obtain⟨c0,f0⟩:=HKr.out.cell a0;obtain⟨c1,f1⟩:=HKr.out.cell a1;obtain⟨c2,f2⟩:=HKr.out.cell a2;obtain⟨c3,f3⟩:=HKr.out.cell a3;have hgl:=(qcQ HKr.out.own).2;have hbl:w0.heap.size<wr.heap.size:=HRr.out.1.2.1;have NC:qjd Γ σ cs p top lt r:=⟨Rp,kp,z1,z2,z3,z4,z5,z6,a0,a1,a2,a3,a4⟩
    have hk1:=z6.one rfl;obtain⟨pa,kn,kc,rfl⟩:∃ pa kn kc,kp = .slice pa kn kc:=by cases z6;exact⟨_,_,_,rfl⟩
    clear z1 z2 z3 z4 z5 z6 a0 a1 a2 f0 f1 f2 f3 f4;rcases hend with⟨rfl,he⟩ | ⟨q,par,n,rfl,hq,hroom,hih⟩
    ·cases he;rw[hlen];have hR5:∀ o:Obj,qcY Γ (wr.alloc o) w0.heap.size 24 := λ o=>HRr.out.1.same (by simp) (Below.heap_alloc _ _ _ hbl);obtain⟨r0,r1,r2,r3,rf⟩:=HRr.out.1.cells;have f0:=rf 0;have f1:=rf 1;have f2:=rf 2;have f3:=rf 3;clear rf;have HNC:=Lib.hid NC;have HR5:=Lib.hid hR5;have HLT:=Lib.hid hlt;have HK1:=Lib.hid hk1;clear NC hR5 hk1
     go_wp2_with fail
     obtain⟨w9,hw9,⟨b0,b1,b2,b3⟩,_,hsz9,_⟩:=qyH wr w0.heap.size _ _ _ _ (.int .i64 t.kind) (.string ⟨t.name.toArray⟩) (.int .i64 t.sort) (.slice pa kn kc) ⟨r0,r1,r2,r3⟩;have hS9:=HSr.out.put4 HRr.out.1.1 (wb _) (.int .i64 t.kind) (.string ⟨t.name.toArray⟩) (.int .i64 t.sort) (.slice pa kn kc);rw[hw9]at hS9 |-
     have hl9:w0.heap.size<w9.heap.size:=by rw[hsz9];exact hbl
     refine bodyPost_ret (v := .agg #[.int .i64 t.kind,.string ⟨t.name.toArray⟩,.int .i64 t.sort,.slice pa kn kc]) (by simp[results,Tryz.results63,go_sem,b0,b1,b2,b3,hl9]) rfl ?_;have hS10:=hS9.alloc (.cells #[.int .i64 t.kind,.string ⟨t.name.toArray⟩,.int .i64 t.sort,.slice pa kn kc] 24);obtain⟨Γ1,σ9,kx,y1,y2,y3,y4,y5,y6,y7⟩:=qDx hS10.i HNC.out;obtain⟨_,kx',_,_,_,_,_,_,_,_,_,y8,_⟩:=HNC.out;have hcs:cs[0*5+3]?=some (.slice pa kn kc):=a3;rw[hcs]at y5;cases y5;exact⟨[.int .i64 t.kind,.string ⟨t.name.toArray⟩,.int .i64 t.sort,.slice pa kn kc],Γ1,σ9,rfl,⟨hS10.x.trans y3,y4,y1.trans hS10.bx⟩,qhc y6,qpm rfl⟩
    ·rw[hlen];have HNC:=Lib.hid NC;have HK1:=Lib.hid hk1;have HIH:=Lib.hid hih;have HRM:=Lib.hid hroom;have HQ2:=Lib.hid hq;have HP:=Lib.hid hp;have hqm:q+1+1<=2 ^ 63-1:=hpm;have hz2:¬ ((q:Int)+1=0):=by omega
     clear NC hk1 hih hroom hq HQ
     go_upto_region 11 with(fail)
     obtain⟨w5,hw5,hb5,hs5,hbx5⟩:=qPo wr (.int .i64 top.kind) (.string ⟨top.name.toArray⟩) (.int .i64 top.sort) (.slice pa kn kc) 24;have hS5:=HSr.out.alloc (.cells #[.int .i64 top.kind,.string ⟨top.name.toArray⟩,.int .i64 top.sort,.slice pa kn kc] 24);have hK5:=HKr.out.grown (World.grownBy_alloc wr (.cells #[.int .i64 top.kind,.string ⟨top.name.toArray⟩,.int .i64 top.sort,.slice pa kn kc] 24) none) (λ e=>by cases e);have hR5:qcY Γ (wr.alloc (.cells #[.int .i64 top.kind,.string ⟨top.name.toArray⟩,.int .i64 top.sort,.slice pa kn kc] 24)) w0.heap.size 24:=HRr.out.1.same (by simp) (Below.heap_alloc _ _ _ hbl);rw[hw5]at hS5 hK5 hR5 |-
     have g5:=hbx5 _ (Below.refl _ _);have HS5:=Lib.hid hS5;have HK5:=Lib.hid hK5;have HR5:=Lib.hid hR5;have G5:=Lib.hid g5;have HNG:=Lib.hid HRr.out.2;have HA3:=Lib.hid a3;have HSZ5:=Lib.hid hs5;clear hbx5 hw5 hb5 hS5 hK5 hR5 g5 HSr HKr HRr c0 c1 c2 c3 c4 a4 a3 hw2 hgl hbl hs5 hlen hp hcap hwp hr
     have key:∀ bv:Value,RS Γ0 w0 rdx Γ σ (w5.alloc (.cells #[bv] 4)).drew/\Stk w0.heap.size 122 Γ σ (w5.alloc (.cells #[bv] 4)).drew st ids g cap cs/\qcY Γ (w5.alloc (.cells #[bv] 4)).drew w0.heap.size 24/\Box (w5.alloc (.cells #[bv] 4)).drew wr.heap.size (.int .i64 top.kind) (.string ⟨top.name.toArray⟩) (.int .i64 top.sort) (.slice pa kn kc) := λ bv =>
      ⟨(HS5.out.alloc _).drew',(HK5.out.grown (World.grownBy_alloc w5 (.cells #[bv] 4) none) (λ e=>by cases e)).drew,(HR5.out.same (by simp) (Below.heap_alloc _ _ _ HR5.out.2.1)).drew,G5.out.same (Below.heap_alloc _ _ _ (by have:=HSZ5.out;omega))⟩
     have KEY:=Lib.hid key;clear key
     go_region
     ·obtain⟨w6,hw6⟩:∃ w6,(w5.alloc (.cells #[.bool false] 4)).drew=w6:=⟨_,rfl⟩
      obtain⟨k1,k2,k3,k4⟩:=KEY.out (.bool false);rw[hw6]at k1 k2 k3 k4 |-
      have HS6:=Lib.hid k1;have HK6:=Lib.hid k2;have HR6:=Lib.hid k3;have G6:=Lib.hid k4;clear KEY hw6 k1 k2 k3 k4 HS5 HK5 HR5 G5 HSZ5
      go_upto_region 14 with(fail)
      obtain⟨Γ7,σ7,kx,b4,hS7,hK7,hx7,hx6⟩:=qEA HS6.out.drew' HK6.out.drew HP.out;rw[HA3.out]at b4;cases b4;have hql:q<st.length:=getElem?_lt HQ2.out;obtain⟨kq,rq,b0,_,_,v8,w8,hrun,⟨pa8,kc8,hv8⟩,Γ8,σ8,hx8,hS8,hK8⟩:=qEn qFt hS7 hK7 (wb _) (q:=q) (t:=par) (n:=n) (by rw[List.getElem?_take,if_pos (by omega)];exact HQ2.out) hx7 HRM.out 24 22;rw[xL,kL (by omega)]at hK8;subst hv8;obtain⟨c6,f6⟩:=hK7.cell b0;obtain⟨c0,c1,c2,c3⟩:=G6.out;have c7:∀ o:Obj,(w6.alloc o).cell? ⟨g,q*5+3,none⟩=some kq := λ o=>(World.cell?_alloc_lt _ _ _ (by show g<_;exact(qcQ HK6.out.own).2)).trans c6;have hbk:=(hK7.priv.ext hx8 (by exact(qcQ HK6.out.own).2)).2;have c8:w8.cell? ⟨g,q*5+3,none⟩=some kq:=(World.cell?_of_block (w:=w6) (a:=⟨g,q*5+3,none⟩) hbk).trans c6;have f8:w8.frozen? ⟨g,q*5+3,none⟩=false:=(World.frozen?_of_block (w:=w6) (a:=⟨g,q*5+3,none⟩) hbk).trans f6;have HR8:=Lib.hid ((HR6.out.drew.ext hx6).ext hx8);have HS8:=Lib.hid hS8;have HK8:=Lib.hid hK8;have hrun:(Builtin.append_ #[22,22] 22 #[kq,.slice (some ⟨w6.heap.size,0,none⟩) 1 1]).run Tryz.prog (w6.alloc (.cells #[.int .i64 top.kind,.string ⟨top.name.toArray⟩,.int .i64 top.sort,.slice pa kn kc] 24)).drew = .ok (.slice pa8 (par.kids.length+1) kc8) w8:=hrun;have HRUN:=Lib.hid hrun;have hl9:(st.take q++[(T.mk par.kind par.name par.sort (par.kids++[top]),n)]).length=q+1:=by rw[wc,wm];simp;omega
      have HL9:=Lib.hid hl9;clear hx8 hS8 hK8 hrun b0 hbk HS6 HK6 HR6 G6 hS7 hK7 hx7 hx6 hl9 hql;have hwq:IntKind.i64.wrap (q:Int)=(q:Int):=by rw[IntKind.wrap_i64];omega
      have hqz:(q:Int)<(q:Int)+1:=by omega
      go_region_law (first | (refine qoO rfl _ _ _ rfl rfl rfl HRUN.out ?_))
      all_goals
       go_wp2_with fail
       go_roundg m
       case measure=>omega
       case rel=>exact⟨_,_,g,cap,_,Γ8,σ8,rdx,by rw[HL9.out],HS8.out,HK8.out,⟨HR8.out.same (by simp) (Below.heap_setCell _ _ _ _ HNG.out),HNG.out⟩,HIH.out⟩
     ·obtain⟨w6,hw6⟩:∃ w6,(w5.alloc (.cells #[.bool true] 4)).drew=w6:=⟨_,rfl⟩
      obtain⟨k1,k2,k3,k4⟩:=KEY.out (.bool true);rw[hw6]at k1 k2 k3 k4 |-
      have HS6:=Lib.hid k1;have HK6:=Lib.hid k2;have HR6:=Lib.hid k3;have G6:=Lib.hid k4;clear KEY hw6 k1 k2 k3 k4 HS5 HK5 HR5 G5 HSZ5
      go_upto_region 12 with(fail)
      obtain⟨Γ7,σ7,kx,b4,hS7,hK7,hx7,hx6⟩:=qEA HS6.out.drew' HK6.out.drew HP.out;rw[HA3.out]at b4;cases b4;have hql:q<st.length:=getElem?_lt HQ2.out;obtain⟨kq,rq,b0,_,⟨pa7,kc7,rfl⟩,v8,w8,hrun,⟨pa8,kc8,hv8⟩,Γ8,σ8,hx8,hS8,hK8⟩:=qEn qFt hS7 hK7 (wb _) (q:=q) (t:=par) (n:=n) (x := .mk 0 [] 0 []) (by rw[List.getElem?_take,if_pos (by omega)];exact HQ2.out) qBU HRM.out 24 22;rw[xL,kL (by omega)]at hK8;subst hv8;obtain⟨c6,f6⟩:=hK7.cell b0;obtain⟨c0,c1,c2,c3⟩:=G6.out;have c7:∀ o:Obj,(w6.alloc o).cell? ⟨g,q*5+3,none⟩=some (.slice pa7 par.kids.length kc7) := λ o=>(World.cell?_alloc_lt _ _ _ (by show g<_;exact(qcQ HK6.out.own).2)).trans c6;have hwl:wr.heap.size<w6.heap.size:=qsj c0;have hbk:=(hK7.priv.ext hx8 (by exact(qcQ HK6.out.own).2)).2;have c8:w8.cell? ⟨g,q*5+3,none⟩=some (.slice pa7 par.kids.length kc7):=(World.cell?_of_block (w:=w6) (a:=⟨g,q*5+3,none⟩) hbk).trans c6;have f8:w8.frozen? ⟨g,q*5+3,none⟩=false:=(World.frozen?_of_block (w:=w6) (a:=⟨g,q*5+3,none⟩) hbk).trans f6;have hR8:qcY Γ8 (w8.setCell ⟨g,q*5+3,none⟩ (.slice pa8 (par.kids.length+1) kc8)) w0.heap.size 24:=((HR6.out.drew.ext hx6).ext hx8).same (by simp) (Below.heap_setCell _ _ _ _ HNG.out);have hl9:(st.take q).length=q:=by rw[wm];omega
      obtain⟨b,kc9,y1,y2,y3,y4,y5,Γ9,σ9,hx9,hS9,hK9⟩:=qMy hS8 hK8 (q:=q) (ks:=par.kids) (z := .mk 0 [] 0 []) (x:=top) (n:=n) (by rw[List.getElem?_append_right (by omega),hl9,kJ];rfl) rfl (hx7.mono hx8.le)
      have y6:pa8=some ⟨b,0,none⟩/\kc8=kc9:=by
       rw[List.getElem?_take,if_pos (by omega),List.getElem?_set_self (by rw[hK7.own.1,wm];omega)]at y1;cases y1;exact⟨rfl,rfl⟩
      obtain⟨rfl,rfl⟩:=y6;obtain⟨u0,d0⟩:=y4 0 (by decide);obtain⟨u1,d1⟩:=y4 1 (by decide);obtain⟨u2,d2⟩:=y4 2 (by decide);obtain⟨u3,d3⟩:=y4 3 (by decide);have g0:=y5 (par.kids.length*4);have g1:=y5 (par.kids.length*4+1);have g2:=y5 (par.kids.length*4+2);have g3:=y5 (par.kids.length*4+3);have hres:b≠w0.heap.size := λ e=>hR8.1.own (e▸y3);have hR9:=(hR8.ext hx9)
      have hrun:(Builtin.append_ #[22,22] 22 #[.slice pa7 par.kids.length kc7,.slice (some ⟨w6.heap.size,0,none⟩) 1 1]).run Tryz.prog (w6.alloc (.cells #[.int .i64 0,.string ⟨#[]⟩,.int .i64 0,.slice none 0 0] 24)).drew = .ok (.slice (some ⟨b,0,none⟩) (par.kids.length+1) kc8) w8:=hrun;obtain⟨w9,hw9⟩:∃ w9,w8.setCell ⟨g,q*5+3,none⟩ (.slice (some ⟨b,0,none⟩) (par.kids.length+1) kc8)=w9:=⟨_,rfl⟩
      rw[hw9]at hS9 hK9 hR9 d0 d1 d2 d3 g0 g1 g2 g3;rw[wP]at d0
      have hl10:((st.take q++[(T.mk par.kind par.name par.sort (par.kids++[T.mk 0 [] 0 []]),n)]).set q (T.mk par.kind par.name par.sort (par.kids++[top]),n))=st.take q++[(T.mk par.kind par.name par.sort (par.kids++[top]),n)]:=by
       rw[vF _ _ (by omega),hl9,kJ];rfl
      have hK9:Stk w0.heap.size 122 Γ9 σ9 _ ((st.take q++[(T.mk par.kind par.name par.sort (par.kids++[T.mk 0 [] 0 []]),n)]).set q (T.mk par.kind par.name par.sort (par.kids++[top]),n)) _ g cap _:=hK9;rw[hl10]at hK9;have hl11:(st.take q++[(T.mk par.kind par.name par.sort (par.kids++[top]),n)]).length=q+1:=by rw[wc,hl9];rfl
      have HL11:=Lib.hid hl11;have HS9:=Lib.hid hS9;have HK9:=Lib.hid hK9;have HR9:=Lib.hid hR9;have HRUN:=Lib.hid hrun;have HW9:=Lib.hid hw9;have hwq:IntKind.i64.wrap (q:Int)=(q:Int):=by rw[IntKind.wrap_i64];omega
      have hqz:(q:Int)<(q:Int)+1:=by omega
      have hnz:(par.kids.length:Int)<(par.kids.length:Int)+1:=by omega
      clear hx8 hS8 hK8 hrun b0 hbk HS6 HK6 HR6 G6 hS7 hK7 hx7 hx6 hl9 hql hR8 hx9 hS9 hK9 hR9 hw9 hl10 hl11 y1 y2 y3 y4 y5 hres
      go_region_law (first | (refine qoO rfl _ _ _ rfl rfl rfl HRUN.out ?_))
      all_goals
       rw[HW9.out]
       go_wp2_with fail
       go_roundg m
       case measure=>omega
       case rel=>exact⟨_,_,g,cap,_,Γ9,σ9,rdx,by rw[HL11.out],HS9.out,HK9.out,⟨HR9.out,HNG.out⟩,HIH.out⟩
end Go.Proofs.YtckmkimhkhilgaaGreat
namespace Go.AmZ
open Go Go.RowKit Go.GxZ
theorem qJq{ds:List AV}{e:Val RD}(h:yf RD (ds.take (Ty.size RD))=some e)(j:ds.drop (Ty.size RD)=[]):ds=qi RD e:=by
 have k:ds.take (Ty.size RD)=ds:=kE (List.drop_eq_nil_iff.1 j);rw[k]at h;have h:=z8.1 h;obtain⟨s,f,w⟩:=e;change qo8 (QW .str) (qo8 (QW (.int .i64)) (QW .bool)) ds=_ at h;unfold qo8 at h;split at h<;>try cases h
 rename_i x r c;split at h<;>cases h;rename_i y d;split at d<;>try cases d
 rename_i l g a;split at d<;>cases d;rename_i b;have c:qgR ds=some (s,r):=c;have a:qbf .i64 r=some (f,g):=a;have b:qhb g=some (w,[]):=b;unfold qgR at c;split at c<;>cases c;unfold qbf at a;split at a<;>try cases a
 rename_i i;split at a<;>cases a;have i:=of_decide_eq_true (by assumption);subst i;unfold qhb at b;split at b<;>cases b;rfl
theorem qMv{σ : St}{ys:List AV}{a:Qx [.box [.val RD]]}(h:dS σ [.box [.val RD]] 0 0 ys=some a):ys=[.ptr 0 0] /\ σ.bx=[qi RD a.1] /\ σ.rw=[]:=by
 cases ys with
 | nil=>simp[dS]at h
 | cons y ys =>
   simp only[dS]at h;cases c:qjD σ [.val RD] 0 0 y with
   | none=>rw[c]at h;cases h
   | some p =>
     obtain⟨v,n⟩:=p;rw[c]at h;simp only at h;unfold qjD at c;split at c<;>try cases c
     split at c<;>try cases c
     rename_i j _ ds i f;have i:=wj i;subst i;simp only[qfR]at c;split at c<;>try cases c
     rename_i x m;split at c<;>cases c;rename_i d
     have l:ds.drop (Ty.size RD)=[]/\n=0:=by
      cases g:ds.drop (Ty.size RD)with
      | nil=>rw[g]at d;simp[qfR]at d;exact⟨rfl,d.symm⟩
      | cons z r=>rw[g]at d;simp[qfR]at d
     obtain⟨l,rfl⟩:=l;split at h<;>cases h;rename_i k;obtain⟨rfl,q,o⟩:=qmn k;have e:=qJq m l;obtain⟨b,c⟩:=xV.1 q.symm;refine⟨rfl,?_,wk o.symm⟩;rw[c]at f |-
     cases f;rw[e];rfl
end Go.AmZ
namespace Go.Proofs.YtckmkimhkhilgaaGreat
open Go Go.RowKit Go.GxZ Go.AmZ Go.Lib
theorem hand_read{F:Val RD->Option qkM}(q:qY Tryz.prog 87 (sgP (qp9 F)))(k:Nat):qY Tryz.prog 63 (sgP ⟨[.box [.val RD]],[.one (.val .term)],λ x=>qpq F k x.1⟩):=by
 refine⟨qal Tryz.func63 (by kernel_rfl),λ Γ σ w l h r i g a=>?_⟩;obtain⟨B,b,y,m⟩ := σ;unfold sgP at a;split at a<;>try cases a
 rename_i x p;obtain⟨z,_⟩:=x;obtain⟨rfl,j,c⟩:=qMv p;have c:b=[]:=c;subst c;split at a<;>cases a;rename_i n d;obtain⟨⟨o,_⟩,t,_⟩:=n;obtain⟨u0,A,rfl,f,g⟩:=g.uncons;have:=g.nil_inv;subst this;cases f;refine(qHV q i j rfl d).mono ?_;rintro e w' ⟨us,Γ',σ',rfl,v,u,s⟩;exact qIG i (by rw[j];rfl) rfl v u s
end Go.Proofs.YtckmkimhkhilgaaGreat
namespace Go.AmZ
open Go Go.GxZ
set_option linter.unusedVariables false
set_option maxRecDepth 100000
open Go.Proofs.Tryz (func9 func10 func12 func13 func14 func15 func16 func17 func18 func19 func20 func21 func22 func23 func24 func25 func26 func27 func28 func29 func30 func31 func32 func33 func34 func35 func36 func37 func38 func39 func40 func41 func42 func43 func44 func45 func46 func47 func48 func49 func50 func51 func52 func53 func54 func55 func56 func57 func58 func59 func60 func61 func62 func64 func65 func66 func67 func68 func69 func70 func71 func72 func73 func74 func75 func76 func77 func78 func79 func80 func81 func82 func83 func84 func85 func86 func87 func88 func89 func90 func91 func92 func93 func94 func95 func97 func98 func99 func100 func101 func102 func103 func104 func105 func106 func109 func110 func111 func112 func113 func114 func115 func116 func117 func120 func121 func122 func123 func124 func125 func126 func127 func128 func129 func132 func133 func134 func135 func136 func137 func138 func139 func140 func141 func142 func143 func145 func146 func147 func148 func149 func150 func151 func152 func153 func154 func165 func166 func167 func170 func171 func173 func174 func175 func176 func177 func178 func179 func185 func186 func189 func190 func191 func192 func196)
theorem qkQ(m:Nat)(h:yt Go.Proofs.Tryz.prog (tb.at m).pc.cfg):qY Go.Proofs.Tryz.prog 63 (sgP ⟨[.box [.val RD]],[.one (.val .term)],λ x=>jC (m+1) x.1⟩):=Go.Proofs.YtckmkimhkhilgaaGreat.hand_read (F:=qw m) (h.prim 87 _ (by kernel_rfl)) m
theorem qco(m:Nat)(h:yt Go.Proofs.Tryz.prog (tb.at m).pc.cfg):qY Go.Proofs.Tryz.prog 107 (mgP ⟨.term,[.clo 95 0],λ x=>q9 (m+1) x.1⟩):=qIz (τ := .term) Go.Proofs.Tryz.sortTrm (λ _=>rfl) Go.Proofs.Tryz.isAgg24 Go.Proofs.Tryz.sizeOf24 (qIb (τ := .term) (ρ := y2) (qFI h (by kernel_rfl)) (F := λ x y=>qA m x y) (by kernel_rfl) (λ _=>rfl)) (qal Go.Proofs.Tryz.func107 (by kernel_rfl)) (λ _ _ h=>h)
theorem qbm(m:Nat)(h:yt Go.Proofs.Tryz.prog (tb.at m).pc.cfg):qY Go.Proofs.Tryz.prog 108 (sgP ⟨[.row .term,.clo 109 0],[.one (.row .term)],λ x=>qH (m+1) x.1⟩):=qAV (qIb (τ := .term) (ρ := .bool) (qFI h (by kernel_rfl)) (F := λ x y=>jg m x y) (by kernel_rfl) (λ _=>rfl)) (λ _ _ h=>qG9 h)
theorem tb_ok:∀ m,yt Go.Proofs.Tryz.prog (tb.at m).pc.cfg:=Tb.all_ok (by kernel_rfl) qIE (by kernel_rfl) (nS func92 qmw (nP func51 qwu (nS func30 qlJ (nP func20 qAl (nS func15 qla (nS func12 qxZ (nP func10 qyg (nP func9 qmo trivial trivial) trivial) (nP func14 qwK (nS func13 qmt trivial trivial) trivial)) (nP func18 qAh (nS func17 qjS (nS func16 qlS trivial trivial) trivial) (nP func19 qA1 trivial trivial))) (nS func25 qoQ (nS func23 qEd (nS func22 qCu (nP func21 qB9 trivial trivial) trivial) (nS func24 quu trivial trivial)) (nS func28 qkl (nS func27 qjI (nS func26 qmx trivial trivial) trivial) (nS func29 qmC trivial trivial)))) (nP func41 quj (nP func36 qyn (nP func33 qrw (nS func32 qls (nP func31 qyp trivial trivial) trivial) (nP func35 qCM (nS func34 qnT trivial trivial) trivial)) (nP func39 qBJ (nS func38 qjY (nP func37 qwX trivial trivial) trivial) (nP func40 qre trivial trivial))) (nP func46 qmp (nS func44 qoF (nP func43 qxG (nP func42 qwN trivial trivial) trivial) (nS func45 qnF trivial trivial)) (nS func49 qoo (nS func48 qnB (nS func47 qlR trivial trivial) trivial) (nP func50 qz4 trivial trivial))))) (nP func72 qxk (nP func62 qtH (nP func57 qAa (nP func54 qC8 (nP func53 qvM (nP func52 qAt trivial trivial) trivial) (nS func56 qsW (nP func55 qwG trivial trivial) trivial)) (nP func60 qxB (nP func59 qvn (nP func58 qyr trivial trivial) trivial) (nP func61 qys trivial trivial))) (nP func67 qzI (nP func65 qwa (nP func64 qzF ⟨⟨qpb (qal Go.Proofs.Tryz.func63 (by kernel_rfl)) λ _=>rfl,λ m h=>qkQ m h⟩,trivial,trivial⟩ trivial) (nP func66 qzX trivial trivial)) (nP func70 qyk (nP func69 qva (nP func68 qym trivial trivial) trivial) (nP func71 qtZ trivial trivial)))) (nP func82 qAy (nP func77 qqF (nP func75 qtC (nP func74 qsZ (nP func73 qoJ trivial trivial) trivial) (nS func76 JA trivial trivial)) (nP func80 qxP (nP func79 qjJ (nS func78 qlr trivial trivial) trivial) (nP func81 qxr trivial trivial))) (nS func87 qmq (nP func85 qzM (nP func84 qAS (nP func83 qvy trivial trivial) trivial) (nP func86 qyh trivial trivial)) (nP func90 qzL (nP func89 qAq (nS func88 qAd trivial trivial) trivial) (nS func91 qqC trivial trivial)))))) (nP func136 qGK (nP func113 qyb (nS func103 qms (nP func98 qAm (nP func95 qvD (nP func94 qt2 (nS func93 qvx trivial trivial) trivial) (nP func97 qxw ⟨λ c hc=>qqB (m:=0) hc,trivial,trivial⟩ trivial)) (nP func101 qvg (nP func100 qz8 (nP func99 qvb trivial trivial) trivial) (nP func102 quO trivial trivial))) ⟨⟨qpb (qal Go.Proofs.Tryz.func108 (by kernel_rfl)) λ _=>rfl,λ m h=>qbm m h⟩,(nP func106 qwq (nP func105 qx7 (nS func104 qmA trivial trivial) trivial) ⟨⟨qHt (qal Go.Proofs.Tryz.func107 (by kernel_rfl)) λ _=>rfl,λ m h=>qco m h⟩,trivial,trivial⟩),(nP func111 qs3 (nP func110 qz2 (nP func109 qs7 trivial trivial) trivial) (nP func112 qF0 trivial trivial))⟩) (nP func124 qCR ⟨λ c hc=>qp7 (m:=0) hc,(nP func116 qC6 (nP func115 qvQ (nP func114 qux trivial trivial) trivial) (nP func117 qCy trivial trivial)),(nP func122 qB3 (nP func121 qCJ (nP func120 qAv trivial trivial) trivial) (nP func123 qtN trivial trivial))⟩ (nP func129 qxQ (nP func127 qCA (nP func126 qxz (nP func125 quh trivial trivial) trivial) (nP func128 qwp trivial trivial)) (nP func134 qDW (nP func133 qDn (nP func132 qAN trivial trivial) trivial) (nP func135 qv5 trivial trivial))))) ⟨qfM (m:=0),(nP func148 qAe (nP func142 qvm (nP func139 qs2 (nP func138 qsS (nS func137 qqD trivial trivial) trivial) (nP func141 qf0 (nP func140 qvU trivial trivial) trivial)) (nP func146 qDM (nP func145 qA5 (nP func143 qzP trivial trivial) trivial) (nP func147 qxd trivial trivial))) (nP func153 qzD (nP func151 qzY (nP func150 qs1 (nP func149 qzK trivial trivial) trivial) (nP func152 qEf trivial trivial)) (nP func166 qrJ (nP func165 qwo (nP func154 qCT trivial trivial) trivial) (nS func167 qrU trivial trivial)))),(nP func179 qun (nP func174 qxD (nP func171 qrT (nS func170 qrS ⟨qfV (m:=0),trivial,trivial⟩ trivial) (nP func173 qvK trivial trivial)) (nP func177 qs6 (nP func176 qxo (nS func175 qtO trivial trivial) trivial) (nS func178 qBL trivial trivial))) (nP func189 qaW ⟨qd5 (m:=0),(nP func186 qoY (nP func185 Q6 trivial trivial) trivial),⟨qd4 (m:=0),trivial,trivial⟩⟩ (nP func192 quf (nP func191 qCD (nP func190 qpB trivial trivial) trivial) (nP func196 qbA trivial trivial))))⟩))
end Go.AmZ
namespace Go.GxZ
open Go.RowKit Go.ChangeShapes Go.WideShapes Go.ChangeAt
open Go.WideMaps Go.WideElems
section
variable {H:Type} {enc:TypeId × Value->H} {P:Program}
theorem qqx(f:laidOutB P=true){W i:World}(g:Below W.heap.size W i):∀{ts:List TypeId} {vs:List Value} {ds:List (DataW H)} {ps:List MemPlace},
  (∀ t∈ts,P.readableRec t=true/\t<P.types.size)->DataW.TrodAll enc P W 0 (λ _=>true) true ts vs ds ps->(∀ x∈ps,x.block<W.heap.size) ->
  DataW.TrodAll enc P i 0 (λ b=>decide (b<W.heap.size)) true ts vs ds ps
 | [],[],[],_,_,h,_=>h
 | t::ts,v::vs,d::ds,_,e,⟨p,q,m,l,k⟩,a=>by
   subst k;refine⟨p,q,?_,?_,rfl⟩
   ·exact Below.trod f (e t (wh ..)).1 (e t (wh ..)).2 m g λ x c=>a x (vd _ c)
   ·exact qqx f g (λ t j=>e t (wg _ j)) l λ x c=>a x (xX _ c)
 | [],[],_::_,_,_,h,_=>h.elim
 | [],_::_,_,_,_,h,_=>h.elim
 | _::_,[],_,_,_,h,_=>h.elim
 | _::_,_::_,[],_,_,h,_=>h.elim
theorem qJy{f:Func}{s:ChangeSpec}{b g a:Bool}{W A:World}{d:Array Value}{ds k:List (DataW H)}{c:List MemPlace}{ts:List TypeId}{T:TypeId}
  (E:laidOutB P=true) (m:f.params.toList=ts) (C:ts.all (λ t=>P.readableRec t&&decide (t<P.types.size))=true) (u:s.vars=[])
  (n:f.resultTypes = #[T]) (G:P.underlying T=some .bool)
  (y:DataW.Whole enc P f.params.toList s.vars b W d.toList ds k c)
  (i:(s.fn H (ds++k)).results=[.lit (.bool true)]) (e:(s.fn H (ds++k)).args=ds) (l:(s.fn H (ds++k)).vars=[])
  (w:Below W.heap.size W A):s.post enc P f b g a false W d (.bool true) A:=by
 have j:=y;have o := λ x B=>j.lt x B;obtain⟨p,q,I,z,rfl,F,D⟩:=y;rw[u]at z;have r:k=[]/\q=[]:=trodVars_none z;obtain⟨rfl,rfl⟩:=r;rw[wB]at *;refine⟨ds,[],p,[],p,[],?_,?_,?_,?_,?_,λ h=>by cases h⟩
 ·exact j
 ·rw[n,wB,i];exact trodAll_mk1 (shut_bool G _)
 ·rw[wB,e];refine qqx E w (ts:=f.params.toList) ?_ I o;intro t v;rw[m]at v;have:=wv.1 C t v;simpa using this
 ·rw[wB,l,u];rfl
 ·exact w.frame _
end
end Go.GxZ
namespace Go.Proofs.YtckmkimhkhilgaaGreat
theorem Tryz.own:ownKnob Tryz.prog.godebug=none:=by kernel_rfl
theorem Tryz.laidOut:laidOutB Tryz.prog=true:=by kernel_rfl
end Go.Proofs.YtckmkimhkhilgaaGreat
namespace Go.AmZ
open Go Go.GxZ Go.RowKit
theorem qzg:∀(τ : Ty) (v:Val τ),QV τ (yO τ v)=some v:=by
 intro τ v;have h:=Qj τ v;cases τ <;> exact h
def qDs:List ATy->Bool
 | []=>true
 | .val _::r=>qDs r
 | .fn::_=>false
theorem qr5:∀(ts:List ATy) (a:qbQ ts),qDs ts=true->qdV ts (Qo ts a [])=some a/\qfT (Qo ts a [])=[]
 | [],_,_=>⟨rfl,rfl⟩
 | .val τ :: r,a,h=>by
   obtain⟨d,c⟩:=qr5 r a.2 h;constructor
   ·show qnU (QV τ) (qdV r) (yO τ a.1::Qo r a.2 [])=_;simp only[qnU,qzg,d]
   ·show qfT (yO τ a.1::Qo r a.2 [])=[];have:=(qcU (qzg τ a.1)).2;cases b:yO τ a.1<;>first | exact c | exact absurd b (this _ _)
 | .fn::_,_,h=>by cases h
theorem law_calls{P:Program}{f:FuncId}{c:TC}(o:qY P f (JG (jz c f))){ts:List ATy}{fn:qbQ ts->Option (qeN [.bool])}(q:c.pf f []=some ⟨ts,[.bool],fn⟩)(m:qDs ts=true){a:qbQ ts}(h:fn a=some true)
  {W:World} {d:List Value} (k:RepL (ghW W) (Qo ts a []) d):Calls P f d.toArray W λ e w'=>e = .returned (.bool true)/\Below W.heap.size W w':=by
 obtain⟨u,t⟩:=qr5 ts a m
 have n:jz c f (Qo ts a [])=some (.v (.bool true)):=by
  unfold jz;rw[t,q];simp only;rw[u];simp only;rw[h];rfl
 have l:JG (jz c f) emp (Qo ts a [])=some (.v (.bool true),none):=by
  show(match jz c f (Qo ts a [])with | some v=>some (v,none) | none=>none)=_;rw[n]
 have:=o.2 (ghW W) emp W (Qo ts a []) d _ (qM1 W) k l;refine Calls.mono this ?_;rintro e w' ⟨v,Γ',rfl,g,_,j,_⟩;have h:=zk j;subst h;refine⟨rfl,g.os,g.tape,g.output,g.size,λ b s=>g.block b s ?_⟩;rintro(⟨i,p,_⟩ | ⟨r,k,_⟩)
 ·exact absurd p (wL _)
 ·exact absurd k (wL _)
theorem qBv{Γ : Gh}{τ : Ty}{x:Val τ}{v:Value}(h:RepL Γ (qi τ x) v.cells.toList)(l:∀ u∈v.cells.toList,u.oneCell'=true)(j : τ.agg=true -> τ.size≠1)(e : τ.agg=false->∀ cs,v ≠ .agg cs):Rep Γ (yO τ x) v:=by
 have c:=h.len;rw[jy]at c
 have agg:yO τ x = .agg (qi τ x) -> τ.agg=true->Rep Γ (yO τ x) v:=by
  intro f g;rw[f];have d:=j g;cases v with
  | agg cs=>exact .agg _ _ h.len l h.rep
  | _=>exact absurd (show τ.size=1 by rw[<- c];rfl) d
 have one:∀{y:AV},qi τ x=[y]->yO τ x=y -> τ.agg=false->Rep Γ (yO τ x) v:=by
  intro y f i g
  have k:v.cells = #[v]:=by
   cases v with
   | agg cs=>exact absurd rfl (e g cs)
   | _=>rfl
  rw[f,k]at h;rw[i];exact h.rep 0 y v rfl rfl
 cases τ with
 | term=>exact agg rfl rfl
 | pair a b=>exact agg rfl rfl
 | one a=>exact agg rfl rfl
 | _=>exact one rfl rfl rfl
open Go.ChangeShapes Go.WideShapes Go.ChangeAt Go.WideMaps Go.WideElems
theorem qMC{P:Program}{n:Nat}{τ : Ty}{t:TypeId}{W:World}{zq:Nat}{v:Value}(b:tyM P n τ t=true)(d:Value.okWide P W .any zq t v) : τ.agg=false->∀ cs,v ≠ .agg cs:=by
 intro f cs;cases n with
 | zero=>cases τ <;> simp[tyM]at b
 | succ n =>
 cases τ with
 | int k =>
   simp only[tyM]at b;split at b
   ·rename_i c;obtain⟨_,rfl⟩:=okWide_int c d;intro h;cases h
   ·cases b
 | bool =>
   simp only[tyM]at b;split at b
   ·rename_i c;obtain⟨_,rfl⟩:=okWide_bool c d;intro h;cases h
   ·cases b
 | str =>
   simp only[tyM]at b;split at b
   ·rename_i c;obtain⟨_,rfl⟩:=okWide_string c d;intro h;cases h
   ·cases b
 | list a =>
   simp only[tyM]at b;split at b
   ·rename_i e c;obtain⟨_,_,_,rfl⟩:=okWide_slice c d;intro h;cases h
   ·cases b
 | _=>cases f
theorem arg_val{H:Type}{enc:TypeId × Value->H}{P:Program}{W:World}{n:Nat}{τ : Ty}{t:TypeId}{v:Value}{d:DataW H}{ps:List MemPlace}{zq:Nat}(b:tyM P n τ t=true)(f : τ.agg=true -> τ.size≠1)(e:Value.okWide P W .any zq t v)
  (h:DataW.Trod enc P W 0 (λ _=>true) true t v d ps) (c:∀ k∈d.weights P t,k<=reachBytes):∃ x:Val τ,Rep (ghW W) (yO τ x) v/\qlK τ x:=by
 obtain⟨a,g⟩:=h;obtain⟨x,l,j,i⟩:=qLE a n τ t v.cells.toList (d,ps) b g c;exact⟨x,qBv l j f (qMC b e),i⟩
end Go.AmZ
