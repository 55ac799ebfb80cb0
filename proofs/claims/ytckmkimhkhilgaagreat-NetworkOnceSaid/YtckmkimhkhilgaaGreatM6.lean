/- Part 6 of what the proofs stand on: plain functions of the program, and that they are its functions. -/
import Derived.Test.YtckmkimhkhilgaaGreatM5
import Derived.KernelRfl
import Derived.Shelf.SlSortCmp.NoneTotal
import Derived.Test.YtckmkimhkhilgaaGreatProg
import Derived.Test.YtckmkimhkhilgaaGreatM2
import Derived.Test.YtckmkimhkhilgaaGreatM4
import Derived.Test.YtckmkimhkhilgaaGreatM3
import Derived.Deep.RegionLaw
import Derived.Handy
import Derived.Test.YtckmkimhkhilgaaGreatM1
import Derived.ProofKit
import Derived.Test.YtckmkimhkhilgaaGreatRows
set_option linter.unusedVariables false
set_option linter.unusedSimpArgs false
noncomputable section
namespace Go.AmZ
open Go Go.GxZ
set_option linter.unusedVariables false
set_option maxRecDepth 100000
theorem qw9:okS tb i12 := λ m a=>by kernel_rfl
theorem qmm:okS tb i32 := λ m a=>by kernel_rfl
theorem qA7:okP tb [] qOb := λ m a=>by kernel_rfl
def qoV(m k x0 x1 x2):=tb.PL qLs 4 m k [(0,.s x0),(38,vI x1),(39,vI x2)] ⟨[],[]⟩
theorem qvV(m k):QE m k=qoV m k:=qM (M:=qoV m) rfl (λ _=>by kernel_rfl) k
theorem qxh:okP tb [] qLs := λ m a=>(congrArg (λ L=>qfb m L a.1) (qvV m m)).trans (by kernel_rfl)
def qqm(m k x0 x1 x2 x3 x4 x5):=tb.QL i88 17 m k [(1,vI x0),(2,.ptr 0 0),(3,.ptr 1 0),(57,vT x1),(58,vI x2),(59,vI x3)] ⟨[[vI x4],[vI x5]],[]⟩
theorem qx8(m k):jJ m (yf m) k=qqm m k:=qM (M:=qqm m) rfl (λ _=>by kernel_rfl) k
theorem qzZ:okS tb i88 := λ m a=>(congrArg (λ L=>qgr m (yf m) L a.1 a.2.1 a.2.2.1 a.2.2.2.1) (qx8 m m)).trans (by kernel_rfl)
theorem qz6:okP tb [] i64 := λ m a=>by kernel_rfl
def qlF(m k x0 x1 x2 x3 x4 x5 x6 x7):=tb.PL i75 2 m k [(0,.s x0),(2,.ptr 0 0),(5,.sl y5 x1 1),(6,vI x2),(7,vI x3)] ⟨[[.s x4,vI x5,vI x6,vI x7]],[]⟩
theorem qsW(m k):Je m k=qlF m k:=qM (M:=qlF m) rfl (λ _=>by kernel_rfl) k
theorem qt6:okP tb [] i75 := λ m a=>(congrArg (λ L=>qdj m L a.1) (qsW m m)).trans (by kernel_rfl)
def qnd(m k x0 x1 x2 x3 x4 x5 x6):=tb.PL i69 13 m k [(1,.ptr 0 0),(38,vT x0),(39,vI x1),(40,vI x2)] ⟨[[vI x3,.s x4,vI x5,vT x6]],[]⟩
def qm4(m k x0 x1 x2):=tb.PL i69 22 m k [(62,vT x0),(63,vI x1),(64,vI x2)] ⟨[],[]⟩
theorem qtC(m k):qV m (qD m) k=(qnd m k,qm4 m k):=qM (M := λ k=>(qnd m k,qm4 m k)) rfl (λ _=>by kernel_rfl) k
theorem qvC:okP tb [] i69 := λ m a=>(congrArg (a₁ := qV m (qD m) m) (λ L=>qez m (qD m) L.1 L.2 a.1) (qtC m m)).trans (by kernel_rfl)
theorem qwj:okP tb [] i53 := λ m a=>by kernel_rfl
theorem qmF:okS tb i92 := λ m a=>by kernel_rfl
def qio(m k x0 x1 x2 x3 x4):=tb.QL i91 3 m k [(1,.fn 92 [.ptr 0 0,.ptr 1 0]),(10,vT x0),(11,vI x1),(12,vI x2)] ⟨[[vI x3],[.row 0 0]],[⟨.term,x4,0,0,false⟩]⟩
theorem qqi(m k):Qa m (zK m) k=qio m k:=qM (M:=qio m) rfl (λ _=>by kernel_rfl) k
theorem qqG:okS tb i91 := λ m a=>(congrArg (λ L=>qbw m (zK m) L a.1 a.2.1 a.2.2.1) (qqi m m)).trans (by kernel_rfl)
theorem qBI:okP tb [] qOX := λ m a=>by kernel_rfl
def qsd(m k x0 x1 x2 x3):=tb.PL qJ8 3 m k [(3,vI x0),(7,vT x1),(8,vI x2),(9,vI x3)] ⟨[],[]⟩
theorem qzK(m k):qck m (Qk m) k=qsd m k:=qM (M:=qsd m) rfl (λ _=>by kernel_rfl) k
theorem qBC:okP tb [] qJ8 := λ m a=>(congrArg (λ L=>qhJ m (Qk m) L a.1) (qzK m m)).trans (by kernel_rfl)
def qmS(m k x0 x1 x2 x3 x4 x5 x6 x7 x8 x9):=tb.PL i95 11 m k [(2,.ptr 0 0),(3,.ptr 1 0),(5,vI x0),(6,vI x1)] ⟨[[vI x2,.s x3,vI x4,vT x5],[vI x6,.s x7,vI x8,vT x9]],[]⟩
theorem qtS(m k):Qd m (qA m) k=qmS m k:=qM (M:=qmS m) rfl (λ _=>by kernel_rfl) k
theorem qu9:okP tb [] i95 := λ m a=>(congrArg (λ L=>qes m (qA m) L a.1 a.2.1) (qtS m m)).trans (by kernel_rfl)
theorem qs2:okP tb [] qOv := λ m a=>by kernel_rfl
def qqk(m k x0 x1 x2 x3 x4 x5 x6 x7 x8 x9 x10):=tb.PL qJZ 4 m k [(1,.ptr 0 0),(2,.ptr 1 0),(9,vT x0),(10,vI x1),(11,vI x2)] ⟨[[vI x3,.s x4,vI x5,.row 0 0],[vI x6,.s x7,vI x8,.row 1 0]],[⟨.term,x9,0,0,false⟩,⟨.term,x10,0,0,false⟩]⟩
theorem qxY(m k):qbd m (jz m) k=qqk m k:=qM (M:=qqk m) rfl (λ _=>by kernel_rfl) k
theorem qz1:okP tb [] qJZ := λ m a=>(congrArg (λ L=>qgy m (jz m) L a.1) (qxY m m)).trans (by kernel_rfl)
def qns(m k x0 x1 x2):=tb.QL i93 4 m k [(0,.row 0 0),(9,vI x0),(10,vI x1)] ⟨[],[⟨.term,x2,0,0,false⟩]⟩
theorem qt9(m k):J2 m k=qns m k:=qM (M:=qns m) rfl (λ _=>by kernel_rfl) k
theorem qv2:okS tb i93 := λ m a=>(congrArg (λ L=>qeC m L a.1) (qt9 m m)).trans (by kernel_rfl)
theorem qx2:okP tb [] i70 := λ m a=>by kernel_rfl
theorem qCi:okP tb [] i54 := λ m a=>by kernel_rfl
theorem qxt:okP tb [] i72 := λ m a=>by kernel_rfl
theorem qDb:okP tb [] qOR := λ m a=>by kernel_rfl
theorem qta:okP tb [] qOq := λ m a=>by kernel_rfl
def qaG(m k x0 x1 x2 x3 x4):=tb.PL qGc 3 m k [(0,.sl y7 x0 1),(3,vI x1),(9,.sl y7 x2 1),(10,vI x3),(11,vI x4)] ⟨[],[]⟩
def qaE(m k x0 x1 x2 x3):=tb.PL qGc 11 m k [(6,.row 0 0),(25,.sl y7 x0 1),(26,vI x1),(27,vI x2)] ⟨[],[⟨.term,x3,0,0,false⟩]⟩
theorem qfm(m k):qn m k=(qaG m k,qaE m k):=qM (M := λ k=>(qaG m k,qaE m k)) rfl (λ _=>by kernel_rfl) k
theorem qf3:okP tb [] qGc := λ m a=>(congrArg (a₁ := qn m m) (λ L=>jb m L.1 L.2 a.1) (qfm m m)).trans (by kernel_rfl)
def qrz(m k x0 x1 x2):=tb.PL qLC 4 m k [(14,vT x0),(15,vI x1),(16,vI x2)] ⟨[],[]⟩
theorem qAw(m k):qcd m k=qrz m k:=qM (M:=qrz m) rfl (λ _=>by kernel_rfl) k
theorem qBH:okP tb [] qLC := λ m a=>(congrArg (λ L=>qhT m L a.1 a.2.1) (qAw m m)).trans (by kernel_rfl)
def qtf(m k x0 x1 x2):=tb.PL qJz 2 m k [(0,vT x0),(1,vT x1),(5,.row 0 0)] ⟨[],[⟨.term,x2,0,0,false⟩]⟩
theorem qCh(m k):qdf m k=qtf m k:=qM (M:=qtf m) rfl (λ _=>by kernel_rfl) k
theorem qEn:okP tb [] qJz := λ m a=>(congrArg (λ L=>qi4 m L a.1 a.2.1) (qCh m m)).trans (by kernel_rfl)
def qm6(m k x0 x1 x2 x3):=tb.PL qKQ 6 m k [(3,vT x0),(31,vT x1),(32,vI x2),(33,vI x3)] ⟨[],[]⟩
theorem quq(m k):QR m (yF m) k=qm6 m k:=qM (M:=qm6 m) rfl (λ _=>by kernel_rfl) k
theorem qvk:okP tb [] qKQ := λ m a=>(congrArg (λ L=>qep m (yF m) L a.1) (quq m m)).trans (by kernel_rfl)
def qnz(m k x0 x1 x2 x3 x4 x5 x6 x7 x8 x9 x10 x11 x12 x13 x14):=tb.PL qK8 4 m k [(5,.ptr 0 0),(6,.ptr 1 0),(8,.ptr 2 0),(9,.ptr 2 0),(14,.sl y2 x0 1),(15,vI x1),(16,vI x2)] ⟨[[vI x3,.s x4,vI x5,vT x6],[vI x7,.s x8,vI x9,.row 0 0],[vI x10,.s x11,vI x12,vT x13]],[⟨.term,x14,0,0,false⟩]⟩
theorem quu(m k):qa0 m k=qnz m k:=qM (M:=qnz m) rfl (λ _=>by kernel_rfl) k
theorem qv0:okP tb [] qK8 := λ m a=>(congrArg (λ L=>qeq m L a.1 a.2.1 a.2.2.1) (quu m m)).trans (by kernel_rfl)
def qvz(m k x0 x1 x2 x3):=tb.PL qKO 3 m k [(3,.row 0 0),(9,vT x0),(10,vI x1),(11,vI x2)] ⟨[],[⟨.term,x3,0,0,false⟩]⟩
theorem qDR(m k):qe4 m (qao m) k=qvz m k:=qM (M:=qvz m) rfl (λ _=>by kernel_rfl) k
theorem qFY:okP tb [] qKO := λ m a=>(congrArg (λ L=>qkG m (qao m) L a.1) (qDR m m)).trans (by kernel_rfl)
def qvN(m k x0 x1 x2 x3 x4 x5 x6 x7):=tb.PL qLu 6 m k [(2,.ptr 0 0),(5,vT x0),(15,vT x1),(16,vI x2),(17,vI x3)] ⟨[[vI x4,.s x5,vI x6,.row 0 0]],[⟨.term,x7,0,0,true⟩]⟩
theorem qD5(m k):qeH m k=qvN m k:=qM (M:=qvN m) rfl (λ _=>by kernel_rfl) k
theorem qGH:okP tb [] qLu := λ m a=>(congrArg (λ L=>qkT m L a.1) (qD5 m m)).trans (by kernel_rfl)
theorem qse:okP tb [] qO1 := λ m a=>by kernel_rfl
def qkh(m k x0 x1 x2 x3 x4 x5 x6 x7 x8 x9):=tb.PL qLO 3 m k [(1,.ptr 0 0),(2,.ptr 1 0),(10,.row 0 0),(11,vI x0),(12,vI x1)] ⟨[[vI x2,.s x3,vI x4,.row 0 0],[vI x5,.s x6,vI x7,.row 1 0]],[⟨.term,x8,0,0,false⟩,⟨.term,x9,0,0,false⟩]⟩
theorem qq7(m k):QJ m (zw m) k=qkh m k:=qM (M:=qkh m) rfl (λ _=>by kernel_rfl) k
theorem qs5:okP tb [] qLO := λ m a=>(congrArg (λ L=>qcD m (zw m) L a.1) (qq7 m m)).trans (by kernel_rfl)
theorem qqg:okP tb [] qOF := λ m a=>by kernel_rfl
def yu(m k x0 x1 x2 x3 x4 x5 x6 x7):=tb.PL qJT 3 m k [(0,.sl y3 x0 1),(2,.fn 186 []),(4,.ptr 0 0),(8,vI x1),(9,vI x2),(10,vI x3)] ⟨[[vI x4,.s x5,vI x6,vT x7]],[]⟩
theorem QO(m k):qs m k=yu m k:=qM (M:=yu m) rfl (λ _=>by kernel_rfl) k
theorem Q6:okP tb [186] qJT := λ m a=>(congrArg (λ L=>qE m L a.1 a.2.1) (QO m m)).trans (by kernel_rfl)
theorem qrY:okS tb qNJ := λ m a=>by kernel_rfl
def qin(m k x0 x1 x2 x3 x4):=tb.QL qKa 12 m k [(0,.row 0 0),(2,vI x0),(52,vT x1),(53,vI x2),(54,vI x3)] ⟨[],[⟨y3,x4,0,0,false⟩]⟩
theorem qpZ(m k):js m (zr m) k=qin m k:=qM (M:=qin m) rfl (λ _=>by kernel_rfl) k
theorem qqL:okS tb qKa := λ m a=>(congrArg (λ L=>qbv m (zr m) L a.1 a.2.1 a.2.2.1) (qpZ m m)).trans (by kernel_rfl)
theorem qxc:okP tb [] qOw := λ m a=>by kernel_rfl
def qke(m k x0 x1 x2 x3):=tb.PL qKK 4 m k [(0,.sl y3 x0 1),(9,.sl y3 x1 1),(10,vI x2),(11,vI x3)] ⟨[],[]⟩
theorem qrt(m k):jZ m k=qke m k:=qM (M:=qke m) rfl (λ _=>by kernel_rfl) k
theorem qs0:okP tb [] qKK := λ m a=>(congrArg (λ L=>qcA m L a.1) (qrt m m)).trans (by kernel_rfl)
theorem qu0:okP tb [] qOI := λ m a=>by kernel_rfl
def qlZ(m k x0 x1 x2 x3 x4 x5 x6 x7 x8):=tb.PL qCj 6 m k [(2,.ptr 0 0),(5,.row 1 0),(6,.row 2 0),(18,.sl y3 x0 1),(19,vI x1),(20,vI x2)] ⟨[[vI x3,.s x4,vI x5,.row 0 0]],[⟨.term,x6,0,0,false⟩,⟨.term,x7,0,0,false⟩,⟨.term,x8,0,0,false⟩]⟩
def qlf(m k x0 x1 x2 x3 x4 x5 x6 x7 x8 x9 x10 x11 x12 x13 x14 x15):=tb.PL qCj 11 m k [(2,.ptr 0 0),(5,.row 1 0),(6,.row 2 0),(8,.ptr 1 0),(18,.sl y3 x0 1),(19,vI x1),(20,vI x2),(34,vI x3),(35,vI x4)] ⟨[[vI x5,.s x6,vI x7,.row 0 0],[vI x8,.s x9,vI x10,vT x11,vI x12]],[⟨.term,x13,0,0,false⟩,⟨.term,x14,0,0,false⟩,⟨.term,x15,0,0,false⟩]⟩
def qlg(m k x0 x1 x2 x3 x4 x5 x6 x7 x8 x9 x10 x11 x12 x13 x14 x15):=tb.PL qCj 15 m k [(2,.ptr 0 0),(5,.row 1 0),(6,.row 2 0),(8,.ptr 1 0),(18,.sl y3 x0 1),(19,vI x1),(20,vI x2),(46,vI x3),(47,vI x4)] ⟨[[vI x5,.s x6,vI x7,.row 0 0],[vI x8,.s x9,vI x10,vT x11,vI x12]],[⟨.term,x13,0,0,false⟩,⟨.term,x14,0,0,false⟩,⟨.term,x15,0,0,false⟩]⟩
theorem qte(m k):qz m k=(qlZ m k,qlf m k,qlg m k):=qM (M := λ k=>(qlZ m k,qlf m k,qlg m k)) rfl (λ _=>by kernel_rfl) k
theorem qug:okP tb [] qCj := λ m a=>(congrArg (a₁ := qz m m) (λ L=>qdo m L.1 L.2.1 L.2.2 a.1) (qte m m)).trans (by kernel_rfl)
def qjz(m k x0 x1 x2 x3):=tb.QL qLt 3 m k [(3,.row 0 0),(6,.sl y3 x0 1),(7,vI x1),(8,vI x2)] ⟨[],[⟨y3,x3,0,0,false⟩]⟩
theorem qqO(m k):Qj m k=qjz m k:=qM (M:=qjz m) rfl (λ _=>by kernel_rfl) k
theorem qqT:okS tb qLt := λ m a=>(congrArg (λ L=>qb8 m L a.1) (qqO m m)).trans (by kernel_rfl)
theorem qpK:okP tb [] qNV := λ m a=>by kernel_rfl
def Qf(m k x0 x1 x2):=tb.PL qLT 2 m k [(0,.sl y3 x0 1),(1,.fn 190 []),(7,vI x1),(8,vI x2)] ⟨[],[]⟩
theorem qbA(m k):qB m k=Qf m k:=qM (M:=Qf m) rfl (λ _=>by kernel_rfl) k
theorem qbF:okP tb [190] qLT := λ m a=>(congrArg (λ L=>zG m L a.1) (qbA m m)).trans (by kernel_rfl)
theorem qa1:okP tb [190] qO7 := λ m a=>by kernel_rfl
theorem qrw:okP tb [] qNT := λ m a=>by kernel_rfl
def qm1(m k x0 x1 x2 x3):=tb.PL qKI 9 m k [(8,.row 0 0),(23,.sl y3 x0 1),(24,vI x1),(25,vI x2)] ⟨[],[⟨y3,x3,0,0,false⟩]⟩
theorem quW(m k):JX m k=qm1 m k:=qM (M:=qm1 m) rfl (λ _=>by kernel_rfl) k
theorem qwX:okP tb [] qKI := λ m a=>(congrArg (λ L=>qek m L a.1 a.2.1) (quW m m)).trans (by kernel_rfl)
theorem qz0:okP tb [] qN5 := λ m a=>by kernel_rfl
theorem qvS:okP tb [] qO0 := λ m a=>by kernel_rfl
def qlo(m k x0 x1 x2 x3 x4 x5 x6 x7 x8 x9 x10 x11 x12 x13 x14):=tb.PL i94 5 m k [(1,.ptr 0 0),(2,.ptr 1 0),(4,.ptr 2 0),(19,vT x0),(20,vI x1),(21,vI x2)] ⟨[[vI x3,.s x4,vI x5,vT x6],[vI x7,.s x8,vI x9,.row 0 0],[vI x10,.s x11,vI x12,.row 1 0]],[⟨.term,x13,0,0,false⟩,⟨.term,x14,0,0,false⟩]⟩
theorem qtb(m k):Jl m (yD m) k=qlo m k:=qM (M:=qlo m) rfl (λ _=>by kernel_rfl) k
theorem qt5:okP tb [] i94 := λ m a=>(congrArg (λ L=>qdt m (yD m) L a.1) (qtb m m)).trans (by kernel_rfl)
theorem quw:okP tb [] i71 := λ m a=>by kernel_rfl
theorem qs3:okP tb [] i74 := λ m a=>by kernel_rfl
def qg5(m k x0 x1 x2):=tb.PL i73 4 m k [(1,.fn 74 []),(18,vT x0),(19,vI x1),(20,vI x2)] ⟨[],[]⟩
theorem qn8(m k):yI m (zc m) k=qg5 m k:=qM (M:=qg5 m) rfl (λ _=>by kernel_rfl) k
theorem qou:okP tb [74] i73 := λ m a=>(congrArg (λ L=>qar m (zc m) L a.1) (qn8 m m)).trans (by kernel_rfl)
theorem qvP:okP tb [] i55 := λ m a=>by kernel_rfl
theorem qle:okS tb i78 := λ m a=>by kernel_rfl
def yS(m k x0 x1 x2 x3 x4 x5 x6):=tb.QL i76 2 m k [(0,.sl y9 x0 1),(1,.fn 78 [.ptr 0 0]),(7,vI x1),(8,vI x2)] ⟨[[vI x3,.s x4,vI x5,vT x6]],[]⟩
theorem Jt(m k):qu m k=yS m k:=qM (M:=yS m) rfl (λ _=>by kernel_rfl) k
theorem JA:okS tb i76 := λ m a=>(congrArg (λ L=>qP m L a.1 a.2.1) (Jt m m)).trans (by kernel_rfl)
theorem qqN:okP tb [] i77 := λ m a=>by kernel_rfl
theorem qj5:okP tb [] i79 := λ m a=>by kernel_rfl
def qkc(m k x0 x1 x2 x3):=tb.QL i56 8 m k [(0,.row 0 0),(46,vT x0),(47,vI x1),(48,vI x2)] ⟨[],[⟨y13,x3,0,0,false⟩]⟩
theorem qqZ(m k):jX m (zX m) k=qkc m k:=qM (M:=qkc m) rfl (λ _=>by kernel_rfl) k
theorem qtc:okS tb i56 := λ m a=>(congrArg (λ L=>qcK m (zX m) L a.1 a.2.1) (qqZ m m)).trans (by kernel_rfl)
theorem qrm:okP tb [] i33 := λ m a=>by kernel_rfl
theorem qnH:okS tb i34 := λ m a=>by kernel_rfl
def qqz(m k x0 x1 x2 x3 x4):=tb.PL i57 3 m k [(0,.s x0),(3,.i .u32 x1),(4,.i .u32 x2),(7,vI x3),(8,vI x4)] ⟨[],[]⟩
theorem qx5(m k):qbf m k=qqz m k:=qM (M:=qqz m) rfl (λ _=>by kernel_rfl) k
theorem qAe:okP tb [] i57 := λ m a=>(congrArg (λ L=>qge m L a.1) (qx5 m m)).trans (by kernel_rfl)
theorem qDk:okP tb [] i35 := λ m a=>by kernel_rfl
theorem qmw:okS tb i13 := λ m a=>by kernel_rfl
theorem qka:okS tb i38 := λ m a=>by kernel_rfl
theorem qms:okS tb i16 := λ m a=>by kernel_rfl
theorem qCC:okP tb [] i39 := λ m a=>by kernel_rfl
theorem qmy:okS tb qPf := λ m a=>by kernel_rfl
def qfR(m k x0 x1 x2 x3 x4 x5):=tb.QL qKF 4 m k [(0,.ptr 0 0),(4,vI x0),(14,vI x1),(15,vI x2)] ⟨[[.s x3,vI x4,.b x5]],[]⟩
theorem qml(m k):yg m k=qfR m k:=qM (M:=qfR m) rfl (λ _=>by kernel_rfl) k
theorem qmz:okS tb qKF := λ m a=>(congrArg (λ L=>JM m L a.1) (qml m m)).trans (by kernel_rfl)
theorem qmB:okS tb i87 := λ m a=>by kernel_rfl
theorem qqY:okP tb [] i40 := λ m a=>by kernel_rfl
theorem qj3:okS tb i17 := λ m a=>by kernel_rfl
theorem qvp:okP tb [] i65 := λ m a=>by kernel_rfl
def qqy(m k x0 x1 x2 x3 x4 x5):=tb.PL i66 3 m k [(1,.ptr 0 0),(3,vI x0),(4,vI x1)] ⟨[[vI x2,.s x3,vI x4,vT x5]],[]⟩
theorem qxN(m k):qa9 m (yW m) k=qqy m k:=qM (M:=qqy m) rfl (λ _=>by kernel_rfl) k
theorem qzN:okP tb [] i66 := λ m a=>(congrArg (λ L=>qgt m (yW m) L a.1) (qxN m m)).trans (by kernel_rfl)
def qlB(m k x0 x1 x2 x3 x4 x5 x6 x7 x8):=tb.PL i41 18 m k [(2,.ptr 0 0),(3,.ptr 1 0),(9,vI x0)] ⟨[[vI x1,.s x2,vI x3,vT x4],[vI x5,.s x6,vI x7,vT x8]],[]⟩
theorem qs8(m k):Jg m (zN m) k=qlB m k:=qM (M:=qlB m) rfl (λ _=>by kernel_rfl) k
theorem qtF:okP tb [] i41 := λ m a=>(congrArg (λ L=>qdC m (zN m) L a.1 a.2.1) (qs8 m m)).trans (by kernel_rfl)
theorem qAl:okP tb [] i18 := λ m a=>by kernel_rfl
theorem qkZ:okS tb i28 := λ m a=>by kernel_rfl
theorem qAy:okP tb [] i52 := λ m a=>by kernel_rfl
theorem qyd:okP tb [] i31 := λ m a=>by kernel_rfl
theorem qxi:okP tb [] i10 := λ m a=>by kernel_rfl
def qnl(m k x0 x1 x2 x3 x4 x5):=tb.PL i42 5 m k [(1,vI x0),(2,.ptr 0 0),(5,vI x1)] ⟨[[vI x2,.s x3,vI x4,vT x5]],[]⟩
theorem qt4(m k):J3 m (je m) k=qnl m k:=qM (M:=qnl m) rfl (λ _=>by kernel_rfl) k
theorem qu4:okP tb [] i42 := λ m a=>(congrArg (λ L=>qex m (je m) L a.1 a.2.1) (qt4 m m)).trans (by kernel_rfl)
def qrC(m k x0 x1 x2):=tb.PL i19 4 m k [(0,vT x0),(2,vI x1),(7,vI x2)] ⟨[],[]⟩
theorem qAk(m k):qcs m k=qrC m k:=qM (M:=qrC m) rfl (λ _=>by kernel_rfl) k
theorem qBo:okP tb [] i19 := λ m a=>(congrArg (λ L=>qhC m L a.1 a.2.1 a.2.2.1) (qAk m m)).trans (by kernel_rfl)
def qq6(m k x0 x1 x2):=tb.PL i21 3 m k [(0,.sl y6 x0 1),(3,.row 0 0),(4,vI x1)] ⟨[],[⟨.term,x2,0,0,false⟩]⟩
theorem qAo(m k):qcg m k=qq6 m k:=qM (M:=qq6 m) rfl (λ _=>by kernel_rfl) k
theorem qC5:okP tb [] i21 := λ m a=>(congrArg (λ L=>qh3 m L a.1) (qAo m m)).trans (by kernel_rfl)
theorem qBT:okS tb i22 := λ m a=>by kernel_rfl
theorem ql4:okS tb i15 := λ m a=>by kernel_rfl
def qoJ(m k x0 x1 x2 x3 x4 x5):=tb.PL i68 3 m k [(1,.ptr 0 0),(3,vI x0),(4,vI x1)] ⟨[[vI x2,.s x3,vI x4,vT x5]],[]⟩
theorem qvo(m k):qau m (jk m) k=qoJ m k:=qM (M:=qoJ m) rfl (λ _=>by kernel_rfl) k
theorem qyv:okP tb [] i68 := λ m a=>(congrArg (λ L=>qfs m (jk m) L a.1) (qvo m m)).trans (by kernel_rfl)
theorem qvt:okP tb [] qOZ := λ m a=>by kernel_rfl
theorem qyl:okP tb [] qOl := λ m a=>by kernel_rfl
def qmJ(m k x0 x1):=tb.PL qJG 4 m k [(0,.s x0),(3,vI x1)] ⟨[],[]⟩
theorem qtY(m k):JU m k=qmJ m k:=qM (M:=qmJ m) rfl (λ _=>by kernel_rfl) k
theorem qwP:okP tb [] qJG := λ m a=>(congrArg (λ L=>qet m L a.1) (qtY m m)).trans (by kernel_rfl)
theorem qAD:okP tb [] qNE := λ m a=>by kernel_rfl
def qol(m k x0 x1 x2 x3 x4):=tb.PL i97 5 m k [(1,.ptr 0 0),(4,vI x0)] ⟨[[vI x1,.s x2,vI x3,vT x4]],[]⟩
theorem qv8(m k):qaw m (jM m) k=qol m k:=qM (M:=qol m) rfl (λ _=>by kernel_rfl) k
theorem qxO:okP tb [] i97 := λ m a=>(congrArg (λ L=>qfd m (jM m) L a.1) (qv8 m m)).trans (by kernel_rfl)
theorem qxs:okP tb [] i80 := λ m a=>by kernel_rfl
theorem quM:okP tb [] qNR := λ m a=>by kernel_rfl
def qqx(m k x0 x1 x2):=tb.PL i85 3 m k [(0,.s x0),(3,.sl y5 x1 1),(4,vI x2)] ⟨[],[]⟩
theorem qyb(m k):qbp m k=qqx m k:=qM (M:=qqx m) rfl (λ _=>by kernel_rfl) k
theorem qzM:okP tb [] i85 := λ m a=>(congrArg (λ L=>qgg m L a.1) (qyb m m)).trans (by kernel_rfl)
def qqr(m k x0 x1 x2 x3 x4 x5):=tb.PL i98 3 m k [(1,.ptr 0 0),(3,.sl y5 x0 1),(4,vI x1)] ⟨[[vI x2,.s x3,vI x4,vT x5]],[]⟩
theorem qw8(m k):qbk m k=qqr m k:=qM (M:=qqr m) rfl (λ _=>by kernel_rfl) k
theorem qzW:okP tb [] i98 := λ m a=>(congrArg (λ L=>qgD m L a.1) (qw8 m m)).trans (by kernel_rfl)
def qmM(m k x0 x1 x2 x3 x4):=tb.PL i99 4 m k [(1,.ptr 0 0),(3,vI x0)] ⟨[[vI x1,.s x2,vI x3,vT x4]],[]⟩
theorem quj(m k):JV m k=qmM m k:=qM (M:=qmM m) rfl (λ _=>by kernel_rfl) k
theorem qwy:okP tb [] i99 := λ m a=>(congrArg (λ L=>qer m L a.1) (quj m m)).trans (by kernel_rfl)
def qoF(m k x0 x1 x2 x3 x4):=tb.PL i81 11 m k [(1,.ptr 0 0),(4,vI x0)] ⟨[[vI x1,.s x2,vI x3,vT x4]],[]⟩
theorem qvW(m k):Jy m (jn m) k=qoF m k:=qM (M:=qoF m) rfl (λ _=>by kernel_rfl) k
theorem qym:okP tb [] i81 := λ m a=>(congrArg (λ L=>qfK m (jn m) L a.1) (qvW m m)).trans (by kernel_rfl)
theorem qyi:okP tb [] i58 := λ m a=>by kernel_rfl
def qq8(m k x0 x1 x2 x3 x4 x5):=tb.PL i84 3 m k [(1,.ptr 0 0),(3,.row 0 0),(4,vI x0)] ⟨[[vI x1,.s x2,vI x3,vT x4]],[⟨.term,x5,0,0,true⟩]⟩
theorem qAf(m k):qcr m (Ql m) k=qq8 m k:=qM (M:=qq8 m) rfl (λ _=>by kernel_rfl) k
theorem qB3:okP tb [] i84 := λ m a=>(congrArg (λ L=>qih m (Ql m) L a.1) (qAf m m)).trans (by kernel_rfl)
def qrX(m k x0 x1 x2 x3 x4 x5 x6 x7):=tb.PL qK0 4 m k [(0,vT x0),(3,.ptr 0 0),(5,.row 0 0),(6,.b x1),(7,vI x2)] ⟨[[vI x3,.s x4,vI x5,vT x6]],[⟨.term,x7,0,0,false⟩]⟩
theorem qAE(m k):qco m k=qrX m k:=qM (M:=qrX m) rfl (λ _=>by kernel_rfl) k
theorem qBl:okP tb [] qK0 := λ m a=>(congrArg (λ L=>qhm m L a.1 a.2.1) (qAE m m)).trans (by kernel_rfl)
def qrf(m k x0 x1 x2):=tb.PL qLj 3 m k [(0,vT x0),(3,vT x1),(4,vI x2)] ⟨[],[]⟩
theorem qAC(m k):qcl m k=qrf m k:=qM (M:=qrf m) rfl (λ _=>by kernel_rfl) k
theorem qDs:okP tb [] qLj := λ m a=>(congrArg (λ L=>qh1 m L a.1) (qAC m m)).trans (by kernel_rfl)
def qqv(m k x0 x1 x2 x3):=tb.PL qLf 4 m k [(1,vI x0),(5,.row 0 0),(6,vT x1),(7,vI x2)] ⟨[],[⟨.term,x3,0,0,false⟩]⟩
theorem qxn(m k):qa3 m k=qqv m k:=qM (M:=qqv m) rfl (λ _=>by kernel_rfl) k
theorem qzQ:okP tb [] qLf := λ m a=>(congrArg (λ L=>qgo m L a.1 a.2.1) (qxn m m)).trans (by kernel_rfl)
theorem qAp:okP tb [] i82 := λ m a=>by kernel_rfl
theorem qwS:okP tb [] i59 := λ m a=>by kernel_rfl
theorem qA4:okP tb [] qOp := λ m a=>by kernel_rfl
theorem qD9:okP tb [] qOh := λ m a=>by kernel_rfl
theorem qtV:okP tb [] qNX := λ m a=>by kernel_rfl
def qor(m k x0 x1 x2 x3 x4 x5):=tb.PL qLL 4 m k [(0,vT x0),(3,.ptr 0 0),(5,vI x1)] ⟨[[vI x2,.s x3,vI x4,vT x5]],[]⟩
theorem qvv(m k):qaB m k=qor m k:=qM (M:=qor m) rfl (λ _=>by kernel_rfl) k
theorem qxQ:okP tb [] qLL := λ m a=>(congrArg (λ L=>qfG m L a.1 a.2.1) (qvv m m)).trans (by kernel_rfl)
theorem qz5:okP tb [] qOY := λ m a=>by kernel_rfl
def qrc(m k x0 x1 x2 x3 x4 x5):=tb.PL qJN 2 m k [(0,vT x0),(3,.ptr 0 0),(5,vI x1)] ⟨[[vI x2,.s x3,vI x4,vT x5]],[]⟩
theorem qzS(m k):qcn m k=qrc m k:=qM (M:=qrc m) rfl (λ _=>by kernel_rfl) k
theorem qA6:okP tb [] qJN := λ m a=>(congrArg (λ L=>qho m L a.1 a.2.1) (qzS m m)).trans (by kernel_rfl)
def qmX(m k x0 x1 x2 x3 x4 x5 x6):=tb.PL qKD 5 m k [(0,vT x0),(3,.ptr 0 0),(5,.row 0 0),(6,vI x1)] ⟨[[vI x2,.s x3,vI x4,vT x5]],[⟨.term,x6,0,0,false⟩]⟩
theorem quP(m k):JZ m k=qmX m k:=qM (M:=qmX m) rfl (λ _=>by kernel_rfl) k
theorem qwm:okP tb [] qKD := λ m a=>(congrArg (λ L=>qee m L a.1 a.2.1) (quP m m)).trans (by kernel_rfl)
def qqw(m k x0 x1 x2):=tb.PL qKC 3 m k [(1,vT x0),(5,vT x1),(6,vI x2)] ⟨[],[]⟩
theorem qyq(m k):qai m k=qqw m k:=qM (M:=qqw m) rfl (λ _=>by kernel_rfl) k
theorem qAh:okP tb [] qKC := λ m a=>(congrArg (λ L=>qgx m L a.1 a.2.1) (qyq m m)).trans (by kernel_rfl)
def qkq(m k x0 x1 x2 x3 x4 x5):=tb.PL qKH 7 m k [(1,.ptr 0 0),(3,vT x0),(4,vI x1)] ⟨[[vI x2,.s x3,vI x4,vT x5]],[]⟩
theorem qrV(m k):jV m (z8 m) k=qkq m k:=qM (M:=qkq m) rfl (λ _=>by kernel_rfl) k
theorem qsY:okP tb [] qKH := λ m a=>(congrArg (λ L=>qcz m (z8 m) L a.1) (qrV m m)).trans (by kernel_rfl)
theorem qAd:okP tb [] qO9 := λ m a=>by kernel_rfl
def qqU(m k x0 x1 x2 x3 x4 x5 x6):=tb.PL qLZ 6 m k [(0,vT x0),(2,.ptr 0 0),(5,vT x1),(6,vI x2)] ⟨[[vI x3,.s x4,vI x5,.row 0 0]],[⟨.term,x6,0,0,true⟩]⟩
theorem qzV(m k):qcu m k=qqU m k:=qM (M:=qqU m) rfl (λ _=>by kernel_rfl) k
theorem qBs:okP tb [] qLZ := λ m a=>(congrArg (λ L=>qig m L a.1) (qzV m m)).trans (by kernel_rfl)
theorem quz:okP tb [] qNM := λ m a=>by kernel_rfl
def qoG(m k x0 x1 x2 x3 x4 x5):=tb.PL qLI 7 m k [(1,.ptr 0 0),(3,vI x0),(4,vI x1)] ⟨[[vI x2,.s x3,vI x4,vT x5]],[]⟩
theorem qwi(m k):Jv m (jo m) k=qoG m k:=qM (M:=qoG m) rfl (λ _=>by kernel_rfl) k
theorem qyr:okP tb [] qLI := λ m a=>(congrArg (λ L=>qfv m (jo m) L a.1) (qwi m m)).trans (by kernel_rfl)
def qsh(m k x0 x1 x2 x3 x4 x5 x6 x7 x8):=tb.QL qLU 4 m k [(0,.row 0 0),(2,vI x0),(4,.ptr 0 0),(7,.row 1 0),(8,.b x1),(9,vI x2)] ⟨[[vI x3,.s x4,vI x5,vT x6]],[⟨y3,x7,0,0,false⟩,⟨y3,x8,0,0,false⟩]⟩
theorem qAm(m k):J4 m k=qsh m k:=qM (M:=qsh m) rfl (λ _=>by kernel_rfl) k
theorem qDy:okS tb qLU := λ m a=>(congrArg (λ L=>qh4 m L a.1 a.2.1 a.2.2.1) (qAm m m)).trans (by kernel_rfl)
def qlm(m k x0 x1 x2 x3 x4 x5 x6):=tb.QL qKv 6 m k [(0,.row 0 0),(2,vI x0),(4,.ptr 0 0),(7,vI x1)] ⟨[[vI x2,.s x3,vI x4,vT x5]],[⟨y3,x6,0,0,false⟩]⟩
theorem qsU(m k):Qm m (yk m) k=qlm m k:=qM (M:=qlm m) rfl (λ _=>by kernel_rfl) k
theorem qt0:okS tb qKv := λ m a=>(congrArg (λ L=>qdr m (yk m) L a.1 a.2.1 a.2.2.1) (qsU m m)).trans (by kernel_rfl)
theorem qEb:okP tb [] qOd := λ m a=>by kernel_rfl
def qoR(m k x0 x1):=tb.PL qLS 4 m k [(0,.sl y3 x0 1),(3,vI x1)] ⟨[],[]⟩
theorem qwT(m k):Jx m k=qoR m k:=qM (M:=qoR m) rfl (λ _=>by kernel_rfl) k
theorem qxM:okP tb [] qLS := λ m a=>(congrArg (λ L=>qfH m L a.1) (qwT m m)).trans (by kernel_rfl)
def qkl(m k x0 x1 x2):=tb.PL qxo 3 m k [(0,.sl y3 x0 1),(3,.row 0 0),(4,vI x1)] ⟨[],[⟨.term,x2,0,0,false⟩]⟩
def qkn(m k x0 x1 x2 x3):=tb.PL qxo 6 m k [(0,.sl y3 x0 1),(3,.row 0 0),(4,vI x1),(5,vI x2)] ⟨[],[⟨.term,x3,0,0,false⟩]⟩
def qkg(m k x0 x1 x2):=tb.PL qxo 10 m k [(0,.sl y3 x0 1),(3,.row 0 0),(6,vI x1)] ⟨[],[⟨.term,x2,0,0,false⟩]⟩
def qkm(m k x0 x1 x2 x3):=tb.PL qxo 13 m k [(0,.sl y3 x0 1),(3,.row 0 0),(6,vI x1),(7,vI x2)] ⟨[],[⟨.term,x3,0,0,false⟩]⟩
theorem qsa(m k):ql m k=(qkl m k,qkn m k,qkg m k,qkm m k):=qM (M := λ k=>(qkl m k,qkn m k,qkg m k,qkm m k)) rfl (λ _=>by kernel_rfl) k
theorem qtd:okP tb [] qxo := λ m a=>(congrArg (a₁ := ql m m) (λ L=>qcH m L.1 L.2.1 L.2.2.1 L.2.2.2 a.1) (qsa m m)).trans (by kernel_rfl)
theorem qz4:okP tb [] qPg := λ m a=>by kernel_rfl
theorem qua:okP tb [] qOo := λ m a=>by kernel_rfl
def qlD(m k x0 x1):=tb.PL qKj 2 m k [(0,.sl y3 x0 1),(3,vI x1)] ⟨[],[]⟩
theorem qs4(m k):Jh m k=qlD m k:=qM (M:=qlD m) rfl (λ _=>by kernel_rfl) k
theorem qum:okP tb [] qKj := λ m a=>(congrArg (λ L=>qdq m L a.1) (qs4 m m)).trans (by kernel_rfl)
def qrq(m k x0 x1 x2):=tb.PL qLJ 9 m k [(1,.sl y3 x0 1),(8,.row 0 0),(9,vI x1)] ⟨[],[⟨y3,x2,0,0,false⟩]⟩
theorem qzX(m k):qaY m k=qrq m k:=qM (M:=qrq m) rfl (λ _=>by kernel_rfl) k
theorem qBY:okP tb [] qLJ := λ m a=>(congrArg (λ L=>qif m L a.1 a.2.1) (qzX m m)).trans (by kernel_rfl)
theorem qxD:okP tb [] qPk := λ m a=>by kernel_rfl
def qm2(m k x0 x1 x2 x3 x4 x5 x6 x7 x8 x9):=tb.PL qJu 5 m k [(1,.ptr 0 0),(2,.ptr 1 0),(4,.row 1 0),(5,vI x0)] ⟨[[vI x1,.s x2,vI x3,vT x4],[vI x5,.s x6,vI x7,.row 0 0]],[⟨.term,x8,0,0,false⟩,⟨.term,x9,0,0,false⟩]⟩
theorem quQ(m k):JS m (jg m) k=qm2 m k:=qM (M:=qm2 m) rfl (λ _=>by kernel_rfl) k
theorem qwO:okP tb [] qJu := λ m a=>(congrArg (λ L=>qen m (jg m) L a.1) (quQ m m)).trans (by kernel_rfl)
theorem quZ:okP tb [] i83 := λ m a=>by kernel_rfl
def qoI(m k x0 x1):=tb.PL i60 6 m k [(5,vT x0),(6,vI x1)] ⟨[],[]⟩
theorem qwd(m k):qaz m k=qoI m k:=qM (M:=qoI m) rfl (λ _=>by kernel_rfl) k
theorem qw3:okP tb [] i60 := λ m a=>(congrArg (λ L=>qfO m L a.1) (qwd m m)).trans (by kernel_rfl)
theorem qxI:okP tb [] i36 := λ m a=>by kernel_rfl
theorem qxq:okP tb [] i86 := λ m a=>by kernel_rfl
def qog(m k x0 x1 x2):=tb.PL i61 3 m k [(0,.s x0),(3,.sl .str x1 1),(4,vI x2)] ⟨[],[]⟩
theorem qu6(m k):qaC m k=qog m k:=qM (M:=qog m) rfl (λ _=>by kernel_rfl) k
theorem qxx:okP tb [] i61 := λ m a=>(congrArg (λ L=>qfw m L a.1) (qu6 m m)).trans (by kernel_rfl)
theorem qt2:okP tb [] i62 := λ m a=>by kernel_rfl
def qov(m k x0 x1 x2 x3 x4 x5):=tb.PL i37 7 m k [(1,.ptr 0 0),(3,.s x0),(4,vI x1)] ⟨[[vI x2,.s x3,vI x4,vT x5]],[]⟩
theorem qvi(m k):Jz m (jl m) k=qov m k:=qM (M:=qov m) rfl (λ _=>by kernel_rfl) k
theorem qxZ:okP tb [] i37 := λ m a=>(congrArg (λ L=>qfj m (jl m) L a.1) (qvi m m)).trans (by kernel_rfl)
theorem qvr:okP tb [] i14 := λ m a=>by kernel_rfl
def qof(m k x0 x1 x2 x3):=tb.PL i43 4 m k [(0,.s x0),(3,.i .u32 x1),(4,.i .u32 x2),(5,vI x3)] ⟨[],[]⟩
theorem qvb(m k):qav m k=qof m k:=qM (M:=qof m) rfl (λ _=>by kernel_rfl) k
theorem qxL:okP tb [] i43 := λ m a=>(congrArg (λ L=>qfN m L a.1) (qvb m m)).trans (by kernel_rfl)
theorem qAx:okP tb [] i20 := λ m a=>by kernel_rfl
theorem qoc:okS tb i25 := λ m a=>by kernel_rfl
theorem qmC:okS tb i26 := λ m a=>by kernel_rfl
def qdQ(m k x0 x1 x2 x3 x4 x5):=tb.QL i27 3 m k [(0,.ptr 0 0),(1,vI x0),(5,.row 1 0),(11,.row 0 0),(12,vI x1),(13,vI x2)] ⟨[[vI x3,.row 0 0]],[⟨y1,x4,0,0,false⟩,⟨y2,x5,0,0,false⟩]⟩
theorem qjI(m k):yd m k=qdQ m k:=qM (M:=qdQ m) rfl (λ _=>by kernel_rfl) k
theorem qjO:okS tb i27 := λ m a=>(congrArg (λ L=>QB m L a.1 a.2.1) (qjI m m)).trans (by kernel_rfl)
theorem qoq:okS tb i49 := λ m a=>by kernel_rfl
theorem qmE:okS tb i29 := λ m a=>by kernel_rfl
theorem qAG:okP tb [] i50 := λ m a=>by kernel_rfl
def qqs(m k x0 x1 x2 x3 x4 x5 x6 x7 x8 x9 x10 x11):=tb.PL i89 8 m k [(0,.s x0),(1,vI x1),(4,.ptr 0 0),(7,.ptr 1 0),(8,vI x2),(9,vI x3)] ⟨[[vI x4,.s x5,vI x6,.row 0 0],[vI x7,.s x8,vI x9,.row 1 0]],[⟨.term,x10,0,0,false⟩,⟨.term,x11,0,0,false⟩]⟩
theorem qxV(m k):jG m k=qqs m k:=qM (M:=qqs m) rfl (λ _=>by kernel_rfl) k
theorem qAs:okP tb [] i89 := λ m a=>(congrArg (λ L=>qbK m L a.1 a.2.1) (qxV m m)).trans (by kernel_rfl)
def qqn(m k x0 x1 x2 x3 x4):=tb.PL i90 4 m k [(0,.s x0),(1,vI x1),(2,.s x2),(9,.sl y5 x3 1),(10,vI x4)] ⟨[],[]⟩
theorem qxp(m k):qa5 m k=qqn m k:=qM (M:=qqn m) rfl (λ _=>by kernel_rfl) k
theorem qzR:okP tb [] i90 := λ m a=>(congrArg (λ L=>qgu m L a.1 a.2.1 a.2.2.1) (qxp m m)).trans (by kernel_rfl)
def qql(m k x0 x1 x2 x3 x4 x5 x6 x7 x8 x9 x10 x11):=tb.PL i67 12 m k [(0,.s x0),(4,.ptr 0 0),(7,.ptr 1 0),(8,vI x1),(9,vI x2),(11,vI x3)] ⟨[[vI x4,.s x5,vI x6,.row 0 0],[vI x7,.s x8,vI x9,.row 1 0]],[⟨.term,x10,0,0,false⟩,⟨.term,x11,0,0,false⟩]⟩
theorem qxP(m k):Qu m (qW m) k=qql m k:=qM (M:=qql m) rfl (λ _=>by kernel_rfl) k
theorem qAn:okP tb [] i67 := λ m a=>(congrArg (λ L=>qax m (qW m) L a.1 a.2.1) (qxP m m)).trans (by kernel_rfl)
theorem qvc:okP tb [] i51 := λ m a=>by kernel_rfl
theorem qlL:okS tb i30 := λ m a=>by kernel_rfl
theorem qoY:okS tb i44 := λ m a=>by kernel_rfl
theorem qnV:okS tb i45 := λ m a=>by kernel_rfl
def qfS(m k x0 x1 x2 x3):=tb.PL i46 4 m k [(0,.sl y2 x0 1),(1,.sl y2 x1 1),(12,vI x2),(13,vI x3)] ⟨[],[]⟩
theorem qll(m k):yM m k=qfS m k:=qM (M:=qfS m) rfl (λ _=>by kernel_rfl) k
theorem qmv:okP tb [] i46 := λ m a=>(congrArg (λ L=>JH m L a.1 a.2.1) (qll m m)).trans (by kernel_rfl)
def qe0(m k x0 x1 x2 x3 x4):=tb.QL i47 3 m k [(0,.ptr 0 0),(1,vI x0),(5,.row 1 0),(6,vI x1)] ⟨[[vI x2,.row 0 0]],[⟨y1,x3,0,0,false⟩,⟨y2,x4,0,0,false⟩]⟩
theorem qkQ(m k):yw m k=qe0 m k:=qM (M:=qe0 m) rfl (λ _=>by kernel_rfl) k
theorem qlU:okS tb i47 := λ m a=>(congrArg (λ L=>Jf m L a.1 a.2.1) (qkQ m m)).trans (by kernel_rfl)
theorem qnK:okS tb i48 := λ m a=>by kernel_rfl
theorem qEl:okS tb i23 := λ m a=>by kernel_rfl
def qlt(m k x0 x1 x2 x3 x4 x5 x6):=tb.QL i24 6 m k [(5,.ptr 0 0),(7,.ptr 1 0),(25,.sl y6 x0 1),(26,vI x1),(27,vI x2)] ⟨[[vI x3,.row 0 0],[vI x4,.row 1 0]],[⟨y1,x5,0,0,false⟩,⟨y1,x6,0,0,false⟩]⟩
theorem qs9(m k):Jn m k=qlt m k:=qM (M:=qlt m) rfl (λ _=>by kernel_rfl) k
theorem qtK:okS tb i24 := λ m a=>(congrArg (λ L=>qdv m L a.1) (qs9 m m)).trans (by kernel_rfl)
def qhR(m k x0 x1 x2 x3 x4 x5 x6):=tb.PL i7 8 m k [(1,vI x0),(7,.ptr 0 0),(10,.b x1),(58,.sl .bool x2 1),(59,vI x3),(60,vI x4)] ⟨[[vI x5,.row 0 0]],[⟨y1,x6,0,0,false⟩]⟩
def qhy(m k x0 x1 x2 x3 x4):=tb.PL i7 8 m k [(1,vI x0),(7,.c (Value.pointer none)),(10,.b x1),(58,.sl .bool x2 1),(59,vI x3),(60,vI x4)] ⟨[],[]⟩
theorem qod(m k):qH m k=(qhR m k,qhy m k):=qM (M := λ k=>(qhR m k,qhy m k)) rfl (λ _=>by kernel_rfl) k
theorem qqe:okP tb [] i7 := λ m a=>(congrArg (a₁ := qH m m) (λ L=>qaO m L.1 L.2 a.1 a.2.1 a.2.2.1) (qod m m)).trans (by kernel_rfl)
end Go.AmZ
namespace Go.Proofs
open Go.Shelf
def Tryz.sortTrm_ren:Go.Shelf.Ren:=⟨λ | 6=>107 | 15=>131 | 14=>130 | 28=>163 | 29=>164 | 20=>155 | 21=>156 | 22=>157 | 23=>158 | 24=>159 | 25=>160 | 26=>161 | 27=>162 | 46=>180 | 47=>181 | 48=>182 | 49=>183 | 50=>184 | 57=>193 | n=>n,λ | 22=>22 | 24=>24 | 25=>86 | 3=>3 | 39=>95 | 0=>0 | 53=>88 | 55=>175 | 4=>4 | 46=>167 | 45=>166 | 50=>171 | 5=>5 | 9=>9 | 66=>184 | 70=>126 | 76=>197 | 77=>198 | n=>n,λ | n=>n⟩
theorem Tryz.sortTrm:Go.Proofs.SlLaysF0.n6 Tryz.prog Tryz.sortTrm_ren:={
 mixed:=by kernel_rfl
 f6:=⟨Tryz.f107.name,by decide,Tryz.func107.trans (congrArg some (by kernel_rfl))⟩
 f14:=⟨Tryz.f130.name,by decide,Tryz.func130.trans (congrArg some (by kernel_rfl))⟩
 f15:=Tryz.func131.trans (congrArg some (by kernel_rfl))
 f20:=⟨Tryz.f155.name,by decide,Tryz.func155.trans (congrArg some (by kernel_rfl))⟩
 f21:=⟨Tryz.f156.name,by decide,Tryz.func156.trans (congrArg some (by kernel_rfl))⟩
 f22:=⟨Tryz.f157.name,by decide,Tryz.func157.trans (congrArg some (by kernel_rfl))⟩
 f23:=⟨Tryz.f158.name,by decide,Tryz.func158.trans (congrArg some (by kernel_rfl))⟩
 f24:=⟨Tryz.f159.name,by decide,Tryz.func159.trans (congrArg some (by kernel_rfl))⟩
 f25:=⟨Tryz.f160.name,by decide,Tryz.func160.trans (congrArg some (by kernel_rfl))⟩
 f26:=⟨Tryz.f161.name,by decide,Tryz.func161.trans (congrArg some (by kernel_rfl))⟩
 f27:=⟨Tryz.f162.name,by decide,Tryz.func162.trans (congrArg some (by kernel_rfl))⟩
 f28:=Tryz.func163.trans (congrArg some (by kernel_rfl))
 f29:=Tryz.func164.trans (congrArg some (by kernel_rfl))
 f46:=⟨Tryz.f180.name,by decide,Tryz.func180.trans (congrArg some (by kernel_rfl))⟩
 f47:=Tryz.func181.trans (congrArg some (by kernel_rfl))
 f48:=Tryz.func182.trans (congrArg some (by kernel_rfl))
 f49:=⟨Tryz.f183.name,by decide,Tryz.func183.trans (congrArg some (by kernel_rfl))⟩
 f50:=⟨Tryz.f184.name,by decide,Tryz.func184.trans (congrArg some (by kernel_rfl))⟩
 f57:=⟨Tryz.f193.name,by decide,Tryz.func193.trans (congrArg some (by kernel_rfl))⟩
 t0:=Tryz.underlying0
 a0:=Tryz.isAgg0
 z0:=Tryz.sizeOf0
 v0:=Tryz.zeroValue0
 t3:=Tryz.underlying3
 a3:=Tryz.isAgg3
 z3:=Tryz.sizeOf3
 v3:=Tryz.zeroValue3
 t4:=Tryz.underlying4
 a4:=Tryz.isAgg4
 z4:=Tryz.sizeOf4
 v4:=Tryz.zeroValue4
 t5:=Tryz.underlying5
 a5:=Tryz.isAgg5
 z5:=Tryz.sizeOf5
 v5:=Tryz.zeroValue5
 t9:=Tryz.underlying9
 a9:=Tryz.isAgg9
 z9:=Tryz.sizeOf9
 v9:=Tryz.zeroValue9
 t22:=Tryz.underlying22
 a22:=Tryz.isAgg22
 z22:=Tryz.sizeOf22
 v22:=Tryz.zeroValue22
 t25:=Tryz.underlying86
 a25:=Tryz.isAgg86
 z25:=Tryz.sizeOf86
 v25:=Tryz.zeroValue86
 t39:=Tryz.underlying95
 a39:=Tryz.isAgg95
 z39:=Tryz.sizeOf95
 v39:=Tryz.zeroValue95
 t45:=Tryz.underlying166
 a45:=Tryz.isAgg166
 z45:=Tryz.sizeOf166
 v45:=Tryz.zeroValue166
 t46:=Tryz.underlying167
 a46:=Tryz.isAgg167
 z46:=Tryz.sizeOf167
 v46:=Tryz.zeroValue167
 t50:=Tryz.underlying171
 a50:=Tryz.isAgg171
 z50:=Tryz.sizeOf171
 v50:=Tryz.zeroValue171
 t53:=Tryz.underlying88
 a53:=Tryz.isAgg88
 z53:=Tryz.sizeOf88
 v53:=Tryz.zeroValue88
 t55:=Tryz.underlying175
 a55:=Tryz.isAgg175
 z55:=Tryz.sizeOf175
 v55:=Tryz.zeroValue175
 t66:=Tryz.underlying184
 a66:=Tryz.isAgg184
 z66:=Tryz.sizeOf184
 v66:=Tryz.zeroValue184
 t70:=Tryz.underlying126
 a70:=Tryz.isAgg126
 z70:=Tryz.sizeOf126
 v70:=Tryz.zeroValue126
 t76:=Tryz.underlying197
 a76:=Tryz.isAgg197
 z76:=Tryz.sizeOf197
 v76:=Tryz.zeroValue197
 t77:=Tryz.underlying198
 a77:=Tryz.isAgg198
 z77:=Tryz.sizeOf198
 v77:=Tryz.zeroValue198 }
end Go.Proofs
namespace Go.GxZ
open Go.RowKit
def Box(w:World)(b:Nat)(e d c a:Value):Prop :=
 w.cell? ⟨b,0,none⟩=some e/\w.cell? ⟨b,1,none⟩=some d/\w.cell? ⟨b,2,none⟩=some c/\w.cell? ⟨b,3,none⟩=some a
theorem Box.keep{w u:World}{b:Nat}{g f e d:Value}{B:Nat}(h:Box w b g f e d)(c:b<B)(a:Below B w u):Box u b g f e d :=
 ⟨(a.cell c).trans h.1,(a.cell c).trans h.2.1,(a.cell c).trans h.2.2.1,(a.cell c).trans h.2.2.2⟩
theorem qyB(w:World)(d c b a:Value)(t:TypeId):Box (w.alloc (Obj.cells #[d,c,b,a] t)) w.heap.size d c b a :=
 ⟨by rw[World.cell?_alloc_mark];rfl,by rw[World.cell?_alloc_mark];rfl,by rw[World.cell?_alloc_mark];rfl,by rw[World.cell?_alloc_mark];rfl⟩
theorem qPG(w:World)(e d c b:Value)(t:TypeId) :
  ∃ a,w.alloc (Obj.cells #[e,d,c,b] t)=a/\Below w.heap.size w a/\a.heap.size=w.heap.size+1/\∀ u,Below a.heap.size a u->Box u w.heap.size e d c b :=
 ⟨_,rfl,(Below.refl _ _).alloc (wb _) _,by simp,λ _ f=>(qyB w e d c b t).keep (by simp) f⟩
theorem qKr(w:World)(d c b a f y1 y2 y3:Value)(t g:TypeId) :
  ∃ e,(w.alloc (Obj.cells #[d,c,b,a] t)).alloc (Obj.cells #[f,y1,y2,y3] g)=e/\Below w.heap.size w e/\e.heap.size=w.heap.size+2 /\
   ∀ u,Below e.heap.size e u->Box u w.heap.size d c b a/\Box u (w.heap.size+1) f y1 y2 y3:=by
 refine⟨_,rfl,((Below.refl _ _).alloc (wb _) _).alloc (by simp) _,by simp,λ u h=>⟨?_,?_⟩⟩
 ·exact((qyB w d c b a t).keep (B:=w.heap.size+1) (by omega) (((Below.refl _ _).alloc (by simp) _))).keep (by simp;omega) h
 ·have:=qyB (w.alloc (Obj.cells #[d,c,b,a] t)) f y1 y2 y3 g;rw[show(w.alloc (Obj.cells #[d,c,b,a] t)).heap.size=w.heap.size+1 by simp]at this;exact this.keep (by simp) h
theorem qyD(w:World)(b:Nat)(n y1 y2 y3 m l g f:Value)(h:Box w b n y1 y2 y3) :
  ∃ w',(((w.setCell ⟨b,0,none⟩ m).setCell ⟨b,1,none⟩ l).setCell ⟨b,2,none⟩ g).setCell ⟨b,3,none⟩ f=w'/\Box w' b m l g f/\(∀ B,B<=b->∀ w0,Below B w0 w->Below B w0 w') /\
   w'.heap.size=w.heap.size/\(∀ k,k≠b->w'.heap[k]?=w.heap[k]?)/\(∀ a,w'.frozen? a=w.frozen? a):=by
 obtain⟨r,q,p,o⟩:=h;have c:∀ i j:Nat,i≠j->(⟨b,i,none⟩:Addr)≠⟨b,j,none⟩ := λ i j h k=>h (by cases k;rfl);refine⟨_,rfl,⟨?_,?_,?_,?_⟩,λ B e w0 h=>(((h.setCell e _).setCell e _).setCell e _).setCell e _,by simp,λ k d=>?_,λ a=>by simp⟩
 ·rw[World.cell?_setCell_other _ _ _ _ (c 3 0 (by decide)),World.cell?_setCell_other _ _ _ _ (c 2 0 (by decide)),World.cell?_setCell_other _ _ _ _ (c 1 0 (by decide))];exact World.cell?_setCell_same _ _ _ r
 ·rw[World.cell?_setCell_other _ _ _ _ (c 3 1 (by decide)),World.cell?_setCell_other _ _ _ _ (c 2 1 (by decide))];refine World.cell?_setCell_same _ _ _ (u:=y1) ?_;rw[World.cell?_setCell_other _ _ _ _ (c 0 1 (by decide))];exact q
 ·rw[World.cell?_setCell_other _ _ _ _ (c 3 2 (by decide))];refine World.cell?_setCell_same _ _ _ (u:=y2) ?_;rw[World.cell?_setCell_other _ _ _ _ (c 1 2 (by decide)),World.cell?_setCell_other _ _ _ _ (c 0 2 (by decide))];exact p
 ·refine World.cell?_setCell_same _ _ _ (u:=y3) ?_;rw[World.cell?_setCell_other _ _ _ _ (c 2 3 (by decide)),World.cell?_setCell_other _ _ _ _ (c 1 3 (by decide)),World.cell?_setCell_other _ _ _ _ (c 0 3 (by decide))];exact o
 ·rw[Below.heap_setCell _ _ _ _ d,Below.heap_setCell _ _ _ _ d,Below.heap_setCell _ _ _ _ d,Below.heap_setCell _ _ _ _ d]
theorem Box.same{w u:World}{b:Nat}{g f e d:Value}(h:Box w b g f e d)(c:u.heap[b]?=w.heap[b]?):Box u b g f e d :=
 ⟨(World.cell?_of_block (w:=w) (a:=⟨b,0,none⟩) c).trans h.1,(World.cell?_of_block (w:=w) (a:=⟨b,1,none⟩) c).trans h.2.1,(World.cell?_of_block (w:=w) (a:=⟨b,2,none⟩) c).trans h.2.2.1,(World.cell?_of_block (w:=w) (a:=⟨b,3,none⟩) c).trans h.2.2.2⟩
end Go.GxZ
namespace Go.Proofs.YtckmkimhkhilgaaGreat
open Go Go.RowKit Go.GxZ Go.AmZ Go.Lib
theorem qEP:qoe Tryz.prog .term 22 24 56:=⟨by
 have h:(match jD Tryz.prog 22 with | some ⟨_,_,_,_,.slice e k b z⟩=>Nat.beq e 24&&(Nat.beq k 4&&(Nat.beq b 56&&Nat.beq z.length 4)) | _=>false)=true:=by kernel_rfl
 split at h
 ·rename_i l j i g e k b z m;simp only[wd]at h;obtain⟨f,d,c,a⟩:=h;have f:=wj f;have d:=wj d;have c:=wj c;have a:=wj a;subst f;subst d;subst c;exact⟨l,j,i,g,z,m,a⟩
 ·cases h⟩
theorem qG6{F:Val RD->Option qkB}{k:Nat}{b:Val RD}{r:(Val RD × Unit) × (T × Unit)}(h:qpN F k b=some r):∃ a nk nm sk lf,F b=some ((a,()),((nk,nm,sk,[],lf,()),()))/\qky F k [(T.mk nk nm sk [],lf)] a=some r:=by
 unfold qpN at h;cases c:qeV F b with
 | none=>rw[c]at h;cases h
 | some x =>
   obtain⟨a,nk,nm,sk,lf⟩:=x;rw[c]at h;exact⟨a,nk,nm,sk,lf,qtn c,h⟩
def qKw(a:Gh)(w0:World)(b:Val RD)(t:T)(e:Ending)(w':World):Prop:=∃(us:List Value) (Γ : Gh) (σ : St),e = .returned (.agg us.toArray)/\RS a w0 b Γ σ w'/\RepL Γ (qi .term t) us/\∀ u∈us,u.oneCell'=true
theorem qLx:(Tryz.prog.info? 122).map (λ i=>(i.zero,i.size,i.bytes))=some (some (.agg #[.int .i64 0,.string ⟨#[]⟩,.int .i64 0,.slice none 0 0,.int .i64 0]),5,64):=by kernel_rfl
set_option maxHeartbeats 4000000 in
set_option maxRecDepth 1000000 in
theorem qH5{F:Val RD->Option qkB}(hF:qZ Tryz.prog 87 (sgP (qpn F))){k:Nat}{Γ0:Gh}{σ0:St}{w0:World}{rd rd':Val RD}{t:T}(h0:Inv Γ0 σ0 w0)(hb : σ0.bx=[qi RD rd])(hr : σ0.rw=[])(hf:qpN F k rd=some ((rd',()),(t,()))) :
  Calls Tryz.prog 63 #[.pointer (some ⟨Γ0.β 0,0,none⟩)] w0 (qKw Γ0 w0 rd' t):=by
 have HF:=Lib.hid hF;have hS:RS Γ0 w0 rd Γ0 σ0 w0:=⟨.refl _ _,h0,hb⟩
 have HS:=Lib.hid hS;have HR:=Lib.hid hr;have HQ:=Lib.hid hf;clear hF hS hr hf h0 hb;generalize hβ : Γ0.β 0 = β;have Hβ := Lib.hid hβ;clear hβ
 go_enter Tryz.func63,Tryz.ntmps63
 obtain⟨rd1,nk,nm,sk,lf,hf1,hl1⟩:=qG6 HQ.out
 have hc1:∀ o:Obj,Calls Tryz.prog 87 #[.pointer (some ⟨β,0,none⟩)] (w0.alloc o) λ e w'=>∃ Γ' σ' ku,e = .returned (.agg #[.int .i64 nk,.string ⟨nm.toArray⟩,.int .i64 sk,ku,.int .i64 lf])/\Ext Γ0 (w0.alloc o) Γ' w'/\RS Γ0 w0 rd1 Γ' σ' w' /\ σ'.rw = σ0.rw++[⟨4,[],0,0,false⟩]/\Rep Γ' (.rs σ0.rw.length 0 0 0 false) ku := λ o=>by
  rw[<- Hβ.out];exact qwx HF.out hf1 (HS.out.alloc o)
 have HC1:=Lib.hid hc1;have HL1:=Lib.hid hl1;clear hc1 hl1 hf1
 go_wp2_with (go_at_call 87;refine(HC1.out _).mono ?_;rintro e w1 ⟨Γ1,σ1,ku,rfl,hx1,hS1,hrw1,hku1⟩)
 have hR1 : σ1.rw[σ0.rw.length]?=some ⟨4,[],0,0,false⟩:=by rw[hrw1];simp
 have hsz1:w0.heap.size+1<=w1.heap.size:=by have:=hx1.size;simpa using this
 have hres0:qc6 Γ0 (w0.alloc (Obj.cells #[.int .i64 0,.string ⟨#[]⟩,.int .i64 0,.slice none 0 0] 24)) w0.heap.size 24 :=
  ⟨qeD.new HS.out.i (wb _),by simp,heap_alloc_new w0 _⟩
 have hres1:=hres0.ext hx1;obtain⟨hS2,hK2⟩:=qM2 (N:=122) (B:=w0.heap.size) hS1 (by omega) (nk:=nk) (sk:=sk) (nm:=nm) (lf:=lf) hR1 hku1;have hres2:qc6 Γ1 (w1.alloc (Obj.cells #[.int .i64 nk,.string ⟨nm.toArray⟩,.int .i64 sk,ku,.int .i64 lf] 122)) w0.heap.size 24:=hres1.same (by simp) (Below.heap_alloc _ _ _ hres1.2.1);have hbet:∀{Γ : Gh},Le Γ0 Γ -> Γ.β 0 = β := λ h=>(h.β 0 (by rw[HS.out.i.nb,HS.out.bx];exact wai)).trans Hβ.out;have HBET:Hid (∀{Γ : Gh},Le Γ0 Γ -> Γ.β 0 = β):=@hbet;have HS2:=Lib.hid hS2;have HK2:=Lib.hid hK2;have HRES2:=Lib.hid hres2;have HSZ1:=Lib.hid hsz1;clear hR1 hres0 hres1 hS2 hK2 hres2 hx1 hS1 hrw1 hku1 hbet hsz1 HC1
 go_loopg [3] k (λ g1 v3 wr=>∃(st:List (T × Int)) (ids:List Nat) (g cap:Nat) (cs:List Value) (Γ : Gh) (σ : St) (rdx:Val RD),v3 = .slice (some ⟨g,0,none⟩) (st.length:Nat) cap/\Hid (RS Γ0 w0 rdx Γ σ wr)/\Hid (Stk w0.heap.size 122 Γ σ wr st ids g cap cs)/\Hid (qc6 Γ wr w0.heap.size 24/\w0.heap.size≠g)/\Hid (qky F g1 st rdx=some ((rd',()),(t,()))))
 case atStart=>exact⟨_,_,_,_,_,_,_,_,rfl,HS2.out,HK2.out,⟨HRES2.out,by have:=HSZ1.out;omega⟩,HL1.out⟩
 case round =>
  obtain⟨st,ids,g,cap,cs,Γ,σ,rdx,rfl,HSr,HKr,HRr,HLr⟩:=hrel;clear HS2 HK2 HRES2 HL1 HSZ1
  obtain⟨m,hm⟩:∃ m,gk=m+1:=by
   cases gk with
   | zero=>exact absurd HLr.out (by intro h;cases h)
   | succ m=>exact⟨m,rfl⟩
  have HLm:Hid (qky F (m+1) st rdx=some ((rd',()),(t,()))):=by rw[<- hm];exact HLr
  clear HLr;obtain⟨hw0,hw1,hw2⟩:=HSr.out.box;rw[HBET.out HSr.out.x.le]at hw0 hw1 hw2;clear hw0 hw1;rcases qGM (show qnr F (qky F m) st rdx=some ((rd',()),(t,()))from HLm.out)with⟨hw,he⟩ | ⟨hw,p,top,lt,hlen,hp,hcase⟩
  ·rw[hw]at hw2;cases he;obtain⟨r0,r1,r2,r3,rf⟩:=HRr.out.1.cells;have RF:=Lib.hid rf;have f0:=rf 0;have f1:=rf 1;have f2:=rf 2;have f3:=rf 3;clear rf
   go_wp2_with fail
   obtain⟨w9,hw9,⟨b0,b1,b2,b3⟩,_⟩:=qyD wr w0.heap.size _ _ _ _ (.int .i64 0) (.string ⟨#[]⟩) (.int .i64 0) (.slice none 0 0) ⟨r0,r1,r2,r3⟩;have hS9:=HSr.out.put4 HRr.out.1.1 (wb _) (.int .i64 0) (.string ⟨#[]⟩) (.int .i64 0) (.slice none 0 0);rw[hw9]at hS9 |-
   refine bodyPost_ret (v := .agg #[.int .i64 0,.string ⟨#[]⟩,.int .i64 0,.slice none 0 0]) (by simp[results,Tryz.results63,go_sem,b0,b1,b2,b3]) rfl ?_;exact⟨_,Γ,σ,rfl,hS9,qhA (t := .mk 0 [] 0 []) qDd,qpM rfl⟩
  ·rw[hw]at hw2;obtain⟨r,hr,NC⟩:=HKr.out.at hp;have hcap:=qMU HKr.out.own;have hpm:p+1<=maxLen:=by omega
   unfold maxLen at hpm;have hwp:IntKind.i64.wrap (((p+1:Nat):Int)-1)=(p:Int):=by rw[IntKind.wrap_i64];omega
   obtain⟨Rp,kp,z1,z2,z3,z4,z5,z6,a0,a1,a2,a3,a4⟩:=NC;obtain⟨c4,f4⟩:=HKr.out.cell a4;have hz:(p:Int)<((p+1:Nat):Int):=by omega
   rcases hcase with⟨hlt,hroom,rd1,nk1,nm1,sk1,lf1,hf1,hih⟩ | ⟨hlt,hend⟩
   ·clear z1 z2 z3 z4 z5 z6 a0 a1 a2 a3;rw[hlen]
    go_upto_region 6 with(fail)
    have hwr:iw .i64 (zq lt 1)=wrap64 (lt-1):=by show IntKind.i64.wrap (lt-1)=_;rw[IntKind.wrap_i64];unfold wrap64;rfl
    rw[hwr]at hih;have hS2:=HSr.out.set HKr.out.priv (qcO HKr.out.own).1 (p*5+4) (.int .i64 (wrap64 (lt-1)));have hK2:=HKr.out.left hp (wrap64 (lt-1));have hR2:qc6 Γ (wr.setCell ⟨g,p*5+4,none⟩ (.int .i64 (wrap64 (lt-1)))) w0.heap.size 24:=HRr.out.1.same (by simp) (Below.heap_setCell _ _ _ _ HRr.out.2);have hc:=qwx HF.out hf1 hS2;rw[HBET.out HSr.out.x.le]at hc;generalize wr.setCell ⟨g,p*5+4,none⟩ (.int .i64 (wrap64 (lt-1)))=w2 at *;have HC:=Lib.hid hc;have HK2:=Lib.hid hK2;have HR2:=Lib.hid hR2;have HIH:=Lib.hid hih;have HRM:=Lib.hid hroom;have HLEN:=Lib.hid hlen;have HNG:=Lib.hid HRr.out.2;clear hc hK2 hR2 hih hroom hS2 HSr HKr HRr hlen hcap hwp hz c4 f4 a4 hr hp hf1 hw2 hwr;obtain⟨i0,hi,hz0,hz1,hz2⟩:=info_parts qLx
    go_wp2_with (first
     | (go_at_call 87;refine HC.out.mono ?_;rintro e w3 ⟨Γ3,σ3,ku3,rfl,hx3,hS3,hrw3,hku3⟩
        have hK3:=HK2.out.later hx3 (σ' := σ3) (λ r _ R h=>by rw[hrw3,List.getElem?_append_left (getElem?_lt h)];exact h);have hR3:=HR2.out.ext hx3;have hnid : σ.rw.length ∉ ids:=HK2.out.id_lt;have hlen2:(st.set p (top,wrap64 (lt-1))).length=p+1:=by rw[wJ];exact HLEN.out
        obtain⟨v4,w4,hrun4,g4,cap4,hv4,hS4,hK4,hsz4,hbl4,hg4⟩:=qJr Tryz.underlying124 hi hz0 hz1 hz2 rfl hS3 hK3 (wb _) (nk:=nk1) (nm:=nm1) (sk:=sk1) (lf:=lf1) (r := σ.rw.length) (by rw[hrw3];simp) hku3 hnid (by rw[hlen2];exact HRM.out) 124;have hR4:qc6 Γ3 w4 w0.heap.size 24:=hR3.same hsz4 (hbl4 _ hR3.2.1 HNG.out);have hng4:w0.heap.size≠g4:=by rcases hg4 with rfl | h;exact HNG.out;have:=hR3.2.1;omega
        rw[hlen2]at hrun4 hv4;subst hv4;have HS4:=Lib.hid hS4;have HK4:=Lib.hid hK4;have HR4:=Lib.hid hR4;have HNG4:=Lib.hid hng4;have HRUN:=Lib.hid hrun4;clear hx3 hS3 hrw3 hku3 hK3 hR3 hnid hlen2 hrun4 hS4 hK4 hsz4 hbl4 hg4 hR4 hng4)
     | (at_builtin;refine qyk _ _ _ rfl rfl rfl rfl HRUN.out ?_))
    go_roundg m
    case measure=>omega
    case rel=>exact⟨_,_,g4,cap4,_,Γ3,σ3,rd1,by rw[wc,wJ,HLEN.out];rfl,HS4.out,HK4.out,⟨HR4.out,HNG4.out⟩,HIH.out⟩
   ·obtain⟨c0,f0⟩:=HKr.out.cell a0;obtain⟨c1,f1⟩:=HKr.out.cell a1;obtain⟨c2,f2⟩:=HKr.out.cell a2;obtain⟨c3,f3⟩:=HKr.out.cell a3;have hgl:=(qcO HKr.out.own).2;have hbl:w0.heap.size<wr.heap.size:=HRr.out.1.2.1;have NC:qi8 Γ σ cs p top lt r:=⟨Rp,kp,z1,z2,z3,z4,z5,z6,a0,a1,a2,a3,a4⟩
    have hk1:=z6.one rfl;obtain⟨pa,kn,kc,rfl⟩:∃ pa kn kc,kp = .slice pa kn kc:=by cases z6;exact⟨_,_,_,rfl⟩
    clear z1 z2 z3 z4 z5 z6 a0 a1 a2 f0 f1 f2 f3 f4;rcases hend with⟨rfl,he⟩ | ⟨q,par,n,rfl,hq,hroom,hih⟩
    ·cases he;rw[hlen];have hR5:∀ o:Obj,qc6 Γ (wr.alloc o) w0.heap.size 24 := λ o=>HRr.out.1.same (by simp) (Below.heap_alloc _ _ _ hbl);obtain⟨r0,r1,r2,r3,rf⟩:=HRr.out.1.cells;have f0:=rf 0;have f1:=rf 1;have f2:=rf 2;have f3:=rf 3;clear rf;have HNC:=Lib.hid NC;have HR5:=Lib.hid hR5;have HLT:=Lib.hid hlt;have HK1:=Lib.hid hk1;clear NC hR5 hk1
     go_wp2_with fail
     obtain⟨w9,hw9,⟨b0,b1,b2,b3⟩,_,hsz9,_⟩:=qyD wr w0.heap.size _ _ _ _ (.int .i64 t.kind) (.string ⟨t.name.toArray⟩) (.int .i64 t.sort) (.slice pa kn kc) ⟨r0,r1,r2,r3⟩;have hS9:=HSr.out.put4 HRr.out.1.1 (wb _) (.int .i64 t.kind) (.string ⟨t.name.toArray⟩) (.int .i64 t.sort) (.slice pa kn kc);rw[hw9]at hS9 |-
     have hl9:w0.heap.size<w9.heap.size:=by rw[hsz9];exact hbl
     refine bodyPost_ret (v := .agg #[.int .i64 t.kind,.string ⟨t.name.toArray⟩,.int .i64 t.sort,.slice pa kn kc]) (by simp[results,Tryz.results63,go_sem,b0,b1,b2,b3,hl9]) rfl ?_;have hS10:=hS9.alloc (.cells #[.int .i64 t.kind,.string ⟨t.name.toArray⟩,.int .i64 t.sort,.slice pa kn kc] 24);obtain⟨Γ1,σ9,kx,y1,y2,y3,y4,y5,y6,y7⟩:=qCL hS10.i HNC.out;obtain⟨_,kx',_,_,_,_,_,_,_,_,_,y8,_⟩:=HNC.out;have hcs:cs[0*5+3]?=some (.slice pa kn kc):=a3;rw[hcs]at y5;cases y5;exact⟨[.int .i64 t.kind,.string ⟨t.name.toArray⟩,.int .i64 t.sort,.slice pa kn kc],Γ1,σ9,rfl,⟨hS10.x.trans y3,y4,y1.trans hS10.bx⟩,qhA y6,qpM rfl⟩
    ·rw[hlen];have HNC:=Lib.hid NC;have HK1:=Lib.hid hk1;have HIH:=Lib.hid hih;have HRM:=Lib.hid hroom;have HQ2:=Lib.hid hq;have HP:=Lib.hid hp;have hqm:q+1+1<=2 ^ 63-1:=hpm;have hz2:¬ ((q:Int)+1=0):=by omega
     clear NC hk1 hih hroom hq HQ
     go_upto_region 11 with(fail)
     obtain⟨w5,hw5,hb5,hs5,hbx5⟩:=qPG wr (.int .i64 top.kind) (.string ⟨top.name.toArray⟩) (.int .i64 top.sort) (.slice pa kn kc) 24;have hS5:=HSr.out.alloc (.cells #[.int .i64 top.kind,.string ⟨top.name.toArray⟩,.int .i64 top.sort,.slice pa kn kc] 24);have hK5:=HKr.out.grown (World.grownBy_alloc wr (.cells #[.int .i64 top.kind,.string ⟨top.name.toArray⟩,.int .i64 top.sort,.slice pa kn kc] 24) none) (λ e=>by cases e);have hR5:qc6 Γ (wr.alloc (.cells #[.int .i64 top.kind,.string ⟨top.name.toArray⟩,.int .i64 top.sort,.slice pa kn kc] 24)) w0.heap.size 24:=HRr.out.1.same (by simp) (Below.heap_alloc _ _ _ hbl);rw[hw5]at hS5 hK5 hR5 |-
     have g5:=hbx5 _ (Below.refl _ _);have HS5:=Lib.hid hS5;have HK5:=Lib.hid hK5;have HR5:=Lib.hid hR5;have G5:=Lib.hid g5;have HNG:=Lib.hid HRr.out.2;have HA3:=Lib.hid a3;have HSZ5:=Lib.hid hs5;clear hbx5 hw5 hb5 hS5 hK5 hR5 g5 HSr HKr HRr c0 c1 c2 c3 c4 a4 a3 hw2 hgl hbl hs5 hlen hp hcap hwp hr
     have key:∀ bv:Value,RS Γ0 w0 rdx Γ σ (w5.alloc (.cells #[bv] 4)).drew/\Stk w0.heap.size 122 Γ σ (w5.alloc (.cells #[bv] 4)).drew st ids g cap cs/\qc6 Γ (w5.alloc (.cells #[bv] 4)).drew w0.heap.size 24/\Box (w5.alloc (.cells #[bv] 4)).drew wr.heap.size (.int .i64 top.kind) (.string ⟨top.name.toArray⟩) (.int .i64 top.sort) (.slice pa kn kc) := λ bv =>
      ⟨(HS5.out.alloc _).drew',(HK5.out.grown (World.grownBy_alloc w5 (.cells #[bv] 4) none) (λ e=>by cases e)).drew,(HR5.out.same (by simp) (Below.heap_alloc _ _ _ HR5.out.2.1)).drew,G5.out.same (Below.heap_alloc _ _ _ (by have:=HSZ5.out;omega))⟩
     have KEY:=Lib.hid key;clear key
     go_region
     ·obtain⟨w6,hw6⟩:∃ w6,(w5.alloc (.cells #[.bool false] 4)).drew=w6:=⟨_,rfl⟩
      obtain⟨k1,k2,k3,k4⟩:=KEY.out (.bool false);rw[hw6]at k1 k2 k3 k4 |-
      have HS6:=Lib.hid k1;have HK6:=Lib.hid k2;have HR6:=Lib.hid k3;have G6:=Lib.hid k4;clear KEY hw6 k1 k2 k3 k4 HS5 HK5 HR5 G5 HSZ5
      go_upto_region 14 with(fail)
      obtain⟨Γ7,σ7,kx,b4,hS7,hK7,hx7,hx6⟩:=qFg HS6.out.drew' HK6.out.drew HP.out;rw[HA3.out]at b4;cases b4;have hql:q<st.length:=getElem?_lt HQ2.out;obtain⟨kq,rq,b0,_,_,v8,w8,hrun,⟨pa8,kc8,hv8⟩,Γ8,σ8,hx8,hS8,hK8⟩:=qFS qEP hS7 hK7 (wb _) (q:=q) (t:=par) (n:=n) (by rw[List.getElem?_take,if_pos (by omega)];exact HQ2.out) hx7 HRM.out 24 22;rw[xL,kK (by omega)]at hK8;subst hv8;obtain⟨c6,f6⟩:=hK7.cell b0;obtain⟨c0,c1,c2,c3⟩:=G6.out;have c7:∀ o:Obj,(w6.alloc o).cell? ⟨g,q*5+3,none⟩=some kq := λ o=>(World.cell?_alloc_lt _ _ _ (by show g<_;exact(qcO HK6.out.own).2)).trans c6;have hbk:=(hK7.priv.ext hx8 (by exact(qcO HK6.out.own).2)).2;have c8:w8.cell? ⟨g,q*5+3,none⟩=some kq:=(World.cell?_of_block (w:=w6) (a:=⟨g,q*5+3,none⟩) hbk).trans c6;have f8:w8.frozen? ⟨g,q*5+3,none⟩=false:=(World.frozen?_of_block (w:=w6) (a:=⟨g,q*5+3,none⟩) hbk).trans f6;have HR8:=Lib.hid ((HR6.out.drew.ext hx6).ext hx8);have HS8:=Lib.hid hS8;have HK8:=Lib.hid hK8;have hrun:(Builtin.append_ #[22,22] 22 #[kq,.slice (some ⟨w6.heap.size,0,none⟩) 1 1]).run Tryz.prog (w6.alloc (.cells #[.int .i64 top.kind,.string ⟨top.name.toArray⟩,.int .i64 top.sort,.slice pa kn kc] 24)).drew = .ok (.slice pa8 (par.kids.length+1) kc8) w8:=hrun;have HRUN:=Lib.hid hrun;have hl9:(st.take q++[(T.mk par.kind par.name par.sort (par.kids++[top]),n)]).length=q+1:=by rw[wc,wm];simp;omega
      have HL9:=Lib.hid hl9;clear hx8 hS8 hK8 hrun b0 hbk HS6 HK6 HR6 G6 hS7 hK7 hx7 hx6 hl9 hql;have hwq:IntKind.i64.wrap (q:Int)=(q:Int):=by rw[IntKind.wrap_i64];omega
      have hqz:(q:Int)<(q:Int)+1:=by omega
      go_region_law (first | (refine qoK rfl _ _ _ rfl rfl rfl HRUN.out ?_))
      all_goals
       go_wp2_with fail
       go_roundg m
       case measure=>omega
       case rel=>exact⟨_,_,g,cap,_,Γ8,σ8,rdx,by rw[HL9.out],HS8.out,HK8.out,⟨HR8.out.same (by simp) (Below.heap_setCell _ _ _ _ HNG.out),HNG.out⟩,HIH.out⟩
     ·obtain⟨w6,hw6⟩:∃ w6,(w5.alloc (.cells #[.bool true] 4)).drew=w6:=⟨_,rfl⟩
      obtain⟨k1,k2,k3,k4⟩:=KEY.out (.bool true);rw[hw6]at k1 k2 k3 k4 |-
      have HS6:=Lib.hid k1;have HK6:=Lib.hid k2;have HR6:=Lib.hid k3;have G6:=Lib.hid k4;clear KEY hw6 k1 k2 k3 k4 HS5 HK5 HR5 G5 HSZ5
      go_upto_region 12 with(fail)
      obtain⟨Γ7,σ7,kx,b4,hS7,hK7,hx7,hx6⟩:=qFg HS6.out.drew' HK6.out.drew HP.out;rw[HA3.out]at b4;cases b4;have hql:q<st.length:=getElem?_lt HQ2.out;obtain⟨kq,rq,b0,_,⟨pa7,kc7,rfl⟩,v8,w8,hrun,⟨pa8,kc8,hv8⟩,Γ8,σ8,hx8,hS8,hK8⟩:=qFS qEP hS7 hK7 (wb _) (q:=q) (t:=par) (n:=n) (x := .mk 0 [] 0 []) (by rw[List.getElem?_take,if_pos (by omega)];exact HQ2.out) qDd HRM.out 24 22;rw[xL,kK (by omega)]at hK8;subst hv8;obtain⟨c6,f6⟩:=hK7.cell b0;obtain⟨c0,c1,c2,c3⟩:=G6.out;have c7:∀ o:Obj,(w6.alloc o).cell? ⟨g,q*5+3,none⟩=some (.slice pa7 par.kids.length kc7) := λ o=>(World.cell?_alloc_lt _ _ _ (by show g<_;exact(qcO HK6.out.own).2)).trans c6;have hwl:wr.heap.size<w6.heap.size:=qsT c0;have hbk:=(hK7.priv.ext hx8 (by exact(qcO HK6.out.own).2)).2;have c8:w8.cell? ⟨g,q*5+3,none⟩=some (.slice pa7 par.kids.length kc7):=(World.cell?_of_block (w:=w6) (a:=⟨g,q*5+3,none⟩) hbk).trans c6;have f8:w8.frozen? ⟨g,q*5+3,none⟩=false:=(World.frozen?_of_block (w:=w6) (a:=⟨g,q*5+3,none⟩) hbk).trans f6;have hR8:qc6 Γ8 (w8.setCell ⟨g,q*5+3,none⟩ (.slice pa8 (par.kids.length+1) kc8)) w0.heap.size 24:=((HR6.out.drew.ext hx6).ext hx8).same (by simp) (Below.heap_setCell _ _ _ _ HNG.out);have hl9:(st.take q).length=q:=by rw[wm];omega
      obtain⟨b,kc9,y1,y2,y3,y4,y5,Γ9,σ9,hx9,hS9,hK9⟩:=qMR hS8 hK8 (q:=q) (ks:=par.kids) (z := .mk 0 [] 0 []) (x:=top) (n:=n) (by rw[List.getElem?_append_right (by omega),hl9,kM];rfl) rfl (hx7.mono hx8.le)
      have y6:pa8=some ⟨b,0,none⟩/\kc8=kc9:=by
       rw[List.getElem?_take,if_pos (by omega),List.getElem?_set_self (by rw[hK7.own.1,wm];omega)]at y1;cases y1;exact⟨rfl,rfl⟩
      obtain⟨rfl,rfl⟩:=y6;obtain⟨u0,d0⟩:=y4 0 (by decide);obtain⟨u1,d1⟩:=y4 1 (by decide);obtain⟨u2,d2⟩:=y4 2 (by decide);obtain⟨u3,d3⟩:=y4 3 (by decide);have g0:=y5 (par.kids.length*4);have g1:=y5 (par.kids.length*4+1);have g2:=y5 (par.kids.length*4+2);have g3:=y5 (par.kids.length*4+3);have hres:b≠w0.heap.size := λ e=>hR8.1.own (e▸y3);have hR9:=(hR8.ext hx9)
      have hrun:(Builtin.append_ #[22,22] 22 #[.slice pa7 par.kids.length kc7,.slice (some ⟨w6.heap.size,0,none⟩) 1 1]).run Tryz.prog (w6.alloc (.cells #[.int .i64 0,.string ⟨#[]⟩,.int .i64 0,.slice none 0 0] 24)).drew = .ok (.slice (some ⟨b,0,none⟩) (par.kids.length+1) kc8) w8:=hrun;obtain⟨w9,hw9⟩:∃ w9,w8.setCell ⟨g,q*5+3,none⟩ (.slice (some ⟨b,0,none⟩) (par.kids.length+1) kc8)=w9:=⟨_,rfl⟩
      rw[hw9]at hS9 hK9 hR9 d0 d1 d2 d3 g0 g1 g2 g3;rw[wP]at d0
      have hl10:((st.take q++[(T.mk par.kind par.name par.sort (par.kids++[T.mk 0 [] 0 []]),n)]).set q (T.mk par.kind par.name par.sort (par.kids++[top]),n))=st.take q++[(T.mk par.kind par.name par.sort (par.kids++[top]),n)]:=by
       rw[vF _ _ (by omega),hl9,kM];rfl
      have hK9:Stk w0.heap.size 122 Γ9 σ9 _ ((st.take q++[(T.mk par.kind par.name par.sort (par.kids++[T.mk 0 [] 0 []]),n)]).set q (T.mk par.kind par.name par.sort (par.kids++[top]),n)) _ g cap _:=hK9;rw[hl10]at hK9;have hl11:(st.take q++[(T.mk par.kind par.name par.sort (par.kids++[top]),n)]).length=q+1:=by rw[wc,hl9];rfl
      have HL11:=Lib.hid hl11;have HS9:=Lib.hid hS9;have HK9:=Lib.hid hK9;have HR9:=Lib.hid hR9;have HRUN:=Lib.hid hrun;have HW9:=Lib.hid hw9;have hwq:IntKind.i64.wrap (q:Int)=(q:Int):=by rw[IntKind.wrap_i64];omega
      have hqz:(q:Int)<(q:Int)+1:=by omega
      have hnz:(par.kids.length:Int)<(par.kids.length:Int)+1:=by omega
      clear hx8 hS8 hK8 hrun b0 hbk HS6 HK6 HR6 G6 hS7 hK7 hx7 hx6 hl9 hql hR8 hx9 hS9 hK9 hR9 hw9 hl10 hl11 y1 y2 y3 y4 y5 hres
      go_region_law (first | (refine qoK rfl _ _ _ rfl rfl rfl HRUN.out ?_))
      all_goals
       rw[HW9.out]
       go_wp2_with fail
       go_roundg m
       case measure=>omega
       case rel=>exact⟨_,_,g,cap,_,Γ9,σ9,rdx,by rw[HL11.out],HS9.out,HK9.out,⟨HR9.out,HNG.out⟩,HIH.out⟩
end Go.Proofs.YtckmkimhkhilgaaGreat
namespace Go.AmZ
open Go Go.RowKit Go.GxZ
theorem qJC{ds:List AV}{e:Val RD}(h:yh RD (ds.take (Ty.size RD))=some e)(j:ds.drop (Ty.size RD)=[]):ds=qi RD e:=by
 have k:ds.take (Ty.size RD)=ds:=kE (List.drop_eq_nil_iff.1 j);rw[k]at h;have h:=yb.1 h;obtain⟨s,f,w⟩:=e;change qqd (QX .str) (qqd (QX (.int .i64)) (QX .bool)) ds=_ at h;unfold qqd at h;split at h<;>try cases h
 rename_i x r c;split at h<;>cases h;rename_i y d;split at d<;>try cases d
 rename_i l g a;split at d<;>cases d;rename_i b;have c:qgO ds=some (s,r):=c;have a:qa6 .i64 r=some (f,g):=a;have b:qid g=some (w,[]):=b;unfold qgO at c;split at c<;>cases c;unfold qa6 at a;split at a<;>try cases a
 rename_i i;split at a<;>cases a;have i:=of_decide_eq_true (by assumption);subst i;unfold qid at b;split at b<;>cases b;rfl
theorem qMd{σ : St}{ys:List AV}{a:QF [.box [.val RD]]}(h:dS σ [.box [.val RD]] 0 0 ys=some a):ys=[.ptr 0 0] /\ σ.bx=[qi RD a.1] /\ σ.rw=[]:=by
 cases ys with
 | nil=>simp[dS]at h
 | cons y ys =>
   simp only[dS]at h;cases c:qjw σ [.val RD] 0 0 y with
   | none=>rw[c]at h;cases h
   | some p =>
     obtain⟨v,n⟩:=p;rw[c]at h;simp only at h;unfold qjw at c;split at c<;>try cases c
     split at c<;>try cases c
     rename_i j _ ds i f;have i:=wj i;subst i;simp only[qf2]at c;split at c<;>try cases c
     rename_i x m;split at c<;>cases c;rename_i d
     have l:ds.drop (Ty.size RD)=[]/\n=0:=by
      cases g:ds.drop (Ty.size RD)with
      | nil=>rw[g]at d;simp[qf2]at d;exact⟨rfl,d.symm⟩
      | cons z r=>rw[g]at d;simp[qf2]at d
     obtain⟨l,rfl⟩:=l;split at h<;>cases h;rename_i k;obtain⟨rfl,q,o⟩:=qma k;have e:=qJC m l;obtain⟨b,c⟩:=xV.1 q.symm;refine⟨rfl,?_,wk o.symm⟩;rw[c]at f |-
     cases f;rw[e];rfl
end Go.AmZ
namespace Go.Proofs.YtckmkimhkhilgaaGreat
open Go Go.RowKit Go.GxZ Go.AmZ Go.Lib
theorem hand_read{F:Val RD->Option qkB}(q:qZ Tryz.prog 87 (sgP (qpn F)))(k:Nat):qZ Tryz.prog 63 (sgP ⟨[.box [.val RD]],[.one (.val .term)],λ x=>qpN F k x.1⟩):=by
 refine⟨qaq Tryz.func63 (by kernel_rfl),λ Γ σ w l h r i g a=>?_⟩;obtain⟨B,b,y,m⟩ := σ;unfold sgP at a;split at a<;>try cases a
 rename_i x p;obtain⟨z,_⟩:=x;obtain⟨rfl,j,c⟩:=qMd p;have c:b=[]:=c;subst c;split at a<;>cases a;rename_i n d;obtain⟨⟨o,_⟩,t,_⟩:=n;obtain⟨u0,A,rfl,f,g⟩:=g.uncons;have:=g.nil_inv;subst this;cases f;refine(qH5 q i j rfl d).mono ?_;rintro e w' ⟨us,Γ',σ',rfl,v,u,s⟩;exact qIB i (by rw[j];rfl) rfl v u s
end Go.Proofs.YtckmkimhkhilgaaGreat
namespace Go.AmZ
open Go Go.GxZ
set_option linter.unusedVariables false
set_option maxRecDepth 100000
open Go.Proofs.Tryz (func7 func10 func12 func13 func14 func15 func16 func17 func18 func19 func20 func21 func22 func23 func24 func25 func26 func27 func28 func29 func30 func31 func32 func33 func34 func35 func36 func37 func38 func39 func40 func41 func42 func43 func44 func45 func46 func47 func48 func49 func50 func51 func52 func53 func54 func55 func56 func57 func58 func59 func60 func61 func62 func64 func65 func66 func67 func68 func69 func70 func71 func72 func73 func74 func75 func76 func77 func78 func79 func80 func81 func82 func83 func84 func85 func86 func87 func88 func89 func90 func91 func92 func93 func94 func95 func97 func98 func99 func100 func101 func102 func103 func104 func105 func106 func109 func110 func111 func112 func113 func114 func115 func116 func117 func120 func121 func122 func123 func124 func125 func126 func127 func128 func129 func132 func133 func134 func135 func136 func137 func138 func139 func140 func141 func142 func143 func145 func146 func147 func148 func149 func150 func151 func152 func153 func154 func165 func166 func167 func170 func171 func173 func174 func175 func176 func177 func178 func179 func185 func186 func189 func190 func191 func192 func196)
theorem qkH(m:Nat)(h:yv Go.Proofs.Tryz.prog (tb.at m).pc.cfg):qZ Go.Proofs.Tryz.prog 63 (sgP ⟨[.box [.val RD]],[.one (.val .term)],λ x=>jy (m+1) x.1⟩):=Go.Proofs.YtckmkimhkhilgaaGreat.hand_read (F:=qw m) (h.prim 87 _ (by kernel_rfl)) m
theorem qcv(m:Nat)(h:yv Go.Proofs.Tryz.prog (tb.at m).pc.cfg):qZ Go.Proofs.Tryz.prog 107 (mgP ⟨.term,[.clo 95 0],λ x=>zb (m+1) x.1⟩):=qIU (τ := .term) Go.Proofs.Tryz.sortTrm (λ _=>rfl) Go.Proofs.Tryz.isAgg24 Go.Proofs.Tryz.sizeOf24 (qHG (τ := .term) (ρ := y2) (qFJ h (by kernel_rfl)) (F := λ x y=>qA m x y) (by kernel_rfl) (λ _=>rfl)) (qaq Go.Proofs.Tryz.func107 (by kernel_rfl)) (λ _ _ h=>h)
theorem qbr(m:Nat)(h:yv Go.Proofs.Tryz.prog (tb.at m).pc.cfg):qZ Go.Proofs.Tryz.prog 108 (sgP ⟨[.row .term,.clo 109 0],[.one (.row .term)],λ x=>qI (m+1) x.1⟩):=qCp (qHG (τ := .term) (ρ := .bool) (qFJ h (by kernel_rfl)) (F := λ x y=>jf m x y) (by kernel_rfl) (λ _=>rfl)) (λ _ _ h=>qGz h)
theorem tb_ok:∀ m,yv Go.Proofs.Tryz.prog (tb.at m).pc.cfg:=Tb.all_ok (by kernel_rfl) qIx (by kernel_rfl) (nS func92 qmF (nP func51 qvc (nS func30 qlL (nP func20 qAx (nS func15 ql4 (nS func12 qw9 (nP func10 qxi (nP func7 qqe trivial trivial) trivial) (nP func14 qvr (nS func13 qmw trivial trivial) trivial)) (nP func18 qAl (nS func17 qj3 (nS func16 qms trivial trivial) trivial) (nP func19 qBo trivial trivial))) (nS func25 qoc (nS func23 qEl (nS func22 qBT (nP func21 qC5 trivial trivial) trivial) (nS func24 qtK trivial trivial)) (nS func28 qkZ (nS func27 qjO (nS func26 qmC trivial trivial) trivial) (nS func29 qmE trivial trivial)))) (nP func41 qtF (nP func36 qxI (nP func33 qrm (nS func32 qmm (nP func31 qyd trivial trivial) trivial) (nP func35 qDk (nS func34 qnH trivial trivial) trivial)) (nP func39 qCC (nS func38 qka (nP func37 qxZ trivial trivial) trivial) (nP func40 qqY trivial trivial))) (nP func46 qmv (nS func44 qoY (nP func43 qxL (nP func42 qu4 trivial trivial) trivial) (nS func45 qnV trivial trivial)) (nS func49 qoq (nS func48 qnK (nS func47 qlU trivial trivial) trivial) (nP func50 qAG trivial trivial))))) (nP func72 qxt (nP func62 qt2 (nP func57 qAe (nP func54 qCi (nP func53 qwj (nP func52 qAy trivial trivial) trivial) (nS func56 qtc (nP func55 qvP trivial trivial) trivial)) (nP func60 qw3 (nP func59 qwS (nP func58 qyi trivial trivial) trivial) (nP func61 qxx trivial trivial))) (nP func67 qAn (nP func65 qvp (nP func64 qz6 ⟨⟨qqc (qaq Go.Proofs.Tryz.func63 (by kernel_rfl)) λ _=>rfl,λ m h=>qkH m h⟩,trivial,trivial⟩ trivial) (nP func66 qzN trivial trivial)) (nP func70 qx2 (nP func69 qvC (nP func68 qyv trivial trivial) trivial) (nP func71 quw trivial trivial)))) (nP func82 qAp (nP func77 qqN (nP func75 qt6 (nP func74 qs3 (nP func73 qou trivial trivial) trivial) (nS func76 JA trivial trivial)) (nP func80 qxs (nP func79 qj5 (nS func78 qle trivial trivial) trivial) (nP func81 qym trivial trivial))) (nS func87 qmB (nP func85 qzM (nP func84 qB3 (nP func83 quZ trivial trivial) trivial) (nP func86 qxq trivial trivial)) (nP func90 qzR (nP func89 qAs (nS func88 qzZ trivial trivial) trivial) (nS func91 qqG trivial trivial)))))) (nP func136 qFY (nP func113 qxc (nS func103 qmy (nP func98 qzW (nP func95 qu9 (nP func94 qt5 (nS func93 qv2 trivial trivial) trivial) (nP func97 qxO ⟨λ c hc=>qqI (m:=0) hc,trivial,trivial⟩ trivial)) (nP func101 qwO (nP func100 qzQ (nP func99 qwy trivial trivial) trivial) (nP func102 quM trivial trivial))) ⟨⟨qqc (qaq Go.Proofs.Tryz.func108 (by kernel_rfl)) λ _=>rfl,λ m h=>qbr m h⟩,(nP func106 qwP (nP func105 qxh (nS func104 qmz trivial trivial) trivial) ⟨⟨qHS (qaq Go.Proofs.Tryz.func107 (by kernel_rfl)) λ _=>rfl,λ m h=>qcv m h⟩,trivial,trivial⟩),(nP func111 qta (nP func110 qz1 (nP func109 qs2 trivial trivial) trivial) (nP func112 qGH trivial trivial))⟩) (nP func124 qBs ⟨λ c hc=>qo8 (m:=0) hc,(nP func116 qBI (nP func115 qvS (nP func114 qug trivial trivial) trivial) (nP func117 qBC trivial trivial)),(nP func122 qA4 (nP func121 qDs (nP func120 qAD trivial trivial) trivial) (nP func123 qtV trivial trivial))⟩ (nP func129 qyl (nP func127 qA7 (nP func126 qxD (nP func125 qua trivial trivial) trivial) (nP func128 qvt trivial trivial)) (nP func134 qEn (nP func133 qBH (nP func132 qDb trivial trivial) trivial) (nP func135 qvk trivial trivial))))) ⟨qfl (m:=0),(nP func148 qz5 (nP func142 qwX (nP func139 qs5 (nP func138 qs0 (nS func137 qqL trivial trivial) trivial) (nP func141 qf3 (nP func140 qu0 trivial trivial) trivial)) (nP func146 qD9 (nP func145 qBl (nP func143 qz0 trivial trivial) trivial) (nP func147 qxQ trivial trivial))) (nP func153 qz4 (nP func151 qAd (nP func150 qsY (nP func149 qAh trivial trivial) trivial) (nP func152 qEb trivial trivial)) (nP func166 qse (nP func165 qv0 (nP func154 qBY trivial trivial) trivial) (nS func167 qrY trivial trivial)))),(nP func179 qum (nP func174 qyr (nP func171 qrw (nS func170 qqT ⟨qf1 (m:=0),trivial,trivial⟩ trivial) (nP func173 qwm trivial trivial)) (nP func177 qtd (nP func176 qxM (nS func175 qt0 trivial trivial) trivial) (nS func178 qDy trivial trivial))) (nP func189 qa1 ⟨qd8 (m:=0),(nP func186 qqg (nP func185 Q6 trivial trivial) trivial),⟨qd9 (m:=0),trivial,trivial⟩⟩ (nP func192 quz (nP func191 qA6 (nP func190 qpK trivial trivial) trivial) (nP func196 qbF trivial trivial))))⟩))
end Go.AmZ
namespace Go.GxZ
open Go.RowKit Go.ChangeShapes Go.WideShapes Go.ChangeAt
open Go.WideMaps Go.WideElems
section
variable {H:Type} {enc:TypeId × Value->H} {P:Program}
theorem qqE(f:laidOutB P=true){W i:World}(g:Below W.heap.size W i):∀{ts:List TypeId} {vs:List Value} {ds:List (DataW H)} {ps:List MemPlace},
  (∀ t∈ts,P.readableRec t=true/\t<P.types.size)->DataW.TrodAll enc P W 0 (λ _=>true) true ts vs ds ps->(∀ x∈ps,x.block<W.heap.size) ->
  DataW.TrodAll enc P i 0 (λ b=>decide (b<W.heap.size)) true ts vs ds ps
 | [],[],[],_,_,h,_=>h
 | t::ts,v::vs,d::ds,_,e,⟨p,q,m,l,k⟩,a=>by
   subst k;refine⟨p,q,?_,?_,rfl⟩
   ·exact Below.trod f (e t (wh ..)).1 (e t (wh ..)).2 m g λ x c=>a x (vd _ c)
   ·exact qqE f g (λ t j=>e t (wg _ j)) l λ x c=>a x (xX _ c)
 | [],[],_::_,_,_,h,_=>h.elim
 | [],_::_,_,_,_,h,_=>h.elim
 | _::_,[],_,_,_,h,_=>h.elim
 | _::_,_::_,[],_,_,h,_=>h.elim
theorem qK9{f:Func}{s:ChangeSpec}{b g a:Bool}{W A:World}{d:Array Value}{ds k:List (DataW H)}{c:List MemPlace}{ts:List TypeId}{T:TypeId}
  (E:laidOutB P=true) (m:f.params.toList=ts) (C:ts.all (λ t=>P.readableRec t&&decide (t<P.types.size))=true) (u:s.vars=[])
  (n:f.resultTypes = #[T]) (G:P.underlying T=some .bool)
  (y:DataW.Whole enc P f.params.toList s.vars b W d.toList ds k c)
  (i:(s.fn H (ds++k)).results=[.lit (.bool true)]) (e:(s.fn H (ds++k)).args=ds) (l:(s.fn H (ds++k)).vars=[])
  (w:Below W.heap.size W A):s.post enc P f b g a false W d (.bool true) A:=by
 have j:=y;have o := λ x B=>j.lt x B;obtain⟨p,q,I,z,rfl,F,D⟩:=y;rw[u]at z;have r:k=[]/\q=[]:=trodVars_none z;obtain⟨rfl,rfl⟩:=r;rw[wB]at *;refine⟨ds,[],p,[],p,[],?_,?_,?_,?_,?_,λ h=>by cases h⟩
 ·exact j
 ·rw[n,wB,i];exact trodAll_mk1 (shut_bool G _)
 ·rw[wB,e];refine qqE E w (ts:=f.params.toList) ?_ I o;intro t v;rw[m]at v;have:=wv.1 C t v;simpa using this
 ·rw[wB,l,u];rfl
 ·exact w.frame _
end
end Go.GxZ
namespace Go.Proofs.YtckmkimhkhilgaaGreat
theorem Tryz.own:ownKnob Tryz.prog.godebug=none:=by kernel_rfl
theorem Tryz.laidOut:laidOutB Tryz.prog=true:=by kernel_rfl
end Go.Proofs.YtckmkimhkhilgaaGreat
namespace Go.AmZ
open Go Go.GxZ Go.RowKit
theorem qyN:∀(τ : Ty) (v:Val τ),QW τ (yL τ v)=some v:=by
 intro τ v;have h:=Qi τ v;cases τ <;> exact h
def qC2:List ATy->Bool
 | []=>true
 | .val _::r=>qC2 r
 | .fn::_=>false
theorem qq5:∀(ts:List ATy) (a:qbO ts),qC2 ts=true->qd1 ts (Qq ts a [])=some a/\qfV (Qq ts a [])=[]
 | [],_,_=>⟨rfl,rfl⟩
 | .val τ :: r,a,h=>by
   obtain⟨d,c⟩:=qq5 r a.2 h;constructor
   ·show qn1 (QW τ) (qd1 r) (yL τ a.1::Qq r a.2 [])=_;simp only[qn1,qyN,d]
   ·show qfV (yL τ a.1::Qq r a.2 [])=[];have:=(qc0 (qyN τ a.1)).2;cases b:yL τ a.1<;>first | exact c | exact absurd b (this _ _)
 | .fn::_,_,h=>by cases h
theorem law_calls{P:Program}{f:FuncId}{c:TC}(o:qZ P f (JE (jB c f))){ts:List ATy}{fn:qbO ts->Option (qe2 [.bool])}(q:c.pf f []=some ⟨ts,[.bool],fn⟩)(m:qC2 ts=true){a:qbO ts}(h:fn a=some true)
  {W:World} {d:List Value} (k:RepL (ghW W) (Qq ts a []) d):Calls P f d.toArray W λ e w'=>e = .returned (.bool true)/\Below W.heap.size W w':=by
 obtain⟨u,t⟩:=qq5 ts a m
 have n:jB c f (Qq ts a [])=some (.v (.bool true)):=by
  unfold jB;rw[t,q];simp only;rw[u];simp only;rw[h];rfl
 have l:JE (jB c f) emp (Qq ts a [])=some (.v (.bool true),none):=by
  show(match jB c f (Qq ts a [])with | some v=>some (v,none) | none=>none)=_;rw[n]
 have:=o.2 (ghW W) emp W (Qq ts a []) d _ (qMk W) k l;refine Calls.mono this ?_;rintro e w' ⟨v,Γ',rfl,g,_,j,_⟩;have h:=zo j;subst h;refine⟨rfl,g.os,g.tape,g.output,g.size,λ b s=>g.block b s ?_⟩;rintro(⟨i,p,_⟩ | ⟨r,k,_⟩)
 ·exact absurd p (wL _)
 ·exact absurd k (wL _)
theorem qBP{Γ : Gh}{τ : Ty}{x:Val τ}{v:Value}(h:RepL Γ (qi τ x) v.cells.toList)(l:∀ u∈v.cells.toList,u.oneCell'=true)(j : τ.agg=true -> τ.size≠1)(e : τ.agg=false->∀ cs,v ≠ .agg cs):Rep Γ (yL τ x) v:=by
 have c:=h.len;rw[jA]at c
 have agg:yL τ x = .agg (qi τ x) -> τ.agg=true->Rep Γ (yL τ x) v:=by
  intro f g;rw[f];have d:=j g;cases v with
  | agg cs=>exact .agg _ _ h.len l h.rep
  | _=>exact absurd (show τ.size=1 by rw[<- c];rfl) d
 have one:∀{y:AV},qi τ x=[y]->yL τ x=y -> τ.agg=false->Rep Γ (yL τ x) v:=by
  intro y f i g
  have k:v.cells = #[v]:=by
   cases v with
   | agg cs=>exact absurd rfl (e g cs)
   | _=>rfl
  rw[f,k]at h;rw[i];exact h.rep 0 y v rfl rfl
 cases τ with
 | term=>exact agg rfl rfl
 | pair a b=>exact agg rfl rfl
 | one a=>exact agg rfl rfl
 | _=>exact one rfl rfl rfl
open Go.ChangeShapes Go.WideShapes Go.ChangeAt Go.WideMaps Go.WideElems
theorem qMb{P:Program}{n:Nat}{τ : Ty}{t:TypeId}{W:World}{zu:Nat}{v:Value}(b:tyM P n τ t=true)(d:Value.okWide P W .any zu t v) : τ.agg=false->∀ cs,v ≠ .agg cs:=by
 intro f cs;cases n with
 | zero=>cases τ <;> simp[tyM]at b
 | succ n =>
 cases τ with
 | int k =>
   simp only[tyM]at b;split at b
   ·rename_i c;obtain⟨_,rfl⟩:=okWide_int c d;intro h;cases h
   ·cases b
 | bool =>
   simp only[tyM]at b;split at b
   ·rename_i c;obtain⟨_,rfl⟩:=okWide_bool c d;intro h;cases h
   ·cases b
 | str =>
   simp only[tyM]at b;split at b
   ·rename_i c;obtain⟨_,rfl⟩:=okWide_string c d;intro h;cases h
   ·cases b
 | list a =>
   simp only[tyM]at b;split at b
   ·rename_i e c;obtain⟨_,_,_,rfl⟩:=okWide_slice c d;intro h;cases h
   ·cases b
 | _=>cases f
theorem arg_val{H:Type}{enc:TypeId × Value->H}{P:Program}{W:World}{n:Nat}{τ : Ty}{t:TypeId}{v:Value}{d:DataW H}{ps:List MemPlace}{zu:Nat}(b:tyM P n τ t=true)(f : τ.agg=true -> τ.size≠1)(e:Value.okWide P W .any zu t v)
  (h:DataW.Trod enc P W 0 (λ _=>true) true t v d ps) (c:∀ k∈d.weights P t,k<=reachBytes):∃ x:Val τ,Rep (ghW W) (yL τ x) v/\qjT τ x:=by
 obtain⟨a,g⟩:=h;obtain⟨x,l,j,i⟩:=qLX a n τ t v.cells.toList (d,ps) b g c;exact⟨x,qBP l j f (qMb b e),i⟩
end Go.AmZ
