/- Part 6 of what the proofs stand on: plain functions of the program, and that they are its functions. -/
import Derived.Test.YtbpnmbmdbblehaaGreatM5
import Derived.KernelRfl
import Derived.Shelf.SlSortCmp.NoneTotal
import Derived.Test.YtbpnmbmdbblehaaGreatProg
import Derived.Test.YtbpnmbmdbblehaaGreatM4
import Derived.Test.YtbpnmbmdbblehaaGreatM3
import Derived.SliceStrings
import Derived.SizedLaws
import Derived.Test.YtbpnmbmdbblehaaGreatM1
import Derived.ProofKit
import Derived.Test.YtbpnmbmdbblehaaGreatRows
set_option linter.unusedVariables false
set_option linter.unusedSimpArgs false
namespace Go.AmYtbpnmbmdbblehaaGreat
open Go Go.GxYtbpnmbmdbblehaaGreat
set_option linter.unusedVariables false
set_option maxRecDepth 100000
theorem qzd (m a0):qfT (m+1) a0=tb.runP1 m qJu [] (a0,()):=by kernel_rfl
noncomputable def qlL (m k x0 x1 x2):=tb.PL qHo 4 m k [(0,.s x0),(38,.i .i64 x1),(39,.i .i64 x2)] ⟨[],[]⟩
theorem qrT (m k):jO m k=qlL m k:=qN (M:=qlL m) rfl (λ _=>by kernel_rfl) k
theorem quW (m a0):qbh (m+1) a0=tb.runP1 m qHo [] (a0,()):=(congrArg (λ L=>qeA m L a0) (qrT m m)).trans (by kernel_rfl)
noncomputable def qnu (m k x0 x1 x2 x3 x4 x5):=tb.QL i74 17 m k [(1,.i .i64 x0),(2,.ptr 0 0),(3,.ptr 1 0),(57,.sl .term x1 1),(58,.i .i64 x2),(59,.i .i64 x3)] ⟨[[.i .i64 x4],[.i .i64 x5]],[]⟩
theorem quJ (m k):y9 m (zJ m) k=qnu m k:=qN (M:=qnu m) rfl (λ _=>by kernel_rfl) k
theorem qwD (m a0 a1 a2 a3):zJ (m+1) a0 a1 a2 a3=tb.runS1 m i74 (a0,a1,a2,a3,()):=(congrArg (λ L=>qfv m (zJ m) L a0 a1 a2 a3) (quJ m m)).trans (by kernel_rfl)
theorem qwN (m a0):zy (m+1) a0=tb.runP1 m i45 [] (a0,()):=by kernel_rfl
noncomputable def qjQ (m k x0 x1 x2 x3 x4 x5 x6 x7):=tb.PL i95 2 m k [(0,.s x0),(2,.ptr 0 0),(5,.sl (.pair .str (.pair (.int .i64) (.pair (.int .i64) (.int .i64)))) x1 1),(6,.i .i64 x2),(7,.i .i64 x3)] ⟨[[.s x4,.i .i64 x5,.i .i64 x6,.i .i64 x7]],[]⟩
theorem qpT (m k):Qv m k=qjQ m k:=qN (M:=qjQ m) rfl (λ _=>by kernel_rfl) k
theorem qqC (m a0):qaJ (m+1) a0=tb.runP1 m i95 [] (a0,()):=(congrArg (λ L=>qcy m L a0) (qpT m m)).trans (by kernel_rfl)
noncomputable def qkY (m k x0 x1 x2 x3 x4 x5 x6):=tb.PL qDk 13 m k [(1,.ptr 0 0),(38,.sl .term x0 1),(39,.i .i64 x1),(40,.i .i64 x2)] ⟨[[.i .i64 x3,.s x4,.i .i64 x5,.sl .term x6 1]],[]⟩
noncomputable def qkG (m k x0 x1 x2):=tb.PL qDk 22 m k [(62,.sl .term x0 1),(63,.i .i64 x1),(64,.i .i64 x2)] ⟨[],[]⟩
theorem qqz (m k):qO m (qB m) k=(qkY m k,qkG m k):=qN (M := λ k=>(qkY m k,qkG m k)) rfl (λ _=>by kernel_rfl) k
theorem qs5 (m a0):qB (m+1) a0=tb.runP1 m qDk [] (a0,()):=(congrArg (a₁ := qO m (qB m) m) (λ L=>qc8 m (qB m) L.1 L.2 a0) (qqz m m)).trans (by kernel_rfl)
theorem qrY (m a0):qdr (m+1) a0=tb.runP1 m qKw [] (a0,()):=by kernel_rfl
theorem qy2 (m a0 a1):qbY (m+1) a0 a1=tb.runP1 m qJW [] (a0,a1,()):=by kernel_rfl
noncomputable def qoJ (m k x0 x1 x2 x3):=tb.PL qHe 3 m k [(3,.i .i64 x0),(7,.sl .term x1 1),(8,.i .i64 x2),(9,.i .i64 x3)] ⟨[],[]⟩
theorem qwX (m k):qbf m (ju m) k=qoJ m k:=qN (M:=qoJ m) rfl (λ _=>by kernel_rfl) k
theorem qAg (m a0):ju (m+1) a0=tb.runP1 m qHe [] (a0,()):=(congrArg (λ L=>qgi m (ju m) L a0) (qwX m m)).trans (by kernel_rfl)
noncomputable def qkL (m k x0 x1 x2 x3 x4 x5 x6 x7 x8 x9):=tb.PL i78 11 m k [(2,.ptr 0 0),(3,.ptr 1 0),(5,.i .i64 x0),(6,.i .i64 x1)] ⟨[[.i .i64 x2,.s x3,.i .i64 x4,.sl .term x5 1],[.i .i64 x6,.s x7,.i .i64 x8,.sl .term x9 1]],[]⟩
theorem qq0 (m k):jw m (qu m) k=qkL m k:=qN (M:=qkL m) rfl (λ _=>by kernel_rfl) k
theorem qtN (m a0 a1):qu (m+1) a0 a1=tb.runP1 m i78 [] (a0,a1,()):=(congrArg (λ L=>qdl m (qu m) L a0 a1) (qq0 m m)).trans (by kernel_rfl)
theorem quv (m a0 a1):Qn (m+1) a0 a1=tb.runP1 m i92 [] (a0,a1,()):=by kernel_rfl
theorem qyh (m a0 a1):yD (m+1) a0 a1=tb.runP1 m qKh [] (a0,a1,()):=by kernel_rfl
theorem qpK (m a0):J9 (m+1) a0=tb.runP1 m qJ6 [] (a0,()):=by kernel_rfl
noncomputable def JR (m k x0 x1 x2 x3 x4):=tb.PL qCv 3 m k [(0,.sl (.list .term) x0 1),(3,.i .i64 x1),(9,.sl (.list .term) x2 1),(10,.i .i64 x3),(11,.i .i64 x4)] ⟨[],[]⟩
noncomputable def JP (m k x0 x1 x2 x3):=tb.PL qCv 11 m k [(6,.row 0 0),(25,.sl (.list .term) x0 1),(26,.i .i64 x1),(27,.i .i64 x2)] ⟨[],[⟨.term,x3,0,0,false⟩]⟩
theorem qev (m k):ql m k=(JR m k,JP m k):=qN (M := λ k=>(JR m k,JP m k)) rfl (λ _=>by kernel_rfl) k
theorem qeK (m a0):zf (m+1) a0=tb.runP1 m qCv [] (a0,()):=(congrArg (a₁ := ql m m) (λ L=>yJ m L.1 L.2 a0) (qev m m)).trans (by kernel_rfl)
noncomputable def qoQ (m k x0 x1 x2):=tb.PL qGP 4 m k [(14,.sl .term x0 1),(15,.i .i64 x1),(16,.i .i64 x2)] ⟨[],[]⟩
theorem qwM (m k):qbd m k=qoQ m k:=qN (M:=qoQ m) rfl (λ _=>by kernel_rfl) k
theorem qyg (m a0 a1):qhW (m+1) a0 a1=tb.runP1 m qGP [] (a0,a1,()):=(congrArg (λ L=>qgz m L a0 a1) (qwM m m)).trans (by kernel_rfl)
noncomputable def qqc (m k x0 x1 x2):=tb.PL qHa 2 m k [(0,.sl .term x0 1),(1,.sl .term x1 1),(5,.row 0 0)] ⟨[],[⟨.term,x2,0,0,false⟩]⟩
theorem qzv (m k):qck m k=qqc m k:=qN (M:=qqc m) rfl (λ _=>by kernel_rfl) k
theorem qAM (m a0 a1):qhs (m+1) a0 a1=tb.runP1 m qHa [] (a0,a1,()):=(congrArg (λ L=>qhN m L a0 a1) (qzv m m)).trans (by kernel_rfl)
noncomputable def qkx (m k x0 x1 x2 x3):=tb.PL qGI 6 m k [(3,.sl .term x0 1),(31,.sl .term x1 1),(32,.i .i64 x2),(33,.i .i64 x3)] ⟨[],[]⟩
theorem qrK (m k):Qb m (zW m) k=qkx m k:=qN (M:=qkx m) rfl (λ _=>by kernel_rfl) k
theorem qth (m a0):zW (m+1) a0=tb.runP1 m qGI [] (a0,()):=(congrArg (λ L=>qc9 m (zW m) L a0) (qrK m m)).trans (by kernel_rfl)
noncomputable def qnh (m k x0 x1 x2 x3 x4 x5 x6 x7 x8 x9 x10):=tb.PL i97 4 m k [(1,.ptr 0 0),(2,.ptr 1 0),(9,.sl .term x0 1),(10,.i .i64 x1),(11,.i .i64 x2)] ⟨[[.i .i64 x3,.s x4,.i .i64 x5,.row 0 0],[.i .i64 x6,.s x7,.i .i64 x8,.row 1 0]],[⟨.term,x9,0,0,false⟩,⟨.term,x10,0,0,false⟩]⟩
theorem quQ (m k):qai m (yo m) k=qnh m k:=qN (M:=qnh m) rfl (λ _=>by kernel_rfl) k
theorem qw2 (m a0):yo (m+1) a0=tb.runP1 m i97 [] (a0,()):=(congrArg (λ L=>qfo m (yo m) L a0) (quQ m m)).trans (by kernel_rfl)
noncomputable def qkR (m k x0 x1 x2 x3 x4 x5 x6 x7 x8 x9 x10 x11 x12 x13 x14):=tb.PL qHF 4 m k [(5,.ptr 0 0),(6,.ptr 1 0),(8,.ptr 2 0),(9,.ptr 2 0),(14,.sl (.int .i64) x0 1),(15,.i .i64 x1),(16,.i .i64 x2)] ⟨[[.i .i64 x3,.s x4,.i .i64 x5,.sl .term x6 1],[.i .i64 x7,.s x8,.i .i64 x9,.row 0 0],[.i .i64 x10,.s x11,.i .i64 x12,.sl .term x13 1]],[⟨.term,x14,0,0,false⟩]⟩
theorem qrJ (m k):qac m k=qkR m k:=qN (M:=qkR m) rfl (λ _=>by kernel_rfl) k
theorem qsb (m a0 a1 a2):qdQ (m+1) a0 a1 a2=tb.runP1 m qHF [] (a0,a1,a2,()):=(congrArg (λ L=>qc1 m L a0 a1 a2) (qrJ m m)).trans (by kernel_rfl)
noncomputable def qsx (m k x0 x1 x2 x3):=tb.PL qHw 3 m k [(3,.row 0 0),(9,.sl .term x0 1),(10,.i .i64 x1),(11,.i .i64 x2)] ⟨[],[⟨.term,x3,0,0,false⟩]⟩
theorem qAv (m k):qdz m (Q9 m) k=qsx m k:=qN (M:=qsx m) rfl (λ _=>by kernel_rfl) k
theorem qCK (m a0):Q9 (m+1) a0=tb.runP1 m qHw [] (a0,()):=(congrArg (λ L=>qi9 m (Q9 m) L a0) (qAv m m)).trans (by kernel_rfl)
noncomputable def qr7 (m k x0 x1 x2 x3 x4 x5 x6 x7):=tb.PL qGb 6 m k [(2,.ptr 0 0),(5,.sl .term x0 1),(15,.sl .term x1 1),(16,.i .i64 x2),(17,.i .i64 x3)] ⟨[[.i .i64 x4,.s x5,.i .i64 x6,.row 0 0]],[⟨.term,x7,0,0,true⟩]⟩
theorem qAp (m k):qdH m k=qr7 m k:=qN (M:=qr7 m) rfl (λ _=>by kernel_rfl) k
theorem qDq (m a0):qlN (m+1) a0=tb.runP1 m qGb [] (a0,()):=(congrArg (λ L=>qiL m L a0) (qAp m m)).trans (by kernel_rfl)
theorem qoc (m a0):JD (m+1) a0=tb.runP1 m qJx [] (a0,()):=by kernel_rfl
noncomputable def qiH (m k x0 x1 x2 x3 x4 x5 x6 x7 x8 x9):=tb.PL qGH 3 m k [(1,.ptr 0 0),(2,.ptr 1 0),(10,.row 0 0),(11,.i .i64 x0),(12,.i .i64 x1)] ⟨[[.i .i64 x2,.s x3,.i .i64 x4,.row 0 0],[.i .i64 x5,.s x6,.i .i64 x7,.row 1 0]],[⟨.term,x8,0,0,false⟩,⟨.term,x9,0,0,false⟩]⟩
theorem qoO (m k):jT m (zc m) k=qiH m k:=qN (M:=qiH m) rfl (λ _=>by kernel_rfl) k
theorem qpU (m a0):zc (m+1) a0=tb.runP1 m qGH [] (a0,()):=(congrArg (λ L=>qbu m (zc m) L a0) (qoO m m)).trans (by kernel_rfl)
theorem qm9 (m a0 a1):QE (m+1) a0 a1=tb.runP1 m qJI [] (a0,a1,()):=by kernel_rfl
noncomputable def ye (m k x0 x1 x2 x3 x4 x5 x6 x7):=tb.PL qG8 3 m k [(0,.sl (.pair .term (.int .i64)) x0 1),(2,.fn 220 []),(4,.ptr 0 0),(8,.i .i64 x1),(9,.i .i64 x2),(10,.i .i64 x3)] ⟨[[.i .i64 x4,.s x5,.i .i64 x6,.sl .term x7 1]],[]⟩
theorem Qd (m k):qn m k=ye m k:=qN (M:=ye m) rfl (λ _=>by kernel_rfl) k
theorem Qj (m a0 a1):qy (m+1) a0 a1=tb.runP1 m qG8 [220] (a0,a1,()):=(congrArg (λ L=>qD m L a0 a1) (Qd m m)).trans (by kernel_rfl)
theorem qn2 (m a0 a1):JC (m+1) a0 a1=tb.runS1 m qJU (a0,a1,()):=by kernel_rfl
noncomputable def qg2 (m k x0 x1 x2 x3 x4):=tb.QL qHb 12 m k [(0,.row 0 0),(2,.i .i64 x0),(52,.sl .term x1 1),(53,.i .i64 x2),(54,.i .i64 x3)] ⟨[],[⟨(.pair .term (.int .i64)),x4,0,0,false⟩]⟩
theorem qmi (m k):yW m (za m) k=qg2 m k:=qN (M:=qg2 m) rfl (λ _=>by kernel_rfl) k
theorem qnN (m a0 a1 a2):za (m+1) a0 a1 a2=tb.runS1 m qHb (a0,a1,a2,()):=(congrArg (λ L=>qax m (za m) L a0 a1 a2) (qmi m m)).trans (by kernel_rfl)
theorem quA (m a0):J6 (m+1) a0=tb.runP1 m qJA [] (a0,()):=by kernel_rfl
noncomputable def qiC (m k x0 x1 x2 x3):=tb.PL qGR 4 m k [(0,.sl (.pair .term (.int .i64)) x0 1),(9,.sl (.pair .term (.int .i64)) x1 1),(10,.i .i64 x2),(11,.i .i64 x3)] ⟨[],[]⟩
theorem qoE (m k):jo m k=qiC m k:=qN (M:=qiC m) rfl (λ _=>by kernel_rfl) k
theorem qpV (m a0):Jc (m+1) a0=tb.runP1 m qGR [] (a0,()):=(congrArg (λ L=>qbr m L a0) (qoE m m)).trans (by kernel_rfl)
theorem qsW (m a0 a1):qbJ (m+1) a0 a1=tb.runP1 m qKb [] (a0,a1,()):=by kernel_rfl
noncomputable def qjn (m k x0 x1 x2 x3 x4 x5 x6 x7 x8):=tb.PL qzs 6 m k [(2,.ptr 0 0),(5,.row 1 0),(6,.row 2 0),(18,.sl (.pair .term (.int .i64)) x0 1),(19,.i .i64 x1),(20,.i .i64 x2)] ⟨[[.i .i64 x3,.s x4,.i .i64 x5,.row 0 0]],[⟨.term,x6,0,0,false⟩,⟨.term,x7,0,0,false⟩,⟨.term,x8,0,0,false⟩]⟩
noncomputable def qjS (m k x0 x1 x2 x3 x4 x5 x6 x7 x8 x9 x10 x11 x12 x13 x14 x15):=tb.PL qzs 11 m k [(2,.ptr 0 0),(5,.row 1 0),(6,.row 2 0),(8,.ptr 1 0),(18,.sl (.pair .term (.int .i64)) x0 1),(19,.i .i64 x1),(20,.i .i64 x2),(34,.i .i64 x3),(35,.i .i64 x4)] ⟨[[.i .i64 x5,.s x6,.i .i64 x7,.row 0 0],[.i .i64 x8,.s x9,.i .i64 x10,.sl .term x11 1,.i .i64 x12]],[⟨.term,x13,0,0,false⟩,⟨.term,x14,0,0,false⟩,⟨.term,x15,0,0,false⟩]⟩
noncomputable def qjY (m k x0 x1 x2 x3 x4 x5 x6 x7 x8 x9 x10 x11 x12 x13 x14 x15):=tb.PL qzs 15 m k [(2,.ptr 0 0),(5,.row 1 0),(6,.row 2 0),(8,.ptr 1 0),(18,.sl (.pair .term (.int .i64)) x0 1),(19,.i .i64 x1),(20,.i .i64 x2),(46,.i .i64 x3),(47,.i .i64 x4)] ⟨[[.i .i64 x5,.s x6,.i .i64 x7,.row 0 0],[.i .i64 x8,.s x9,.i .i64 x10,.sl .term x11 1,.i .i64 x12]],[⟨.term,x13,0,0,false⟩,⟨.term,x14,0,0,false⟩,⟨.term,x15,0,0,false⟩]⟩
theorem qpL (m k):qw m k=(qjn m k,qjS m k,qjY m k):=qN (M := λ k=>(qjn m k,qjS m k,qjY m k)) rfl (λ _=>by kernel_rfl) k
theorem qqp (m a0):jM (m+1) a0=tb.runP1 m qzs [] (a0,()):=(congrArg (a₁ := qw m m) (λ L=>qcv m L.1 L.2.1 L.2.2 a0) (qpL m m)).trans (by kernel_rfl)
noncomputable def qh9 (m k x0 x1 x2 x3):=tb.QL qGx 3 m k [(3,.row 0 0),(6,.sl (.pair .term (.int .i64)) x0 1),(7,.i .i64 x1),(8,.i .i64 x2)] ⟨[],[⟨(.pair .term (.int .i64)),x3,0,0,false⟩]⟩
theorem qnL (m k):jC m k=qh9 m k:=qN (M:=qh9 m) rfl (λ _=>by kernel_rfl) k
theorem qn8 (m a0):qa1 (m+1) a0=tb.runS1 m qGx (a0,()):=(congrArg (λ L=>qaL m L a0) (qnL m m)).trans (by kernel_rfl)
theorem qmA (m a0):JN (m+1) a0=tb.runP1 m qJ7 [] (a0,()):=by kernel_rfl
noncomputable def jB (m k x0 x1 x2):=tb.PL qHs 2 m k [(0,.sl (.pair .term (.int .i64)) x0 1),(1,.fn 224 []),(7,.i .i64 x1),(8,.i .i64 x2)] ⟨[],[]⟩
theorem qay (m k):qx m k=jB m k:=qN (M:=jB m) rfl (λ _=>by kernel_rfl) k
theorem qaB (m a0):qZ (m+1) a0=tb.runP1 m qHs [224] (a0,()):=(congrArg (λ L=>zq m L a0) (qay m m)).trans (by kernel_rfl)
theorem qad (m a0):qT (m+1) a0=tb.runP1 m qJR [224] (a0,()):=by kernel_rfl
theorem qo8 (m a0):qaX (m+1) a0=tb.runP1 m qJ5 [] (a0,()):=by kernel_rfl
noncomputable def qkv (m k x0 x1 x2 x3):=tb.PL qHm 9 m k [(8,.row 0 0),(23,.sl (.pair .term (.int .i64)) x0 1),(24,.i .i64 x1),(25,.i .i64 x2)] ⟨[],[⟨(.pair .term (.int .i64)),x3,0,0,false⟩]⟩
theorem qrw (m k):QY m k=qkv m k:=qN (M:=qkv m) rfl (λ _=>by kernel_rfl) k
theorem qsR (m a0 a1):qdy (m+1) a0 a1=tb.runP1 m qHm [] (a0,a1,()):=(congrArg (λ L=>qcZ m L a0 a1) (qrw m m)).trans (by kernel_rfl)
theorem qwO (m a0 a1):qem (m+1) a0 a1=tb.runP1 m qJs [] (a0,a1,()):=by kernel_rfl
theorem qsO (m a0 a1):qdq (m+1) a0 a1=tb.runP1 m qJV [] (a0,a1,()):=by kernel_rfl
noncomputable def qjK (m k x0 x1 x2 x3 x4 x5 x6 x7 x8 x9 x10 x11 x12 x13 x14):=tb.PL qGF 5 m k [(1,.ptr 0 0),(2,.ptr 1 0),(4,.ptr 2 0),(19,.sl .term x0 1),(20,.i .i64 x1),(21,.i .i64 x2)] ⟨[[.i .i64 x3,.s x4,.i .i64 x5,.sl .term x6 1],[.i .i64 x7,.s x8,.i .i64 x9,.row 0 0],[.i .i64 x10,.s x11,.i .i64 x12,.row 1 0]],[⟨.term,x13,0,0,false⟩,⟨.term,x14,0,0,false⟩]⟩
theorem qpS (m k):Qw m (zR m) k=qjK m k:=qN (M:=qjK m) rfl (λ _=>by kernel_rfl) k
theorem qrD (m a0):zR (m+1) a0=tb.runP1 m qGF [] (a0,()):=(congrArg (λ L=>qcc m (zR m) L a0) (qpS m m)).trans (by kernel_rfl)
theorem qqO (m a0):qcG (m+1) a0=tb.runP1 m i91 [] (a0,()):=by kernel_rfl
theorem qpM (m a0):qbM (m+1) a0=tb.runP1 m i94 [] (a0,()):=by kernel_rfl
noncomputable def qfK (m k x0 x1 x2):=tb.PL i93 4 m k [(1,.fn 94 []),(18,.sl .term x0 1),(19,.i .i64 x1),(20,.i .i64 x2)] ⟨[],[]⟩
theorem qle (m k):yk m (qJ m) k=qfK m k:=qN (M:=qfK m) rfl (λ _=>by kernel_rfl) k
theorem qlX (m a0):qJ (m+1) a0=tb.runP1 m i93 [94] (a0,()):=(congrArg (λ L=>JB m (qJ m) L a0) (qle m m)).trans (by kernel_rfl)
theorem qs8 (m a0):qdO (m+1) a0=tb.runP1 m i68 [] (a0,()):=by kernel_rfl
theorem qkd (m a0 a1 a2):QB (m+1) a0 a1 a2=tb.runS1 m qKk (a0,a1,a2,()):=by kernel_rfl
noncomputable def qgb (m k x0 x1 x2 x3 x4):=tb.QL qGC 3 m k [(1,.fn 128 [.ptr 0 0,.ptr 1 0]),(10,.sl .term x0 1),(11,.i .i64 x1),(12,.i .i64 x2)] ⟨[[.i .i64 x3],[.row 0 0]],[⟨.term,x4,0,0,false⟩]⟩
theorem qlU (m k):jd m (zb m) k=qgb m k:=qN (M:=qgb m) rfl (λ _=>by kernel_rfl) k
theorem qm4 (m a0 a1_0 a1_1):zb (m+1) a0 a1_0 a1_1=tb.runS1 m qGC (a0,a1_0,a1_1,()):=(congrArg (λ L=>JY m (zb m) L a0 a1_0 a1_1) (qlU m m)).trans (by kernel_rfl)
theorem qpO (m a0 a1):yg (m+1) a0 a1=tb.runP1 m qKn [] (a0,a1,()):=by kernel_rfl
noncomputable def qku (m k x0 x1 x2):=tb.QL qHS 4 m k [(0,.row 0 0),(9,.i .i64 x0),(10,.i .i64 x1)] ⟨[],[⟨.term,x2,0,0,false⟩]⟩
theorem qre (m k):Ja m k=qku m k:=qN (M:=qku m) rfl (λ _=>by kernel_rfl) k
theorem qtr (m a0):qdJ (m+1) a0=tb.runS1 m qHS (a0,()):=(congrArg (λ L=>qdd m L a0) (qre m m)).trans (by kernel_rfl)
theorem quT (m a0 a1):qhO (m+1) a0 a1=tb.runP1 m i96 [] (a0,a1,()):=by kernel_rfl
theorem qzT (m a0):qh3 (m+1) a0=tb.runP1 m i69 [] (a0,()):=by kernel_rfl
theorem qqZ (m a0):jR (m+1) a0=tb.runP1 m i41 [] (a0,()):=by kernel_rfl
noncomputable def qst (m k x0 x1 x2 x3 x4 x5 x6 x7 x8 x9 x10):=tb.PL i70 2 m k [(2,.ptr 0 0),(4,.ptr 1 0),(8,.sl (.int .i64) x0 1),(9,.i .i64 x1),(10,.i .i64 x2)] ⟨[[.i .i64 x3,.s x4,.i .i64 x5,.sl .term x6 1],[.i .i64 x7,.s x8,.i .i64 x9,.row 0 0]],[⟨.term,x10,0,0,false⟩]⟩
theorem qAS (m k):qfM m k=qst m k:=qN (M:=qst m) rfl (λ _=>by kernel_rfl) k
theorem qDG (m a0 a1):qlk (m+1) a0 a1=tb.runP1 m i70 [] (a0,a1,()):=(congrArg (λ L=>qiT m L a0 a1) (qAS m m)).trans (by kernel_rfl)
theorem qpQ (m a0):yQ (m+1) a0=tb.runP1 m i42 [] (a0,()):=by kernel_rfl
theorem qu7 (m a0):qk7 (m+1) a0=tb.runP1 m i12 [] (a0,()):=by kernel_rfl
theorem qn6 (m a0 a1):Jz (m+1) a0 a1=tb.runP1 m i65 [] (a0,a1,()):=by kernel_rfl
theorem qt2 (m a0):qe0 (m+1) a0=tb.runP1 m i73 [] (a0,()):=by kernel_rfl
theorem qsD (m a0):qbO (m+1) a0=tb.runP1 m i44 [] (a0,()):=by kernel_rfl
theorem quK (m a0):qcO (m+1) a0=tb.runP1 m i46 [] (a0,()):=by kernel_rfl
noncomputable def qly (m k x0 x1 x2 x3 x4 x5 x6 x7 x8 x9):=tb.PL i14 7 m k [(4,.ptr 0 0),(6,.ptr 1 0),(21,.i .i64 x0),(22,.i .i64 x1)] ⟨[[.i .i64 x2,.s x3,.i .i64 x4,.row 0 0],[.i .i64 x5,.s x6,.i .i64 x7,.sl .term x8 1]],[⟨.term,x9,0,0,false⟩]⟩
theorem qs4 (m k):qnj m k=qly m k:=qN (M:=qly m) rfl (λ _=>by kernel_rfl) k
theorem qu1 (m a0 a1):qhL (m+1) a0 a1=tb.runP1 m i14 [] (a0,a1,()):=(congrArg (λ L=>qlD m L a0 a1) (qs4 m m)).trans (by kernel_rfl)
theorem qtO (m a0 a1):Js (m+1) a0 a1=tb.runP1 m i76 [] (a0,a1,()):=by kernel_rfl
noncomputable def qnz (m k x0 x1 x2 x3 x4 x5):=tb.PL i77 3 m k [(1,.ptr 0 0),(3,.i .i64 x0),(4,.i .i64 x1)] ⟨[[.i .i64 x2,.s x3,.i .i64 x4,.sl .term x5 1]],[]⟩
theorem quj (m k):qak m (yK m) k=qnz m k:=qN (M:=qnz m) rfl (λ _=>by kernel_rfl) k
theorem qw4 (m a0):yK (m+1) a0=tb.runP1 m i77 [] (a0,()):=(congrArg (λ L=>qff m (yK m) L a0) (quj m m)).trans (by kernel_rfl)
noncomputable def qjF (m k x0 x1 x2 x3 x4 x5 x6 x7 x8):=tb.PL i50 18 m k [(2,.ptr 0 0),(3,.ptr 1 0),(9,.i .i64 x0)] ⟨[[.i .i64 x1,.s x2,.i .i64 x3,.sl .term x4 1],[.i .i64 x5,.s x6,.i .i64 x7,.sl .term x8 1]],[]⟩
theorem qpP (m k):Qz m (zl m) k=qjF m k:=qN (M:=qjF m) rfl (λ _=>by kernel_rfl) k
theorem qrr (m a0 a1):zl (m+1) a0 a1=tb.runP1 m i50 [] (a0,a1,()):=(congrArg (λ L=>qcn m (zl m) L a0 a1) (qpP m m)).trans (by kernel_rfl)
theorem qxc (m a0 a1):yI (m+1) a0 a1=tb.runP1 m i17 [] (a0,a1,()):=by kernel_rfl
noncomputable def qjr (m k x0 x1 x2 x3 x4 x5 x6 x7 x8 x9 x10):=tb.PL i21 5 m k [(1,.ptr 0 0),(3,.i .i64 x0),(39,.sl (.pair (.int .i64) .term) x1 1),(40,.i .i64 x2),(41,.i .i64 x3)] ⟨[[.i .i64 x4,.s x5,.i .i64 x6,.sl .term x7 1,.i .i64 x8,.sl (.pair (.int .i64) .term) x9 1,.i .i64 x10]],[]⟩
theorem qp3 (m k):Qt m k=qjr m k:=qN (M:=qjr m) rfl (λ _=>by kernel_rfl) k
theorem qri (m a0):qaG (m+1) a0=tb.runP1 m i21 [] (a0,()):=(congrArg (λ L=>qcs m L a0) (qp3 m m)).trans (by kernel_rfl)
noncomputable def qlB (m k x0 x1 x2 x3 x4 x5 x6 x7 x8 x9 x10 x11 x12 x13 x14 x15 x16 x17):=tb.QL i51 4 m k [(1,.ptr 0 0),(2,.ptr 1 0),(3,.row 2 0),(11,.sl (.pair (.int .i64) .term) x0 1),(12,.i .i64 x1),(13,.i .i64 x2)] ⟨[[.i .i64 x3,.s x4,.i .i64 x5,.sl .term x6 1,.i .i64 x7,.sl (.pair (.int .i64) .term) x8 1,.i .i64 x9],[.i .i64 x10,.s x11,.i .i64 x12,.row 0 0,.i .i64 x13,.row 1 0,.i .i64 x14]],[⟨.term,x15,0,0,false⟩,⟨(.pair (.int .i64) .term),x16,0,0,false⟩,⟨(.pair (.int .i64) .term),x17,0,0,false⟩]⟩
theorem qsN (m k):JF m k=qlB m k:=qN (M:=qlB m) rfl (λ _=>by kernel_rfl) k
theorem quN (m a0):qeT (m+1) a0=tb.runS1 m i51 (a0,()):=(congrArg (λ L=>qen m L a0) (qsN m m)).trans (by kernel_rfl)
theorem qp2 (m a0 a1):qaa (m+1) a0 a1=tb.runP1 m i54 [] (a0,a1,()):=by kernel_rfl
noncomputable def qia (m k x0 x1 x2 x3 x4 x5 x6 x7 x8 x9 x10 x11 x12 x13 x14 x15 x16 x17 x18 x19 x20 x21 x22):=tb.PL i19 17 m k [(3,.ptr 0 0),(4,.ptr 1 0),(5,.ptr 2 0),(7,.ptr 3 0)] ⟨[[.i .i64 x0,.i .i64 x1,.s x2,.i .i64 x3,.sl .term x4 1],[.i .i64 x5,.s x6,.i .i64 x7,.row 0 0,.i .i64 x8,.row 1 0,.i .i64 x9],[.i .i64 x10,.s x11,.i .i64 x12,.row 2 0],[.i .i64 x13,.s x14,.i .i64 x15,.sl .term x16 1,.i .i64 x17,.row 3 0,.i .i64 x18]],[⟨.term,x19,0,0,false⟩,⟨(.pair (.int .i64) .term),x20,0,0,false⟩,⟨.term,x21,0,0,false⟩,⟨(.pair (.int .i64) .term),x22,0,0,true⟩]⟩
theorem qnJ (m k):jD m k=qia m k:=qN (M:=qia m) rfl (λ _=>by kernel_rfl) k
theorem qo4 (m a0 a1):jI (m+1) a0 a1=tb.runP1 m i19 [] (a0,a1,()):=(congrArg (λ L=>qaS m L a0 a1) (qnJ m m)).trans (by kernel_rfl)
theorem qwA (m a0 a1):qgV (m+1) a0 a1=tb.runP1 m i23 [] (a0,a1,()):=by kernel_rfl
theorem qwP (m):qey (m+1)=tb.runP1 m i22 [] (()):=by kernel_rfl
theorem qsq (m a0):qap (m+1) a0=tb.runP1 m qJO [] (a0,()):=by kernel_rfl
theorem qt1 (m a0):qcQ (m+1) a0=tb.runP1 m qJl [] (a0,()):=by kernel_rfl
noncomputable def qno (m k x0 x1):=tb.PL i86 2 m k [(0,.s x0),(3,.i .i64 x1)] ⟨[],[]⟩
theorem qug (m k):qoj m k=qno m k:=qN (M:=qno m) rfl (λ _=>by kernel_rfl) k
theorem qwF (m a0):qgf (m+1) a0=tb.runP1 m i86 [] (a0,()):=(congrArg (λ L=>qnf m L a0) (qug m m)).trans (by kernel_rfl)
noncomputable def qkW (m k x0 x1):=tb.PL i87 4 m k [(0,.s x0),(3,.i .i64 x1)] ⟨[],[]⟩
theorem qrl (m k):QR m k=qkW m k:=qN (M:=qkW m) rfl (λ _=>by kernel_rfl) k
theorem qtT (m a0):Qy (m+1) a0=tb.runP1 m i87 [] (a0,()):=(congrArg (λ L=>qdo m L a0) (qrl m m)).trans (by kernel_rfl)
theorem qxq (m a0):qmr (m+1) a0=tb.runP1 m qJy [] (a0,()):=by kernel_rfl
noncomputable def qnD (m k x0 x1 x2 x3 x4 x5 x6 x7 x8 x9 x10):=tb.PL i88 5 m k [(1,.s x0),(2,.ptr 0 0),(4,.ptr 1 0),(7,.s x1),(8,.i .i64 x2)] ⟨[[.i .i64 x3,.s x4,.i .i64 x5,.sl .term x6 1],[.i .i64 x7,.s x8,.i .i64 x9,.row 0 0]],[⟨.term,x10,0,0,false⟩]⟩
theorem quw (m k):qo7 m k=qnD m k:=qN (M:=qnD m) rfl (λ _=>by kernel_rfl) k
theorem qw8 (m a0 a1):qiP (m+1) a0 a1=tb.runP1 m i88 [] (a0,a1,()):=(congrArg (λ L=>qnF m L a0 a1) (quw m m)).trans (by kernel_rfl)
noncomputable def qnG (m k x0 x1 x2 x3 x4 x5 x6 x7 x8 x9):=tb.PL i66 13 m k [(0,.s x0),(1,.i .i64 x1),(4,.ptr 0 0),(7,.ptr 1 0)] ⟨[[.i .i64 x2,.s x3,.i .i64 x4,.row 0 0],[.i .i64 x5,.s x6,.i .i64 x7,.row 1 0]],[⟨.term,x8,0,0,false⟩,⟨.term,x9,0,0,false⟩]⟩
theorem qt4 (m k):qpa m (qf3 m) k=qnG m k:=qN (M:=qnG m) rfl (λ _=>by kernel_rfl) k
theorem qwU (m a0 a1):qf3 (m+1) a0 a1=tb.runP1 m i66 [] (a0,a1,()):=(congrArg (λ L=>qnE m (qf3 m) L a0 a1) (qt4 m m)).trans (by kernel_rfl)
theorem qwJ (m a0):qgs (m+1) a0=tb.runP1 m qJF [] (a0,()):=by kernel_rfl
noncomputable def qlt (m k x0 x1 x2 x3 x4):=tb.PL i89 5 m k [(1,.ptr 0 0),(4,.i .i64 x0)] ⟨[[.i .i64 x1,.s x2,.i .i64 x3,.sl .term x4 1]],[]⟩
theorem qrU (m k):JI m (yT m) k=qlt m k:=qN (M:=qlt m) rfl (λ _=>by kernel_rfl) k
theorem quB (m a0):yT (m+1) a0=tb.runP1 m i89 [] (a0,()):=(congrArg (λ L=>qea m (yT m) L a0) (qrU m m)).trans (by kernel_rfl)
noncomputable def qlA (m k x0 x1 x2 x3 x4 x5):=tb.PL i90 3 m k [(1,.ptr 0 0),(3,.i .i64 x0),(4,.i .i64 x1)] ⟨[[.i .i64 x2,.s x3,.i .i64 x4,.sl .term x5 1]],[]⟩
theorem qs2 (m k):JJ m (yR m) k=qlA m k:=qN (M:=qlA m) rfl (λ _=>by kernel_rfl) k
theorem quh (m a0):yR (m+1) a0=tb.runP1 m i90 [] (a0,()):=(congrArg (λ L=>qec m (yR m) L a0) (qs2 m m)).trans (by kernel_rfl)
theorem qvg (m a0):zM (m+1) a0=tb.runP1 m i67 [] (a0,()):=by kernel_rfl
theorem quU (m a0):qhH (m+1) a0=tb.runP1 m i38 [] (a0,()):=by kernel_rfl
theorem qrA (m):qfq (m+1)=tb.runP1 m qKt [] (()):=by kernel_rfl
noncomputable def qnH (m k x0 x1 x2):=tb.PL qGm 3 m k [(0,.s x0),(3,.sl (.pair .str (.pair (.int .i64) (.pair (.int .i64) (.int .i64)))) x1 1),(4,.i .i64 x2)] ⟨[],[]⟩
theorem qvn (m k):qae m k=qnH m k:=qN (M:=qnH m) rfl (λ _=>by kernel_rfl) k
theorem qxp (m a0):qcd (m+1) a0=tb.runP1 m qGm [] (a0,()):=(congrArg (λ L=>qfh m L a0) (qvn m m)).trans (by kernel_rfl)
noncomputable def qnq (m k x0 x1 x2 x3 x4 x5):=tb.PL qGV 3 m k [(1,.ptr 0 0),(3,.sl (.pair .str (.pair (.int .i64) (.pair (.int .i64) (.int .i64)))) x0 1),(4,.i .i64 x1)] ⟨[[.i .i64 x2,.s x3,.i .i64 x4,.sl .term x5 1]],[]⟩
theorem qun (m k):qal m k=qnq m k:=qN (M:=qnq m) rfl (λ _=>by kernel_rfl) k
theorem qxg (m a0):qgo (m+1) a0=tb.runP1 m qGV [] (a0,()):=(congrArg (λ L=>qfn m L a0) (qun m m)).trans (by kernel_rfl)
noncomputable def qkJ (m k x0 x1 x2 x3 x4):=tb.PL qGg 4 m k [(1,.ptr 0 0),(3,.i .i64 x0)] ⟨[[.i .i64 x1,.s x2,.i .i64 x3,.sl .term x4 1]],[]⟩
theorem qqX (m k):Q5 m k=qkJ m k:=qN (M:=qkJ m) rfl (λ _=>by kernel_rfl) k
theorem qsk (m a0):qdL (m+1) a0=tb.runP1 m qGg [] (a0,()):=(congrArg (λ L=>qc2 m L a0) (qqX m m)).trans (by kernel_rfl)
noncomputable def qlO (m k x0 x1 x2 x3 x4):=tb.PL qF8 11 m k [(1,.ptr 0 0),(4,.i .i64 x0)] ⟨[[.i .i64 x1,.s x2,.i .i64 x3,.sl .term x4 1]],[]⟩
theorem qsh (m k):QH m (yx m) k=qlO m k:=qN (M:=qlO m) rfl (λ _=>by kernel_rfl) k
theorem qu0 (m a0):yx (m+1) a0=tb.runP1 m qF8 [] (a0,()):=(congrArg (λ L=>qej m (yx m) L a0) (qsh m m)).trans (by kernel_rfl)
theorem qvj (m a0):qeY (m+1) a0=tb.runP1 m qKi [] (a0,()):=by kernel_rfl
theorem qyN (m a0 a1):yC (m+1) a0 a1=tb.runP1 m i64 [] (a0,a1,()):=by kernel_rfl
theorem qA3 (m a0 a1):JK (m+1) a0 a1=tb.runP1 m i79 [] (a0,a1,()):=by kernel_rfl
theorem qrS (m a0):qcF (m+1) a0=tb.runP1 m qKs [] (a0,()):=by kernel_rfl
noncomputable def qoy (m k x0 x1 x2 x3 x4 x5):=tb.PL i81 2 m k [(0,.sl .term x0 1),(3,.ptr 0 0),(5,.i .i64 x1)] ⟨[[.i .i64 x2,.s x3,.i .i64 x4,.sl .term x5 1]],[]⟩
theorem qxk (m k):qbj m k=qoy m k:=qN (M:=qoy m) rfl (λ _=>by kernel_rfl) k
theorem qyq (m a0 a1):qhS (m+1) a0 a1=tb.runP1 m i81 [] (a0,a1,()):=(congrArg (λ L=>qgQ m L a0 a1) (qxk m m)).trans (by kernel_rfl)
noncomputable def qo1 (m k x0 x1 x2 x3 x4 x5 x6 x7):=tb.PL i85 4 m k [(0,.sl .term x0 1),(3,.ptr 0 0),(5,.row 0 0),(6,.b x1),(7,.i .i64 x2)] ⟨[[.i .i64 x3,.s x4,.i .i64 x5,.sl .term x6 1]],[⟨.term,x7,0,0,false⟩]⟩
theorem qwG (m k):qbe m k=qo1 m k:=qN (M:=qo1 m) rfl (λ _=>by kernel_rfl) k
theorem qzB (m a0 a1):qf1 (m+1) a0 a1=tb.runP1 m i85 [] (a0,a1,()):=(congrArg (λ L=>qgM m L a0 a1) (qwG m m)).trans (by kernel_rfl)
noncomputable def qkI (m k x0 x1 x2 x3 x4 x5 x6):=tb.PL qF6 5 m k [(0,.sl .term x0 1),(3,.ptr 0 0),(5,.row 0 0),(6,.i .i64 x1)] ⟨[[.i .i64 x2,.s x3,.i .i64 x4,.sl .term x5 1]],[⟨.term,x6,0,0,false⟩]⟩
theorem qq1 (m k):QX m k=qkI m k:=qN (M:=qkI m) rfl (λ _=>by kernel_rfl) k
theorem qtV (m a0 a1):qdY (m+1) a0 a1=tb.runP1 m qF6 [] (a0,a1,()):=(congrArg (λ L=>qcY m L a0 a1) (qq1 m m)).trans (by kernel_rfl)
noncomputable def qnp (m k x0 x1 x2):=tb.PL qHi 3 m k [(1,.sl .term x0 1),(5,.sl .term x1 1),(6,.i .i64 x2)] ⟨[],[]⟩
theorem quF (m k):Jt m k=qnp m k:=qN (M:=qnp m) rfl (λ _=>by kernel_rfl) k
theorem qw1 (m a0 a1):qez (m+1) a0 a1=tb.runP1 m qHi [] (a0,a1,()):=(congrArg (λ L=>qfm m L a0 a1) (quF m m)).trans (by kernel_rfl)
noncomputable def qiF (m k x0 x1 x2 x3 x4 x5):=tb.PL qHj 7 m k [(1,.ptr 0 0),(3,.sl .term x0 1),(4,.i .i64 x1)] ⟨[[.i .i64 x2,.s x3,.i .i64 x4,.sl .term x5 1]],[]⟩
theorem qot (m k):jp m (zx m) k=qiF m k:=qN (M:=qiF m) rfl (λ _=>by kernel_rfl) k
theorem qp1 (m a0):zx (m+1) a0=tb.runP1 m qHj [] (a0,()):=(congrArg (λ L=>qbB m (zx m) L a0) (qot m m)).trans (by kernel_rfl)
noncomputable def ql0 (m k x0 x1 x2 x3 x4 x5):=tb.PL qGt 4 m k [(0,.sl .term x0 1),(3,.ptr 0 0),(5,.i .i64 x1)] ⟨[[.i .i64 x2,.s x3,.i .i64 x4,.sl .term x5 1]],[]⟩
theorem qtn (m k):JE m k=ql0 m k:=qN (M:=ql0 m) rfl (λ _=>by kernel_rfl) k
theorem quy (m a0 a1):qeX (m+1) a0 a1=tb.runP1 m qGt [] (a0,a1,()):=(congrArg (λ L=>qer m L a0 a1) (qtn m m)).trans (by kernel_rfl)
theorem qwB (m):qf6 (m+1)=tb.runP1 m qJm [] (()):=by kernel_rfl
theorem qwu (m a0):qgk (m+1) a0=tb.runP1 m qKr [] (a0,()):=by kernel_rfl
noncomputable def qo6 (m k x0 x1 x2 x3 x4 x5 x6):=tb.PL qHh 6 m k [(0,.sl .term x0 1),(2,.ptr 0 0),(5,.sl .term x1 1),(6,.i .i64 x2)] ⟨[[.i .i64 x3,.s x4,.i .i64 x5,.row 0 0]],[⟨.term,x6,0,0,true⟩]⟩
theorem qxo (m k):qa7 m k=qo6 m k:=qN (M:=qo6 m) rfl (λ _=>by kernel_rfl) k
theorem qyA (m a0):qib (m+1) a0=tb.runP1 m qHh [] (a0,()):=(congrArg (λ L=>qgd m L a0) (qxo m m)).trans (by kernel_rfl)
theorem qqL (m a0):JL (m+1) a0=tb.runP1 m qKm [] (a0,()):=by kernel_rfl
noncomputable def qlE (m k x0 x1 x2 x3 x4 x5):=tb.PL qGG 7 m k [(1,.ptr 0 0),(3,.i .i64 x0),(4,.i .i64 x1)] ⟨[[.i .i64 x2,.s x3,.i .i64 x4,.sl .term x5 1]],[]⟩
theorem qs1 (m k):QG m (yw m) k=qlE m k:=qN (M:=qlE m) rfl (λ _=>by kernel_rfl) k
theorem qu4 (m a0):yw (m+1) a0=tb.runP1 m qGG [] (a0,()):=(congrArg (λ L=>qef m (yw m) L a0) (qs1 m m)).trans (by kernel_rfl)
noncomputable def qnS (m k x0 x1 x2 x3 x4 x5 x6 x7 x8):=tb.QL qHf 4 m k [(0,.row 0 0),(2,.i .i64 x0),(4,.ptr 0 0),(7,.row 1 0),(8,.b x1),(9,.i .i64 x2)] ⟨[[.i .i64 x3,.s x4,.i .i64 x5,.sl .term x6 1]],[⟨(.pair .term (.int .i64)),x7,0,0,false⟩,⟨(.pair .term (.int .i64)),x8,0,0,false⟩]⟩
theorem qxj (m k):Jm m k=qnS m k:=qN (M:=qnS m) rfl (λ _=>by kernel_rfl) k
theorem qz7 (m a0 a1 a2):qfL (m+1) a0 a1 a2=tb.runS1 m qHf (a0,a1,a2,()):=(congrArg (λ L=>qgZ m L a0 a1 a2) (qxj m m)).trans (by kernel_rfl)
noncomputable def qjH (m k x0 x1 x2 x3 x4 x5 x6):=tb.QL qF1 6 m k [(0,.row 0 0),(2,.i .i64 x0),(4,.ptr 0 0),(7,.i .i64 x1)] ⟨[[.i .i64 x2,.s x3,.i .i64 x4,.sl .term x5 1]],[⟨(.pair .term (.int .i64)),x6,0,0,false⟩]⟩
theorem qp4 (m k):jH m (zK m) k=qjH m k:=qN (M:=qjH m) rfl (λ _=>by kernel_rfl) k
theorem qrj (m a0 a1 a2):zK (m+1) a0 a1 a2=tb.runS1 m qF1 (a0,a1,a2,()):=(congrArg (λ L=>qb7 m (zK m) L a0 a1 a2) (qp4 m m)).trans (by kernel_rfl)
theorem qAw (m a0):qfH (m+1) a0=tb.runP1 m qKc [] (a0,()):=by kernel_rfl
noncomputable def qlT (m k x0 x1):=tb.PL qG7 4 m k [(0,.sl (.pair .term (.int .i64)) x0 1),(3,.i .i64 x1)] ⟨[],[]⟩
theorem qrW (m k):QF m k=qlT m k:=qN (M:=qlT m) rfl (λ _=>by kernel_rfl) k
theorem qt5 (m a0):qbk (m+1) a0=tb.runP1 m qG7 [] (a0,()):=(congrArg (λ L=>qed m L a0) (qrW m m)).trans (by kernel_rfl)
noncomputable def qiI (m k x0 x1 x2):=tb.PL qu6 3 m k [(0,.sl (.pair .term (.int .i64)) x0 1),(3,.row 0 0),(4,.i .i64 x1)] ⟨[],[⟨.term,x2,0,0,false⟩]⟩
noncomputable def qiy (m k x0 x1 x2 x3):=tb.PL qu6 6 m k [(0,.sl (.pair .term (.int .i64)) x0 1),(3,.row 0 0),(4,.i .i64 x1),(5,.i .i64 x2)] ⟨[],[⟨.term,x3,0,0,false⟩]⟩
noncomputable def qiB (m k x0 x1 x2):=tb.PL qu6 10 m k [(0,.sl (.pair .term (.int .i64)) x0 1),(3,.row 0 0),(6,.i .i64 x1)] ⟨[],[⟨.term,x2,0,0,false⟩]⟩
noncomputable def qiw (m k x0 x1 x2 x3):=tb.PL qu6 13 m k [(0,.sl (.pair .term (.int .i64)) x0 1),(3,.row 0 0),(6,.i .i64 x1),(7,.i .i64 x2)] ⟨[],[⟨.term,x3,0,0,false⟩]⟩
theorem qoz (m k):qk m k=(qiI m k,qiy m k,qiB m k,qiw m k):=qN (M := λ k=>(qiI m k,qiy m k,qiB m k,qiw m k)) rfl (λ _=>by kernel_rfl) k
theorem qpY (m a0):qbE (m+1) a0=tb.runP1 m qu6 [] (a0,()):=(congrArg (a₁ := qk m m) (λ L=>qbx m L.1 L.2.1 L.2.2.1 L.2.2.2 a0) (qoz m m)).trans (by kernel_rfl)
theorem qxi (m a0):qa6 (m+1) a0=tb.runP1 m qJE [] (a0,()):=by kernel_rfl
theorem qrk (m a0):qaI (m+1) a0=tb.runP1 m qKo [] (a0,()):=by kernel_rfl
noncomputable def qjv (m k x0 x1):=tb.PL qGd 2 m k [(0,.sl (.pair .term (.int .i64)) x0 1),(3,.i .i64 x1)] ⟨[],[]⟩
theorem qpN (m k):Qu m k=qjv m k:=qN (M:=qjv m) rfl (λ _=>by kernel_rfl) k
theorem qqt (m a0):qcC (m+1) a0=tb.runP1 m qGd [] (a0,()):=(congrArg (λ L=>qcg m L a0) (qpN m m)).trans (by kernel_rfl)
noncomputable def qor (m k x0 x1 x2):=tb.PL qFU 9 m k [(1,.sl (.pair .term (.int .i64)) x0 1),(8,.row 0 0),(9,.i .i64 x1)] ⟨[],[⟨(.pair .term (.int .i64)),x2,0,0,false⟩]⟩
theorem qwz (m k):J8 m k=qor m k:=qN (M:=qor m) rfl (λ _=>by kernel_rfl) k
theorem qzL (m a0 a1):qhP (m+1) a0 a1=tb.runP1 m qFU [] (a0,a1,()):=(congrArg (λ L=>qgq m L a0 a1) (qwz m m)).trans (by kernel_rfl)
theorem qvi (m a0 a1):qe2 (m+1) a0 a1=tb.runP1 m qJp [] (a0,a1,()):=by kernel_rfl
noncomputable def qk1 (m k x0 x1 x2 x3 x4 x5 x6 x7 x8 x9):=tb.PL qGJ 5 m k [(1,.ptr 0 0),(2,.ptr 1 0),(4,.row 1 0),(5,.i .i64 x0)] ⟨[[.i .i64 x1,.s x2,.i .i64 x3,.sl .term x4 1],[.i .i64 x5,.s x6,.i .i64 x7,.row 0 0]],[⟨.term,x8,0,0,false⟩,⟨.term,x9,0,0,false⟩]⟩
theorem qrN (m k):Q8 m (yl m) k=qk1 m k:=qN (M:=qk1 m) rfl (λ _=>by kernel_rfl) k
theorem qtQ (m a0):yl (m+1) a0=tb.runP1 m qGJ [] (a0,()):=(congrArg (λ L=>qda m (yl m) L a0) (qrN m m)).trans (by kernel_rfl)
theorem qs9 (m a0):qdX (m+1) a0=tb.runP1 m i98 [] (a0,()):=by kernel_rfl
noncomputable def qou (m k x0 x1 x2 x3 x4 x5):=tb.PL i99 3 m k [(1,.ptr 0 0),(3,.row 0 0),(4,.i .i64 x0)] ⟨[[.i .i64 x1,.s x2,.i .i64 x3,.sl .term x4 1]],[⟨.term,x5,0,0,true⟩]⟩
theorem qwv (m k):qbl m (jr m) k=qou m k:=qN (M:=qou m) rfl (λ _=>by kernel_rfl) k
theorem qzY (m a0):jr (m+1) a0=tb.runP1 m i99 [] (a0,()):=(congrArg (λ L=>qgW m (jr m) L a0) (qwv m m)).trans (by kernel_rfl)
noncomputable def qlQ (m k x0 x1):=tb.PL i71 6 m k [(5,.sl .term x0 1),(6,.i .i64 x1)] ⟨[],[]⟩
theorem qr5 (m k):JM m k=qlQ m k:=qN (M:=qlQ m) rfl (λ _=>by kernel_rfl) k
theorem qvr (m a0):qeV (m+1) a0=tb.runP1 m i71 [] (a0,()):=(congrArg (λ L=>qee m L a0) (qr5 m m)).trans (by kernel_rfl)
noncomputable def qof (m k x0 x1 x2):=tb.PL i62 3 m k [(0,.sl .term x0 1),(3,.sl .term x1 1),(4,.i .i64 x2)] ⟨[],[]⟩
theorem qxa (m k):qbm m k=qof m k:=qN (M:=qof m) rfl (λ _=>by kernel_rfl) k
theorem qzr (m a0):qhR (m+1) a0=tb.runP1 m i62 [] (a0,()):=(congrArg (λ L=>qge m L a0) (qxa m m)).trans (by kernel_rfl)
noncomputable def qns (m k x0 x1 x2 x3):=tb.PL qHg 4 m k [(1,.i .i64 x0),(5,.row 0 0),(6,.sl .term x1 1),(7,.i .i64 x2)] ⟨[],[⟨.term,x3,0,0,false⟩]⟩
theorem qu9 (m k):qat m k=qns m k:=qN (M:=qns m) rfl (λ _=>by kernel_rfl) k
theorem qwY (m a0 a1):qgE (m+1) a0 a1=tb.runP1 m qHg [] (a0,a1,()):=(congrArg (λ L=>qfk m L a0 a1) (qu9 m m)).trans (by kernel_rfl)
theorem qxl (m a0):qf9 (m+1) a0=tb.runP1 m qKe [] (a0,()):=by kernel_rfl
theorem qtH (m a0):qdp (m+1) a0=tb.runP1 m i72 [] (a0,()):=by kernel_rfl
theorem qsG (m a0):Qo (m+1) a0=tb.runP1 m i43 [] (a0,()):=by kernel_rfl
theorem qx3 (m a0):qoI (m+1) a0=tb.runP1 m i13 [] (a0,()):=by kernel_rfl
noncomputable def qlR (m k x0 x1 x2 x3 x4 x5 x6 x7 x8):=tb.PL i25 5 m k [(1,.ptr 0 0),(3,.i .i64 x0),(4,.i .i64 x1)] ⟨[[.i .i64 x2,.s x3,.i .i64 x4,.sl .term x5 1,.i .i64 x6,.sl (.pair (.int .i64) .term) x7 1,.i .i64 x8]],[]⟩
theorem qsi (m k):JG m k=qlR m k:=qN (M:=qlR m) rfl (λ _=>by kernel_rfl) k
theorem qu2 (m a0):qcN (m+1) a0=tb.runP1 m i25 [] (a0,()):=(congrArg (λ L=>qd4 m L a0) (qsi m m)).trans (by kernel_rfl)
theorem qqG (m a0 a1):qaH (m+1) a0 a1=tb.runP1 m i75 [] (a0,a1,()):=by kernel_rfl
theorem qwE (m a0):jN (m+1) a0=tb.runP1 m i47 [] (a0,()):=by kernel_rfl
theorem qwL (m a0):qaR (m+1) a0=tb.runP1 m i48 [] (a0,()):=by kernel_rfl
theorem qzx (m a0):qaV (m+1) a0=tb.runP1 m i49 [] (a0,()):=by kernel_rfl
theorem qws (m a0 a1):qmy (m+1) a0 a1=tb.runP1 m i35 [] (a0,a1,()):=by kernel_rfl
noncomputable def qnC (m k x0 x1 x2 x3 x4 x5 x6 x7 x8 x9):=tb.PL i39 4 m k [(0,.i .i64 x0),(3,.ptr 0 0),(5,.row 0 0),(6,.i .i64 x1)] ⟨[[.i .i64 x2,.s x3,.i .i64 x4,.sl .term x5 1,.i .i64 x6,.sl (.pair (.int .i64) .term) x7 1,.i .i64 x8]],[⟨(.pair (.int .i64) .term),x9,0,0,false⟩]⟩
theorem quq (m k):qoP m k=qnC m k:=qN (M:=qnC m) rfl (λ _=>by kernel_rfl) k
theorem qw0 (m a0):qm8 (m+1) a0=tb.runP1 m i39 [] (a0,()):=(congrArg (λ L=>qnB m L a0) (quq m m)).trans (by kernel_rfl)
theorem quL (m):qbb (m+1)=tb.runP1 m i10 [] (()):=by kernel_rfl
noncomputable def qk0 (m k x0 x1 x2 x3 x4 x5):=tb.PL i40 5 m k [(1,.i .i64 x0),(2,.ptr 0 0),(5,.i .i64 x1)] ⟨[[.i .i64 x2,.s x3,.i .i64 x4,.sl .term x5 1]],[]⟩
theorem qqB (m k):QT m (yt m) k=qk0 m k:=qN (M:=qk0 m) rfl (λ _=>by kernel_rfl) k
theorem qr9 (m a0 a1):yt (m+1) a0 a1=tb.runP1 m i40 [] (a0,a1,()):=(congrArg (λ L=>qdj m (yt m) L a0 a1) (qqB m m)).trans (by kernel_rfl)
noncomputable def qol (m k x0 x1 x2):=tb.PL i11 4 m k [(0,.sl .term x0 1),(2,.i .i64 x1),(7,.i .i64 x2)] ⟨[],[]⟩
theorem qww (m k):qbg m k=qol m k:=qN (M:=qol m) rfl (λ _=>by kernel_rfl) k
theorem qya (m a0 a1 a2):qfX (m+1) a0 a1 a2=tb.runP1 m i11 [] (a0,a1,a2,()):=(congrArg (λ L=>qgG m L a0 a1 a2) (qww m m)).trans (by kernel_rfl)
noncomputable def qnI (m k x0 x1 x2 x3 x4 x5 x6 x7 x8 x9 x10 x11 x12 x13 x14):=tb.PL i16 4 m k [(2,.ptr 0 0),(3,.ptr 1 0),(5,.i .i64 x0)] ⟨[[.i .i64 x1,.s x2,.i .i64 x3,.sl .term x4 1,.i .i64 x5,.sl (.pair (.int .i64) .term) x6 1,.i .i64 x7],[.i .i64 x8,.s x9,.i .i64 x10,.sl .term x11 1,.i .i64 x12,.sl (.pair (.int .i64) .term) x13 1,.i .i64 x14]],[]⟩
theorem qva (m k):qaj m k=qnI m k:=qN (M:=qnI m) rfl (λ _=>by kernel_rfl) k
theorem qwT (m a0 a1):qgu (m+1) a0 a1=tb.runP1 m i16 [] (a0,a1,()):=(congrArg (λ L=>qfg m L a0 a1) (qva m m)).trans (by kernel_rfl)
noncomputable def qkH (m k x0 x1 x2 x3 x4 x5 x6 x7 x8):=tb.PL i28 3 m k [(1,.ptr 0 0),(3,.row 0 0),(4,.i .i64 x0)] ⟨[[.i .i64 x1,.s x2,.i .i64 x3,.sl .term x4 1,.i .i64 x5,.sl (.pair (.int .i64) .term) x6 1,.i .i64 x7]],[⟨.term,x8,0,0,true⟩]⟩
theorem qrn (m k):Jb m k=qkH m k:=qN (M:=qkH m) rfl (λ _=>by kernel_rfl) k
theorem qtU (m a0):qdB (m+1) a0=tb.runP1 m i28 [] (a0,()):=(congrArg (λ L=>qdc m L a0) (qrn m m)).trans (by kernel_rfl)
theorem qAe (m a0):qhX (m+1) a0=tb.runP1 m i18 [] (a0,()):=by kernel_rfl
noncomputable def qnv (m k x0 x1 x2 x3 x4 x5 x6 x7 x8):=tb.PL i56 2 m k [(1,.i .i64 x0),(2,.ptr 0 0),(5,.i .i64 x1)] ⟨[[.i .i64 x2,.s x3,.i .i64 x4,.sl .term x5 1,.i .i64 x6,.sl (.pair (.int .i64) .term) x7 1,.i .i64 x8]],[]⟩
theorem quG (m k):qau m k=qnv m k:=qN (M:=qnv m) rfl (λ _=>by kernel_rfl) k
theorem qwS (m a0 a1):qgC (m+1) a0 a1=tb.runP1 m i56 [] (a0,a1,()):=(congrArg (λ L=>qfj m L a0 a1) (quG m m)).trans (by kernel_rfl)
theorem qwt (m a0 a1):qew (m+1) a0 a1=tb.runP1 m i57 [] (a0,a1,()):=by kernel_rfl
theorem qrM (m a0):qcE (m+1) a0=tb.runP1 m i58 [] (a0,()):=by kernel_rfl
noncomputable def qjL (m k x0 x1 x2 x3 x4 x5 x6 x7 x8 x9 x10 x11 x12 x13 x14 x15 x16 x17 x18 x19 x20 x21 x22):=tb.PL i20 17 m k [(2,.ptr 0 0),(3,.ptr 1 0),(4,.ptr 2 0),(5,.ptr 3 0)] ⟨[[.i .i64 x0,.s x1,.i .i64 x2,.sl .term x3 1,.i .i64 x4,.sl (.pair (.int .i64) .term) x5 1,.i .i64 x6],[.i .i64 x7,.i .i64 x8,.s x9,.i .i64 x10,.sl .term x11 1],[.i .i64 x12,.s x13,.i .i64 x14,.row 0 0,.i .i64 x15,.row 1 0,.i .i64 x16],[.i .i64 x17,.s x18,.i .i64 x19,.row 2 0]],[⟨.term,x20,0,0,false⟩,⟨(.pair (.int .i64) .term),x21,0,0,false⟩,⟨.term,x22,0,0,false⟩]⟩
theorem qpJ (m k):QD m k=qjL m k:=qN (M:=qjL m) rfl (λ _=>by kernel_rfl) k
theorem qqS (m a0 a1):qcB (m+1) a0 a1=tb.runP1 m i20 [] (a0,a1,()):=(congrArg (λ L=>qcz m L a0 a1) (qpJ m m)).trans (by kernel_rfl)
theorem qke (m a0 a1):law53_RatchetReceive (m+1) a0 a1=tb.runP1 m i4 [] (a0,a1,()):=by kernel_rfl
end Go.AmYtbpnmbmdbblehaaGreat
namespace Go.Proofs
open Go.Shelf
def Tryz.sortTrm_ren:Go.Shelf.Ren:=⟨λ | 6=>154 | 15=>187 | 14=>186 | 28=>212 | 29=>213 | 20=>204 | 21=>205 | 22=>206 | 23=>207 | 24=>208 | 25=>209 | 26=>210 | 27=>211 | 46=>225 | 47=>226 | 48=>227 | 49=>228 | 50=>229 | 57=>236 | n=>n,λ | 22=>22 | 24=>24 | 25=>78 | 3=>3 | 39=>172 | 0=>0 | 53=>194 | 55=>196 | 4=>4 | 46=>187 | 45=>186 | 50=>191 | 5=>5 | 9=>9 | 66=>210 | 70=>100 | 76=>222 | 77=>223 | n=>n,λ | n=>n⟩
theorem Tryz.sortTrm:Go.Proofs.SlLaysF0.n6 Tryz.prog Tryz.sortTrm_ren:={
 mixed:=by kernel_rfl
 f6:=⟨Tryz.f154.name,by decide,Tryz.func154.trans (congrArg some (by kernel_rfl))⟩
 f14:=⟨Tryz.f186.name,by decide,Tryz.func186.trans (congrArg some (by kernel_rfl))⟩
 f15:=Tryz.func187.trans (congrArg some (by kernel_rfl))
 f20:=⟨Tryz.f204.name,by decide,Tryz.func204.trans (congrArg some (by kernel_rfl))⟩
 f21:=⟨Tryz.f205.name,by decide,Tryz.func205.trans (congrArg some (by kernel_rfl))⟩
 f22:=⟨Tryz.f206.name,by decide,Tryz.func206.trans (congrArg some (by kernel_rfl))⟩
 f23:=⟨Tryz.f207.name,by decide,Tryz.func207.trans (congrArg some (by kernel_rfl))⟩
 f24:=⟨Tryz.f208.name,by decide,Tryz.func208.trans (congrArg some (by kernel_rfl))⟩
 f25:=⟨Tryz.f209.name,by decide,Tryz.func209.trans (congrArg some (by kernel_rfl))⟩
 f26:=⟨Tryz.f210.name,by decide,Tryz.func210.trans (congrArg some (by kernel_rfl))⟩
 f27:=⟨Tryz.f211.name,by decide,Tryz.func211.trans (congrArg some (by kernel_rfl))⟩
 f28:=Tryz.func212.trans (congrArg some (by kernel_rfl))
 f29:=Tryz.func213.trans (congrArg some (by kernel_rfl))
 f46:=⟨Tryz.f225.name,by decide,Tryz.func225.trans (congrArg some (by kernel_rfl))⟩
 f47:=Tryz.func226.trans (congrArg some (by kernel_rfl))
 f48:=Tryz.func227.trans (congrArg some (by kernel_rfl))
 f49:=⟨Tryz.f228.name,by decide,Tryz.func228.trans (congrArg some (by kernel_rfl))⟩
 f50:=⟨Tryz.f229.name,by decide,Tryz.func229.trans (congrArg some (by kernel_rfl))⟩
 f57:=⟨Tryz.f236.name,by decide,Tryz.func236.trans (congrArg some (by kernel_rfl))⟩
 t0:=Tryz.underlying0
 a0:=Tryz.isAgg0
 z0:=Tryz.sizeOf0
 v0:=Tryz.zeroValue0
 t3:=Tryz.underlying3
 a3:=Tryz.isAgg3
 z3:=Tryz.sizeOf3
 v3:=Tryz.zeroValue3
 t4:=Tryz.underlying4
 a4:=Tryz.isAgg4
 z4:=Tryz.sizeOf4
 v4:=Tryz.zeroValue4
 t5:=Tryz.underlying5
 a5:=Tryz.isAgg5
 z5:=Tryz.sizeOf5
 v5:=Tryz.zeroValue5
 t9:=Tryz.underlying9
 a9:=Tryz.isAgg9
 z9:=Tryz.sizeOf9
 v9:=Tryz.zeroValue9
 t22:=Tryz.underlying22
 a22:=Tryz.isAgg22
 z22:=Tryz.sizeOf22
 v22:=Tryz.zeroValue22
 t25:=Tryz.underlying78
 a25:=Tryz.isAgg78
 z25:=Tryz.sizeOf78
 v25:=Tryz.zeroValue78
 t39:=Tryz.underlying172
 a39:=Tryz.isAgg172
 z39:=Tryz.sizeOf172
 v39:=Tryz.zeroValue172
 t45:=Tryz.underlying186
 a45:=Tryz.isAgg186
 z45:=Tryz.sizeOf186
 v45:=Tryz.zeroValue186
 t46:=Tryz.underlying187
 a46:=Tryz.isAgg187
 z46:=Tryz.sizeOf187
 v46:=Tryz.zeroValue187
 t50:=Tryz.underlying191
 a50:=Tryz.isAgg191
 z50:=Tryz.sizeOf191
 v50:=Tryz.zeroValue191
 t53:=Tryz.underlying194
 a53:=Tryz.isAgg194
 z53:=Tryz.sizeOf194
 v53:=Tryz.zeroValue194
 t55:=Tryz.underlying196
 a55:=Tryz.isAgg196
 z55:=Tryz.sizeOf196
 v55:=Tryz.zeroValue196
 t66:=Tryz.underlying210
 a66:=Tryz.isAgg210
 z66:=Tryz.sizeOf210
 v66:=Tryz.zeroValue210
 t70:=Tryz.underlying100
 a70:=Tryz.isAgg100
 z70:=Tryz.sizeOf100
 v70:=Tryz.zeroValue100
 t76:=Tryz.underlying222
 a76:=Tryz.isAgg222
 z76:=Tryz.sizeOf222
 v76:=Tryz.zeroValue222
 t77:=Tryz.underlying223
 a77:=Tryz.isAgg223
 z77:=Tryz.sizeOf223
 v77:=Tryz.zeroValue223 }
end Go.Proofs
namespace Go.AmYtbpnmbmdbblehaaGreat
open Go Go.GxYtbpnmbmdbblehaaGreat
set_option linter.unusedVariables false
set_option maxRecDepth 100000
theorem qbc (m:Nat) (h:yr Go.Proofs.Tryz.prog (tb.at m).pc.cfg):qY Go.Proofs.Tryz.prog 154 (mgP ⟨.term,[.clo 78 0],λ x=>qV (m+1) x.1⟩):=qET (τ := .term) Go.Proofs.Tryz.sortTrm (λ _=>rfl) Go.Proofs.Tryz.isAgg24 Go.Proofs.Tryz.sizeOf24 (qEx (τ := .term) (ρ := (.int .i64)) (qBd h (by kernel_rfl)) (F := λ x y=>qu m x y) (by kernel_rfl) (λ _=>rfl)) (QV Go.Proofs.Tryz.func154 (by kernel_rfl)) (λ _ _ h=>h)
theorem qas (m:Nat) (h:yr Go.Proofs.Tryz.prog (tb.at m).pc.cfg):qY Go.Proofs.Tryz.prog 155 (sgP ⟨[.row .term,.clo 156 0],[.one (.row .term)],λ x=>qF (m+1) x.1⟩):=qz4 (qEx (τ := .term) (ρ := .bool) (qBd h (by kernel_rfl)) (F := λ x y=>yg m x y) (by kernel_rfl) (λ _=>rfl)) (λ _ _ h=>qCR h)
theorem tb_ok:∀ m,yr Go.Proofs.Tryz.prog (tb.at m).pc.cfg:=Tb.all_ok (by kernel_rfl) qFG (by kernel_rfl) ⟨nl1 ⟨Go.Proofs.Tryz.func104,λ _=>rfl,λ m a=>qAg m a.1,trivial⟩,⟨nl1 ⟨Go.Proofs.Tryz.func62,λ _=>rfl,λ m a=>qzr m a.1,trivial⟩,⟨nl1 ⟨Go.Proofs.Tryz.func39,λ _=>rfl,λ m a=>qw0 m a.1,trivial⟩,⟨nl1 ⟨Go.Proofs.Tryz.func19,λ _=>rfl,λ m a=>qo4 m a.1 a.2.1,trivial⟩,⟨nl1 ⟨Go.Proofs.Tryz.func13,λ _=>rfl,λ m a=>qx3 m a.1,trivial⟩,⟨nl1 ⟨Go.Proofs.Tryz.func11,λ _=>rfl,λ m a=>qya m a.1 a.2.1 a.2.2.1,trivial⟩,⟨nl1 ⟨Go.Proofs.Tryz.func10,λ _=>rfl,λ m a=>quL m,trivial⟩,⟨nl1 ⟨Go.Proofs.Tryz.func4,λ _=>rfl,λ m a=>qke m a.1 a.2.1,trivial⟩,trivial,trivial⟩,trivial⟩,⟨nl1 ⟨Go.Proofs.Tryz.func12,λ _=>rfl,λ m a=>qu7 m a.1,trivial⟩,trivial,trivial⟩⟩,⟨nl1 ⟨Go.Proofs.Tryz.func17,λ _=>rfl,λ m a=>qxc m a.1 a.2.1,trivial⟩,⟨nl1 ⟨Go.Proofs.Tryz.func16,λ _=>rfl,λ m a=>qwT m a.1 a.2.1,trivial⟩,⟨nl1 ⟨Go.Proofs.Tryz.func14,λ _=>rfl,λ m a=>qu1 m a.1 a.2.1,trivial⟩,trivial,trivial⟩,trivial⟩,⟨nl1 ⟨Go.Proofs.Tryz.func18,λ _=>rfl,λ m a=>qAe m a.1,trivial⟩,trivial,trivial⟩⟩⟩,⟨nl1 ⟨Go.Proofs.Tryz.func25,λ _=>rfl,λ m a=>qu2 m a.1,trivial⟩,⟨nl1 ⟨Go.Proofs.Tryz.func22,λ _=>rfl,λ m a=>qwP m,trivial⟩,⟨nl1 ⟨Go.Proofs.Tryz.func21,λ _=>rfl,λ m a=>qri m a.1,trivial⟩,⟨nl1 ⟨Go.Proofs.Tryz.func20,λ _=>rfl,λ m a=>qqS m a.1 a.2.1,trivial⟩,trivial,trivial⟩,trivial⟩,⟨nl1 ⟨Go.Proofs.Tryz.func23,λ _=>rfl,λ m a=>qwA m a.1 a.2.1,trivial⟩,trivial,trivial⟩⟩,⟨nl1 ⟨Go.Proofs.Tryz.func35,λ _=>rfl,λ m a=>qws m a.1 a.2.1,trivial⟩,⟨nl1 ⟨Go.Proofs.Tryz.func28,λ _=>rfl,λ m a=>qtU m a.1,trivial⟩,trivial,trivial⟩,⟨nl1 ⟨Go.Proofs.Tryz.func38,λ _=>rfl,λ m a=>quU m a.1,trivial⟩,trivial,trivial⟩⟩⟩⟩,⟨nl1 ⟨Go.Proofs.Tryz.func49,λ _=>rfl,λ m a=>qzx m a.1,trivial⟩,⟨nl1 ⟨Go.Proofs.Tryz.func44,λ _=>rfl,λ m a=>qsD m a.1,trivial⟩,⟨nl1 ⟨Go.Proofs.Tryz.func42,λ _=>rfl,λ m a=>qpQ m a.1,trivial⟩,⟨nl1 ⟨Go.Proofs.Tryz.func41,λ _=>rfl,λ m a=>qqZ m a.1,trivial⟩,⟨nl1 ⟨Go.Proofs.Tryz.func40,λ _=>rfl,λ m a=>qr9 m a.1 a.2.1,trivial⟩,trivial,trivial⟩,trivial⟩,⟨nl1 ⟨Go.Proofs.Tryz.func43,λ _=>rfl,λ m a=>qsG m a.1,trivial⟩,trivial,trivial⟩⟩,⟨nl1 ⟨Go.Proofs.Tryz.func47,λ _=>rfl,λ m a=>qwE m a.1,trivial⟩,⟨nl1 ⟨Go.Proofs.Tryz.func46,λ _=>rfl,λ m a=>quK m a.1,trivial⟩,⟨nl1 ⟨Go.Proofs.Tryz.func45,λ _=>rfl,λ m a=>qwN m a.1,trivial⟩,trivial,trivial⟩,trivial⟩,⟨nl1 ⟨Go.Proofs.Tryz.func48,λ _=>rfl,λ m a=>qwL m a.1,trivial⟩,trivial,trivial⟩⟩⟩,⟨qdD (m:=0),⟨⟨jA,λ _ _=>jA⟩,⟨⟨Go.Proofs.Tryz.func51,λ _=>rfl,λ m a=>quN m a.1⟩,⟨nl1 ⟨Go.Proofs.Tryz.func50,λ _=>rfl,λ m a=>qrr m a.1 a.2.1,trivial⟩,trivial,trivial⟩,trivial⟩,⟨nl1 ⟨Go.Proofs.Tryz.func54,λ _=>rfl,λ m a=>qp2 m a.1 a.2.1,trivial⟩,trivial,trivial⟩⟩,⟨nl1 ⟨Go.Proofs.Tryz.func57,λ _=>rfl,λ m a=>qwt m a.1 a.2.1,trivial⟩,⟨nl1 ⟨Go.Proofs.Tryz.func56,λ _=>rfl,λ m a=>qwS m a.1 a.2.1,trivial⟩,trivial,trivial⟩,⟨nl1 ⟨Go.Proofs.Tryz.func58,λ _=>rfl,λ m a=>qrM m a.1,trivial⟩,trivial,trivial⟩⟩⟩⟩⟩,⟨nl1 ⟨Go.Proofs.Tryz.func86,λ _=>rfl,λ m a=>qwF m a.1,trivial⟩,⟨nl1 ⟨Go.Proofs.Tryz.func73,λ _=>rfl,λ m a=>qt2 m a.1,trivial⟩,⟨nl1 ⟨Go.Proofs.Tryz.func68,λ _=>rfl,λ m a=>qs8 m a.1,trivial⟩,⟨nl1 ⟨Go.Proofs.Tryz.func66,λ _=>rfl,λ m a=>qwU m a.1 a.2.1,trivial⟩,⟨nl1 ⟨Go.Proofs.Tryz.func65,λ _=>rfl,λ m a=>qn6 m a.1 a.2.1,trivial⟩,⟨nl1 ⟨Go.Proofs.Tryz.func64,λ _=>rfl,λ m a=>qyN m a.1 a.2.1,trivial⟩,trivial,trivial⟩,trivial⟩,⟨nl1 ⟨Go.Proofs.Tryz.func67,λ _=>rfl,λ m a=>qvg m a.1,trivial⟩,trivial,trivial⟩⟩,⟨nl1 ⟨Go.Proofs.Tryz.func71,λ _=>rfl,λ m a=>qvr m a.1,trivial⟩,⟨nl1 ⟨Go.Proofs.Tryz.func70,λ _=>rfl,λ m a=>qDG m a.1 a.2.1,trivial⟩,⟨nl1 ⟨Go.Proofs.Tryz.func69,λ _=>rfl,λ m a=>qzT m a.1,trivial⟩,trivial,trivial⟩,trivial⟩,⟨nl1 ⟨Go.Proofs.Tryz.func72,λ _=>rfl,λ m a=>qtH m a.1,trivial⟩,trivial,trivial⟩⟩⟩,⟨nl1 ⟨Go.Proofs.Tryz.func78,λ _=>rfl,λ m a=>qtN m a.1 a.2.1,trivial⟩,⟨nl1 ⟨Go.Proofs.Tryz.func76,λ _=>rfl,λ m a=>qtO m a.1 a.2.1,trivial⟩,⟨nl1 ⟨Go.Proofs.Tryz.func75,λ _=>rfl,λ m a=>qqG m a.1 a.2.1,trivial⟩,⟨⟨Go.Proofs.Tryz.func74,λ _=>rfl,λ m a=>qwD m a.1 a.2.1 a.2.2.1 a.2.2.2.1⟩,trivial,trivial⟩,trivial⟩,⟨nl1 ⟨Go.Proofs.Tryz.func77,λ _=>rfl,λ m a=>qw4 m a.1,trivial⟩,trivial,trivial⟩⟩,⟨nl1 ⟨Go.Proofs.Tryz.func81,λ _=>rfl,λ m a=>qyq m a.1 a.2.1,trivial⟩,⟨nl1 ⟨Go.Proofs.Tryz.func79,λ _=>rfl,λ m a=>qA3 m a.1 a.2.1,trivial⟩,trivial,trivial⟩,⟨nl1 ⟨Go.Proofs.Tryz.func85,λ _=>rfl,λ m a=>qzB m a.1 a.2.1,trivial⟩,trivial,trivial⟩⟩⟩⟩,⟨nl1 ⟨Go.Proofs.Tryz.func95,λ _=>rfl,λ m a=>qqC m a.1,trivial⟩,⟨nl1 ⟨Go.Proofs.Tryz.func91,λ _=>rfl,λ m a=>qqO m a.1,trivial⟩,⟨nl1 ⟨Go.Proofs.Tryz.func89,λ _=>rfl,λ m a=>quB m a.1,trivial⟩,⟨nl1 ⟨Go.Proofs.Tryz.func88,λ _=>rfl,λ m a=>qw8 m a.1 a.2.1,trivial⟩,⟨nl1 ⟨Go.Proofs.Tryz.func87,λ _=>rfl,λ m a=>qtT m a.1,trivial⟩,trivial,trivial⟩,trivial⟩,⟨nl1 ⟨Go.Proofs.Tryz.func90,λ _=>rfl,λ m a=>quh m a.1,trivial⟩,trivial,trivial⟩⟩,⟨nl1 ⟨Go.Proofs.Tryz.func93,λ _=>rfl,λ m a=>qlX m a.1,trivial⟩,⟨nl1 ⟨Go.Proofs.Tryz.func92,λ _=>rfl,λ m a=>quv m a.1 a.2.1,trivial⟩,trivial,trivial⟩,⟨nl1 ⟨Go.Proofs.Tryz.func94,λ _=>rfl,λ m a=>qpM m a.1,trivial⟩,trivial,trivial⟩⟩⟩,⟨nl1 ⟨Go.Proofs.Tryz.func100,λ _=>rfl,λ m a=>qxp m a.1,trivial⟩,⟨nl1 ⟨Go.Proofs.Tryz.func98,λ _=>rfl,λ m a=>qs9 m a.1,trivial⟩,⟨nl1 ⟨Go.Proofs.Tryz.func97,λ _=>rfl,λ m a=>qw2 m a.1,trivial⟩,⟨nl1 ⟨Go.Proofs.Tryz.func96,λ _=>rfl,λ m a=>quT m a.1 a.2.1,trivial⟩,trivial,trivial⟩,trivial⟩,⟨nl1 ⟨Go.Proofs.Tryz.func99,λ _=>rfl,λ m a=>qzY m a.1,trivial⟩,trivial,trivial⟩⟩,⟨nl1 ⟨Go.Proofs.Tryz.func102,λ _=>rfl,λ m a=>quW m a.1,trivial⟩,⟨nl1 ⟨Go.Proofs.Tryz.func101,λ _=>rfl,λ m a=>qxl m a.1,trivial⟩,trivial,trivial⟩,⟨nl1 ⟨Go.Proofs.Tryz.func103,λ _=>rfl,λ m a=>qy2 m a.1 a.2.1,trivial⟩,trivial,trivial⟩⟩⟩⟩⟩⟩,⟨nl1 ⟨Go.Proofs.Tryz.func172,λ _=>rfl,λ m a=>qu4 m a.1,trivial⟩,⟨nl1 ⟨Go.Proofs.Tryz.func147,λ _=>rfl,λ m a=>qs5 m a.1,trivial⟩,⟨⟨Go.Proofs.Tryz.func128,λ _=>rfl,λ m a=>qkd m a.1 a.2.1 a.2.2.1⟩,⟨nl1 ⟨Go.Proofs.Tryz.func123,λ _=>rfl,λ m a=>qwJ m a.1,trivial⟩,⟨nl1 ⟨Go.Proofs.Tryz.func121,λ _=>rfl,λ m a=>qt1 m a.1,trivial⟩,⟨nl1 ⟨Go.Proofs.Tryz.func120,λ _=>rfl,λ m a=>qsq m a.1,trivial⟩,⟨λ c hc=>qma (m:=0) hc,trivial,trivial⟩,trivial⟩,⟨nl1 ⟨Go.Proofs.Tryz.func122,λ _=>rfl,λ m a=>qxq m a.1,trivial⟩,trivial,trivial⟩⟩,⟨λ c hc=>qnO (m:=0) hc,⟨nl1 ⟨Go.Proofs.Tryz.func125,λ _=>rfl,λ m a=>qrD m a.1,trivial⟩,⟨nl1 ⟨Go.Proofs.Tryz.func124,λ _=>rfl,λ m a=>qrY m a.1,trivial⟩,trivial,trivial⟩,trivial⟩,⟨⟨Go.Proofs.Tryz.func127,λ _=>rfl,λ m a=>qm4 m a.1 a.2.1 a.2.2.1⟩,trivial,trivial⟩⟩⟩,⟨nl1 ⟨Go.Proofs.Tryz.func133,λ _=>rfl,λ m a=>qwY m a.1 a.2.1,trivial⟩,⟨nl1 ⟨Go.Proofs.Tryz.func131,λ _=>rfl,λ m a=>qtQ m a.1,trivial⟩,⟨nl1 ⟨Go.Proofs.Tryz.func130,λ _=>rfl,λ m a=>qvj m a.1,trivial⟩,⟨⟨Go.Proofs.Tryz.func129,λ _=>rfl,λ m a=>qtr m a.1⟩,trivial,trivial⟩,trivial⟩,⟨nl1 ⟨Go.Proofs.Tryz.func132,λ _=>rfl,λ m a=>qrA m,trivial⟩,trivial,trivial⟩⟩,⟨nl1 ⟨Go.Proofs.Tryz.func143,λ _=>rfl,λ m a=>qzL m a.1 a.2.1,trivial⟩,⟨nl1 ⟨Go.Proofs.Tryz.func134,λ _=>rfl,λ m a=>qzd m a.1,trivial⟩,trivial,trivial⟩,⟨nl1 ⟨Go.Proofs.Tryz.func146,λ _=>rfl,λ m a=>qAw m a.1,trivial⟩,trivial,trivial⟩⟩⟩⟩,⟨nl1 ⟨Go.Proofs.Tryz.func158,λ _=>rfl,λ m a=>qrS m a.1,trivial⟩,⟨nl1 ⟨Go.Proofs.Tryz.func152,λ _=>rfl,λ m a=>qsO m a.1 a.2.1,trivial⟩,⟨nl1 ⟨Go.Proofs.Tryz.func150,λ _=>rfl,λ m a=>quA m a.1,trivial⟩,⟨nl1 ⟨Go.Proofs.Tryz.func149,λ _=>rfl,λ m a=>qDq m a.1,trivial⟩,⟨nl1 ⟨Go.Proofs.Tryz.func148,λ _=>rfl,λ m a=>qpK m a.1,trivial⟩,trivial,trivial⟩,trivial⟩,⟨nl1 ⟨Go.Proofs.Tryz.func151,λ _=>rfl,λ m a=>qqp m a.1,trivial⟩,trivial,trivial⟩⟩,⟨nl1 ⟨Go.Proofs.Tryz.func156,λ _=>rfl,λ m a=>qpO m a.1 a.2.1,trivial⟩,⟨⟨qta (QV Go.Proofs.Tryz.func155 (by kernel_rfl)) λ _=>rfl,λ m h=>qas m h⟩,⟨⟨qEB (QV Go.Proofs.Tryz.func154 (by kernel_rfl)) λ _=>rfl,λ m h=>qbc m h⟩,trivial,trivial⟩,trivial⟩,⟨nl1 ⟨Go.Proofs.Tryz.func157,λ _=>rfl,λ m a=>qu0 m a.1,trivial⟩,trivial,trivial⟩⟩⟩,⟨nl1 ⟨Go.Proofs.Tryz.func164,λ _=>rfl,λ m a=>quy m a.1 a.2.1,trivial⟩,⟨nl1 ⟨Go.Proofs.Tryz.func161,λ _=>rfl,λ m a=>qvi m a.1 a.2.1,trivial⟩,⟨nl1 ⟨Go.Proofs.Tryz.func160,λ _=>rfl,λ m a=>qrk m a.1,trivial⟩,⟨nl1 ⟨Go.Proofs.Tryz.func159,λ _=>rfl,λ m a=>qyA m a.1,trivial⟩,trivial,trivial⟩,trivial⟩,⟨nl1 ⟨Go.Proofs.Tryz.func163,λ _=>rfl,λ m a=>qp1 m a.1,trivial⟩,trivial,trivial⟩⟩,⟨⟨Go.Proofs.Tryz.func168,λ _=>rfl,λ m a=>qz7 m a.1 a.2.1 a.2.2.1⟩,⟨nl1 ⟨Go.Proofs.Tryz.func167,λ _=>rfl,λ m a=>qt5 m a.1,trivial⟩,trivial,trivial⟩,⟨nl1 ⟨Go.Proofs.Tryz.func169,λ _=>rfl,λ m a=>qqt m a.1,trivial⟩,trivial,trivial⟩⟩⟩⟩⟩,⟨nl1 ⟨Go.Proofs.Tryz.func193,λ _=>rfl,λ m a=>qxi m a.1,trivial⟩,⟨nl1 ⟨Go.Proofs.Tryz.func182,λ _=>rfl,λ m a=>qsW m a.1 a.2.1,trivial⟩,⟨nl1 ⟨Go.Proofs.Tryz.func177,λ _=>rfl,λ m a=>qth m a.1,trivial⟩,⟨nl1 ⟨Go.Proofs.Tryz.func175,λ _=>rfl,λ m a=>qyg m a.1 a.2.1,trivial⟩,⟨nl1 ⟨Go.Proofs.Tryz.func174,λ _=>rfl,λ m a=>qyh m a.1 a.2.1,trivial⟩,⟨⟨Go.Proofs.Tryz.func173,λ _=>rfl,λ m a=>qrj m a.1 a.2.1 a.2.2.1⟩,trivial,trivial⟩,trivial⟩,⟨nl1 ⟨Go.Proofs.Tryz.func176,λ _=>rfl,λ m a=>qAM m a.1 a.2.1,trivial⟩,trivial,trivial⟩⟩,⟨nl1 ⟨Go.Proofs.Tryz.func180,λ _=>rfl,λ m a=>qpV m a.1,trivial⟩,⟨⟨Go.Proofs.Tryz.func179,λ _=>rfl,λ m a=>qnN m a.1 a.2.1 a.2.2.1⟩,⟨nl1 ⟨Go.Proofs.Tryz.func178,λ _=>rfl,λ m a=>qCK m a.1,trivial⟩,trivial,trivial⟩,trivial⟩,⟨nl1 ⟨Go.Proofs.Tryz.func181,λ _=>rfl,λ m a=>qpU m a.1,trivial⟩,trivial,trivial⟩⟩⟩,⟨nl1 ⟨Go.Proofs.Tryz.func189,λ _=>rfl,λ m a=>qsk m a.1,trivial⟩,⟨nl1 ⟨Go.Proofs.Tryz.func185,λ _=>rfl,λ m a=>qwO m a.1 a.2.1,trivial⟩,⟨nl1 ⟨Go.Proofs.Tryz.func184,λ _=>rfl,λ m a=>qsR m a.1 a.2.1,trivial⟩,⟨nl1 ⟨Go.Proofs.Tryz.func183,λ _=>rfl,λ m a=>qeK m a.1,trivial⟩,trivial,trivial⟩,trivial⟩,⟨nl1 ⟨Go.Proofs.Tryz.func188,λ _=>rfl,λ m a=>qxg m a.1,trivial⟩,trivial,trivial⟩⟩,⟨nl1 ⟨Go.Proofs.Tryz.func191,λ _=>rfl,λ m a=>qw1 m a.1 a.2.1,trivial⟩,⟨nl1 ⟨Go.Proofs.Tryz.func190,λ _=>rfl,λ m a=>qwB m,trivial⟩,trivial,trivial⟩,⟨nl1 ⟨Go.Proofs.Tryz.func192,λ _=>rfl,λ m a=>qwu m a.1,trivial⟩,trivial,trivial⟩⟩⟩⟩,⟨nl1 ⟨Go.Proofs.Tryz.func214,λ _=>rfl,λ m a=>qtV m a.1 a.2.1,trivial⟩,⟨qeC (m:=0),⟨nl1 ⟨Go.Proofs.Tryz.func198,λ _=>rfl,λ m a=>qoc m a.1,trivial⟩,⟨nl1 ⟨Go.Proofs.Tryz.func197,λ _=>rfl,λ m a=>qsb m a.1 a.2.1 a.2.2.1,trivial⟩,⟨nl1 ⟨Go.Proofs.Tryz.func195,λ _=>rfl,λ m a=>qqL m a.1,trivial⟩,trivial,trivial⟩,trivial⟩,⟨⟨Go.Proofs.Tryz.func199,λ _=>rfl,λ m a=>qn2 m a.1 a.2.1⟩,trivial,trivial⟩⟩,⟨⟨Go.Proofs.Tryz.func202,λ _=>rfl,λ m a=>qn8 m a.1⟩,⟨qeO (m:=0),trivial,trivial⟩,⟨nl1 ⟨Go.Proofs.Tryz.func203,λ _=>rfl,λ m a=>qo8 m a.1,trivial⟩,trivial,trivial⟩⟩⟩,⟨qcW (m:=0),⟨nl1 ⟨Go.Proofs.Tryz.func220,λ _=>rfl,λ m a=>qm9 m a.1 a.2.1,trivial⟩,⟨nl1 ⟨Go.Proofs.Tryz.func219,λ _=>rfl,λ m a=>Qj m a.1 a.2.1,trivial⟩,⟨nl1 ⟨Go.Proofs.Tryz.func215,λ _=>rfl,λ m a=>qpY m a.1,trivial⟩,trivial,trivial⟩,trivial⟩,⟨qcX (m:=0),trivial,trivial⟩⟩,⟨nl1 ⟨Go.Proofs.Tryz.func224,λ _=>rfl,λ m a=>qmA m a.1,trivial⟩,⟨nl1 ⟨Go.Proofs.Tryz.func223,λ _=>rfl,λ m a=>qad m a.1,trivial⟩,trivial,trivial⟩,⟨nl1 ⟨Go.Proofs.Tryz.func235,λ _=>rfl,λ m a=>qaB m a.1,trivial⟩,trivial,trivial⟩⟩⟩⟩⟩⟩⟩
end Go.AmYtbpnmbmdbblehaaGreat
namespace Go.AmYtbpnmbmdbblehaaGreat
open Go Go.GxYtbpnmbmdbblehaaGreat Go.RowKit
open Go.ChangeShapes Go.WideShapes Go.ChangeAt Go.WideMaps Go.WideElems
theorem qvx (b o j:Nat):(⟨b,o,none⟩:Addr).add j=⟨b,o+j,none⟩:=by unfold Addr.add;split<;>simp_all
mutual
def tyM (P:Program):Nat→Ty→TypeId→Bool
 | 0,_,_=>false
 | _+1,.int k,t=>match P.underlying t with
   | some (.int k')=>decide (k'=k)&&decide (P.cellsOf t=1)
   | _=>false
 | _+1,.bool,t=>match P.underlying t with
   | some .bool=>decide (P.cellsOf t=1)
   | _=>false
 | _+1,.str,t=>match P.underlying t with
   | some .string=>decide (P.cellsOf t=1)
   | _=>false
 | n+1,.list a,t=>match P.underlying t with
   | some (.slice e)=>decide (P.cellsOf t=1)&&decide (P.cellsOf e=a.size)&&decide (0<P.bytesOf e)&&tyM P n a e
   | _=>false
 | n+1,.term,t=>qCH P n t
 | n+1,.pair a b,t=>match P.underlying t with
   | some (.struct fs)=>decide (P.cellsOf t=a.size+b.size)&&fsM P n (.pair a b) 0 fs.toList
   | _=>false
 | n+1,.one a,t=>match P.underlying t with
   | some (.struct fs)=>decide (P.cellsOf t=a.size)&&fsM P n a 0 fs.toList
   | _=>false
def fsM (P:Program):Nat→Ty→Nat→List Field→Bool
 | 0,_,_,_=>false
 | n+1,τ,off,[f]=>decide (f.offset=off)&&decide (P.cellsOf f.type = τ.size)&&tyM P n τ f.type
 | n+1,.pair a b,off,f::g::r=>decide (f.offset=off)&&decide (P.cellsOf f.type=a.size)&&tyM P n a f.type&&fsM P n b (off+a.size) (g::r)
 | _+1,_,_,_=>false
def qCH (P:Program):Nat→TypeId→Bool
 | 0,_=>false
 | n+1,t=>match P.underlying t with
   | some (.struct fs)=>match fs.toList with
     | [f0,f1,f2,f3]=>decide (P.cellsOf t=4)&&decide (f0.offset=0)&&decide (f1.offset=1)&&decide (f2.offset=2)&&decide (f3.offset=3)&&decide (P.cellsOf f3.type=1) &&
      tyM P n (.int .i64) f0.type&&tyM P n .str f1.type&&tyM P n (.int .i64) f2.type&&(match P.underlying f3.type with
      | some (.slice e)=>decide (e=t)&&decide (0<P.bytesOf t)
      | _=>false)
     | _=>false
   | _=>false
end
def qlj:(τ : Ty)→Val τ → Prop
 | .int k,n=>k.min≤n∧n≤k.max
 | .bool,_=>True
 | .str,s=>s.length<2 ^ 62
 | .term,t=>qjk t
 | .list a,l=>l.length<2 ^ 62∧∀ x∈l,qlj a x
 | .pair a b,p=>qlj a p.1∧qlj b p.2
 | .one a,v=>qlj a v
def ghW (W:World):Gh:=⟨λ b o=>match W.cell? ⟨b,o,none⟩ with | some u=>if u.oneCell'=true then some u else none | none=>none,0,λ _=>0,0,λ _=>0,λ _=>0,λ _=>0,λ _=>0,λ _=>0⟩
theorem qB6 {W:World} {b o:Nat} {u:Value}:(ghW W).mem b o=some u↔W.cell? ⟨b,o,none⟩=some u∧u.oneCell'=true:=by
 show (match W.cell? ⟨b,o,none⟩ with | some u=>if u.oneCell'=true then some u else none | none=>none)=some u↔_
 cases W.cell? ⟨b,o,none⟩ with
 | none=>simp
 | some v =>
   simp only [Option.some.injEq]
   constructor
   ·intro h
    split at h
    ·cases h;exact ⟨rfl,‹_›⟩
    ·cases h
   ·rintro ⟨rfl,h⟩
    rw [if_pos h]
theorem qJa (W:World):Inv (ghW W) emp W :=
 ⟨rfl,rfl,λ b o u h=>qB6.1 h,λ i cs h=>(by cases h),λ i j h=>absurd h (Nat.not_lt_zero _),λ i h=>absurd h (Nat.not_lt_zero _),λ r R h=>(by cases h),λ r r' h=>absurd h (Nat.not_lt_zero _)⟩
theorem cells_len {W:World} {z8:Nat} {a:Addr}:∀ {n:Nat} {cs:List Value},W.cells? z8 a n=some cs→cs.length=n∧∀ j u,cs[j]? = some u→W.cell? (a.add j)=some u:=by
 intro n cs h
 unfold World.cells? at h
 split at h
 case isFalse=>cases h
 have h1:=mapM_some_length h
 rw [List.length_range] at h1
 refine ⟨h1,λ j u hj=>?_⟩
 have hlt:=getElem?_lt hj
 have:=mapM_some_get h j j (by rw [List.getElem?_range (by omega)])
 rw [this];exact hj
section
variable {H:Type} {enc:TypeId × Value→H} {P:Program} {W:World}
def qDu (enc:TypeId × Value→H) (P:Program) (W:World) (fuel:Nat):Prop:=∀ (n:Nat) (τ : Ty) (t:TypeId) (cs:List Value) (x:DataW H × List MemPlace),tyM P n τ t=true→DataW.trod enc P W 0 (λ _=>true) true fuel t cs=some x→(∀ k∈x.1.weights P t,k≤reachBytes) →
 ∃ v:Val τ,RepL (ghW W) (qm τ v) cs∧(∀ u∈cs,u.oneCell'=true)∧qlj τ v
theorem qlr {e:TypeId}:∀ {ds:List (DataW H)} {d:DataW H},d∈ds→∀ n∈d.weights P e,n∈DataW.weightsAll P e ds
 | d0::ds,d,h,n,hn=>by
   simp only [DataW.weightsAll,List.mem_append]
   rcases List.mem_cons.1 h with rfl | h
   ·exact Or.inl hn
   ·exact Or.inr (qlr h n hn)
theorem qzD {n k:Nat} (h:n*k≤reachBytes) (hk:0<k):n<2 ^ 62:=by
 have:n*1≤n*k:=Nat.mul_le_mul_left _ hk
 have h2:reachBytes=140737488351232:=rfl
 omega
theorem qES {α β : Type} {n:Nat} {Q:Nat → α → β → Prop} (h0:0<n) (h:∀ i,i<n→∃ a b,Q i a b):∃ (f:Nat → α) (g:Nat → β),∀ i,i<n→Q i (f i) (g i):=by
 obtain ⟨a0,b0,_⟩:=h 0 h0
 refine ⟨λ i=>if hi:i<n then (h i hi).choose else a0,λ i=>if hi:i<n then (h i hi).choose_spec.choose else b0,λ i hi=>?_⟩
 simp only [dif_pos hi]
 exact (h i hi).choose_spec.choose_spec
theorem qz3 {Γ : Gh} {x:AV} {u:Value} (h:Rep Γ x u):RepL Γ [x] [u]:=RepL.cons h RepL.nil
theorem qvz {fuel:Nat} (hA:∀ f,f<fuel→qDu enc P W f) {a:Ty} {t e:TypeId} {m:Nat} {cs:List Value} {x:DataW H × List MemPlace} (ht:P.underlying t=some (.slice e)) (hc:P.cellsOf e=a.size) (hb:0<P.bytesOf e) (hm:tyM P m a e=true)
  (h:DataW.trod enc P W 0 (λ _=>true) true fuel t cs=some x) (hw:∀ k∈x.1.weights P t,k≤reachBytes) :
  ∃ (l:List (Val a)) (u:Value),cs=[u]∧u.oneCell'=true∧Rep (ghW W) (.sl a.size (l.map (qm a)) 1) u∧l.length<2 ^ 62∧∀ v∈l,qlj a v:=by
 rcases DataW.trod_slice ht h with ⟨rfl,rfl⟩ | ⟨ad,len,cap,elems,rest,n,rfl,rfl,rfl,_,hl,_,hlen,hel,_,_⟩
 ·refine ⟨[],_,rfl,rfl,?_,by simp,(by intro v hv;cases hv)⟩
  exact .sl _ _ _ none 0 0 0 0 (λ _ _=>undef) rfl (λ _=>Nat.le_refl _) (λ h=>by omega) (by intro e he;cases he) (by intro e he;cases he) (Ty.size_pos a) (.inl rfl) (by intro i e j x hi;cases hi) (by intro i e j x hi;cases hi)
 ·have hwt:(elems.length+rest.length)*P.bytesOf e≤reachBytes∧∀ k∈DataW.weightsAll P e (elems.map (·.1)),k≤reachBytes:=by
    simp only [DataW.weights,ht,List.length_map,List.mem_cons,List.mem_append] at hw
    exact ⟨hw _ (.inl rfl),λ k hk=>hw k (.inr (.inl hk))⟩
  have each:∀ i,i<len→∃ (v:Val a) (us:List Value),RepL (ghW W) (qm a v) us∧(∀ u∈us,u.oneCell'=true)∧qlj a v∧(∀ j u,us[j]? = some u→W.cell? ((ad.add (i*a.size)).add j)=some u):=by
   intro i hi
   have h1:=hel i hi
   rw [List.getElem?_eq_getElem (by omega),hc,Option.bind_eq_some_iff] at h1
   obtain ⟨us,h2,h3⟩:=h1
   obtain ⟨q1,q2⟩:=cells_len h2
   obtain ⟨v,g1,g2,g3⟩:=hA n (Nat.lt_succ_self _) m a e us _ hm h3 λ k hk=>hwt.2 k (qlr (List.mem_map_of_mem (List.getElem_mem _)) k hk)
   exact ⟨v,us,g1,g2,g3,q2⟩
  by_cases h0:len=0
  ·subst h0
   refine ⟨[],_,rfl,rfl,?_,by simp,(by intro v hv;cases hv)⟩
   exact .sl _ _ _ _ 0 cap 0 0 (λ _ _=>undef) rfl (λ _=>hl) (λ h=>by omega) (by intro e he;cases he) (by intro e he;cases he) (Ty.size_pos a) (.inl rfl) (by intro i e j x hi;cases hi) (by intro i e j x hi;cases hi)
  obtain ⟨b,o,rfl⟩:∃ b o,ad=⟨b,o,none⟩:=by
   obtain ⟨v,us,g1,_,_,g4⟩:=each 0 (by omega)
   have hl1:us.length=a.size:=by rw [g1.len];exact jS a v
   have hp:=Ty.size_pos a
   have h1:=g4 0 _ (List.getElem?_eq_getElem (by omega))
   rw [Nat.zero_mul] at h1
   have e1:(ad.add 0).add 0=ad:=rfl
   rw [e1] at h1
   obtain ⟨b,o,sp⟩:=ad
   unfold World.cell? at h1
   split at h1
   ·split at h1
    ·cases h1
    ·rename_i hs
     cases sp with
     | none=>exact ⟨b,o,rfl⟩
     | some s=>simp at hs
   ·cases h1
  obtain ⟨vv,uu,hvu⟩:=qES (by omega:0<len) each
  have w1 := λ i hi=>(hvu i hi).1
  have w2 := λ i hi=>(hvu i hi).2.1
  have w3 := λ i hi=>(hvu i hi).2.2.1
  have w4 := λ i hi=>(hvu i hi).2.2.2
  have hget:∀ i,i<len→((List.range len).map vv)[i]? = some (vv i) := λ i hi=>by rw [List.getElem?_map,List.getElem?_range hi];rfl
  have hcell:∀ (i:Nat) (e':List AV) (j:Nat) (y:AV),(((List.range len).map vv).map (qm a))[i]? = some e'→e'[j]? = some y→i<len∧∃ u,(uu i)[j]? = some u∧Rep (ghW W) y u∧(ghW W).mem b (o+i*a.size+j)=some u:=by
   intro i e' j y h1 h2
   have hi:i<len:=by have:=getElem?_lt h1;simpa using this
   rw [List.getElem?_map,hget i hi] at h1
   cases h1
   obtain ⟨u,q1,q2⟩:=(w1 i hi).get h2
   refine ⟨hi,u,q1,q2,qB6.2 ⟨?_,w2 i hi u (List.mem_of_getElem? q1)⟩⟩
   have:=w4 i hi j u q1
   rw [qvx,qvx] at this
   exact this
  refine ⟨(List.range len).map vv,_,rfl,rfl,?_,?_,?_⟩
  ·refine .sl _ _ _ _ len cap b o (λ i j=>(uu i).getD j undef) (by simp) (λ _=>hl) (λ h=>by omega) ?_ ?_ (Ty.size_pos a) (.inr rfl) ?_ ?_
   ·intro e' he
    obtain ⟨v,_,rfl⟩:=List.mem_map.1 he
    exact jS a v
   ·intro e' he
    obtain ⟨v,_,rfl⟩:=List.mem_map.1 he
    exact zY a v
   ·intro i e' j y h1 h2
    obtain ⟨_,u,q1,q2,q3⟩:=hcell i e' j y h1 h2
    rw [List.getD_eq_getElem?_getD,q1];exact q3
   ·intro i e' j y h1 h2
    obtain ⟨_,u,q1,q2,q3⟩:=hcell i e' j y h1 h2
    rw [List.getD_eq_getElem?_getD,q1];exact q2
  ·rw [List.length_map,List.length_range,← hlen]
   refine qzD (k:=P.bytesOf e) (Nat.le_trans (Nat.mul_le_mul_right _ ?_) hwt.1) hb
   omega
  ·intro v hv
   obtain ⟨i,hi,rfl⟩:=List.mem_map.1 hv
   exact w3 i (List.mem_range.1 hi)
theorem qtq {fuel:Nat} (hA:qDu enc P W fuel):∀ (n:Nat) (τ : Ty) (off:Nat) (fs:List Field) (cs:List Value) (xs:List (DataW H × List MemPlace)),fsM P n τ off fs=true→xs.length=fs.length →
  (∀ (i:Nat) (f:Field),fs[i]? = some f→DataW.trod enc P W 0 (λ _=>true) true fuel f.type ((cs.drop f.offset).take (P.cellsOf f.type))=xs[i]?)→(∀ k∈DataW.weightsEach P (fs.map (·.type)) (xs.map (·.1)),k≤reachBytes)→off + τ.size≤cs.length →
  ∃ v:Val τ,RepL (ghW W) (qm τ v) ((cs.drop off).take τ.size)∧(∀ u∈(cs.drop off).take τ.size,u.oneCell'=true)∧qlj τ v:=by
 intro n
 induction n with
 | zero=>intro τ off fs cs xs h;simp [fsM] at h
 | succ n ih =>
   intro τ off fs cs xs h hl hx hw hlen
   have one:∀ f x,fs=[f]→xs=[x]→(decide (f.offset=off)&&decide (P.cellsOf f.type = τ.size)&&tyM P n τ f.type)=true→∃ v:Val τ,RepL (ghW W) (qm τ v) ((cs.drop off).take τ.size)∧(∀ u∈(cs.drop off).take τ.size,u.oneCell'=true)∧qlj τ v:=by
    intro f x hf hxs h
    simp only [Bool.and_eq_true,decide_eq_true_eq] at h
    obtain ⟨⟨h1,h2⟩,h3⟩:=h
    subst hf;subst hxs
    have h4:=hx 0 f rfl
    rw [h1,h2] at h4
    exact hA n τ f.type _ x h3 h4 λ k hk=>hw k (by simp only [List.map_cons,List.map_nil,DataW.weightsEach,List.append_nil];exact hk)
   cases fs with
   | nil=>cases τ <;> simp [fsM] at h
   | cons f r =>
     cases xs with
     | nil=>simp at hl
     | cons x xs =>
       cases r with
       | nil =>
         have hxn:xs=[]:=List.eq_nil_of_length_eq_zero (by simpa using hl)
         subst hxn
         refine one f x rfl rfl ?_
         cases τ <;> exact h
       | cons g r =>
         cases τ with
         | pair a b =>
           simp only [fsM,Bool.and_eq_true,decide_eq_true_eq] at h
           obtain ⟨⟨⟨h1,h2⟩,h3⟩,h4⟩:=h
           have h5:=hx 0 f rfl
           rw [h1,h2] at h5
           have hsz:off+(a.size+b.size)≤cs.length:=hlen
           simp only [List.map_cons,DataW.weightsEach,List.mem_append] at hw
           obtain ⟨v,v1,v2,v3⟩:=hA n a f.type _ x h3 h5 λ k hk=>hw k (.inl hk)
           obtain ⟨v',v1',v2',v3'⟩:=ih b (off+a.size) (g::r) cs xs h4 (by simpa using hl) (λ i f' hf'=>hx (i+1) f' hf') (λ k hk=>hw k (.inr hk)) (by omega)
           have e:(cs.drop off).take (a.size+b.size)=(cs.drop off).take a.size++(cs.drop (off+a.size)).take b.size:=by
            rw [List.take_add,List.drop_drop]
           refine ⟨(v,v'),?_,?_,v3,v3'⟩
           ·show RepL _ (qm a v++qm b v') ((cs.drop off).take (a.size+b.size))
            rw [e];exact v1.append v1'
           ·show ∀ u∈(cs.drop off).take (a.size+b.size),_
            rw [e]
            intro u hu
            exact (List.mem_append.1 hu).elim (v2 u) (v2' u)
         | _=>simp [fsM] at h
theorem qJf {Γ : Gh} (k:IntKind) (n:Int):RepL Γ (qm (.int k) n) [.int k n]:=qz3 (.v _ rfl)
theorem qHO:∀ fuel,qDu enc P W fuel:=by
 intro fuel
 induction fuel using Nat.strongRecOn with
 | ind fuel ihA =>
   have ints:∀ {k:IntKind} {t:TypeId} {cs:List Value} {x:DataW H × List MemPlace} {f:Nat},P.underlying t=some (.int k)→DataW.trod enc P W 0 (λ _=>true) true f t cs=some x→∃ n:Int,cs=[.int k n]∧k.min≤n∧n≤k.max:=by
    intro k t cs x f ht h
    obtain ⟨n,rfl,_,hwf⟩:=DataW.trod_int ht h
    simp only [Lit.wf,Bool.and_eq_true,decide_eq_true_eq] at hwf
    exact ⟨n,rfl,hwf⟩
   have strs:∀ {t:TypeId} {cs:List Value} {x:DataW H × List MemPlace} {f:Nat},P.underlying t=some .string→DataW.trod enc P W 0 (λ _=>true) true f t cs=some x→(∀ k∈x.1.weights P t,k≤reachBytes)→∃ s:ByteArray,cs=[.string s]∧s.data.toList.length<2 ^ 62:=by
    intro t cs x f ht h hw
    obtain ⟨s,rfl,rfl,_⟩:=DataW.trod_string ht h
    refine ⟨s,rfl,?_⟩
    have:=hw s.data.toList.length (by simp [DataW.weights])
    exact qzD (k:=1) (by omega) (by decide)
   intro n τ t cs x hm h hw
   cases n with
   | zero=>cases τ <;> simp [tyM] at hm
   | succ n =>
   cases τ with
   | int k =>
     simp only [tyM] at hm
     split at hm
     ·rename_i k' ht
      simp only [Bool.and_eq_true,decide_eq_true_eq] at hm
      obtain ⟨rfl,_⟩:=hm
      obtain ⟨i,rfl,h1,h2⟩:=ints ht h
      exact ⟨i,qJf _ _,by intro u hu;rw [List.mem_singleton.1 hu];rfl,h1,h2⟩
     ·cases hm
   | bool =>
     simp only [tyM] at hm
     split at hm
     ·rename_i ht
      obtain ⟨b,rfl,_⟩:=DataW.trod_bool ht h
      exact ⟨b,qz3 (.v _ rfl),by intro u hu;rw [List.mem_singleton.1 hu];rfl,trivial⟩
     ·cases hm
   | str =>
     simp only [tyM] at hm
     split at hm
     ·rename_i ht
      obtain ⟨s,rfl,h1⟩:=strs ht h hw
      refine ⟨s.data.toList,?_,by intro u hu;rw [List.mem_singleton.1 hu];rfl,h1⟩
      exact qz3 (.v _ rfl)
     ·cases hm
   | list a =>
     simp only [tyM] at hm
     split at hm
     ·rename_i e ht
      simp only [Bool.and_eq_true,decide_eq_true_eq] at hm
      obtain ⟨⟨⟨_,hc⟩,hb⟩,hm⟩:=hm
      obtain ⟨l,u,rfl,h1,h2,h3,h4⟩:=qvz (λ f hf=>ihA f hf) ht hc hb hm h hw
      exact ⟨l,qz3 h2,by intro u' hu;rw [List.mem_singleton.1 hu];exact h1,h3,h4⟩
     ·cases hm
   | pair a b =>
     simp only [tyM] at hm
     split at hm
     ·rename_i fs ht
      simp only [Bool.and_eq_true,decide_eq_true_eq] at hm
      obtain ⟨hc,hm⟩:=hm
      obtain ⟨xs,f,rfl,rfl,h1,h2,h3⟩:=DataW.trod_struct ht h
      have hsz:(Ty.pair a b).size=a.size+b.size:=rfl
      obtain ⟨v,v1,v2,v3⟩:=qtq (ihA f (Nat.lt_succ_self _)) n (.pair a b) 0 fs.toList cs xs hm (by simpa using h2) (λ i g hg=>h3 i g (by simpa using hg)) (by simpa [DataW.weights,ht] using hw) (by rw [h1,hc,hsz];omega)
      rw [List.drop_zero,List.take_of_length_le (by rw [h1,hc,hsz];exact Nat.le_refl _)] at v1 v2
      exact ⟨v,v1,v2,v3⟩
     ·cases hm
   | one a =>
     simp only [tyM] at hm
     split at hm
     ·rename_i fs ht
      simp only [Bool.and_eq_true,decide_eq_true_eq] at hm
      obtain ⟨hc,hm⟩:=hm
      obtain ⟨xs,f,rfl,rfl,h1,h2,h3⟩:=DataW.trod_struct ht h
      obtain ⟨v,v1,v2,v3⟩:=qtq (ihA f (Nat.lt_succ_self _)) n a 0 fs.toList cs xs hm (by simpa using h2) (λ i g hg=>h3 i g (by simpa using hg)) (by simpa [DataW.weights,ht] using hw) (by rw [h1,hc];omega)
      rw [List.drop_zero,List.take_of_length_le (by rw [h1,hc];exact Nat.le_refl _)] at v1 v2
      exact ⟨v,v1,v2,v3⟩
     ·cases hm
   | term =>
     have hm0:=hm
     simp only [tyM] at hm
     cases n with
     | zero=>simp [qCH] at hm
     | succ n =>
     simp only [qCH] at hm
     split at hm
     case h_2=>cases hm
     rename_i fs ht
     split at hm
     case h_2=>cases hm
     rename_i f0 f1 f2 f3 hfs
     simp only [Bool.and_eq_true,decide_eq_true_eq] at hm
     obtain ⟨⟨⟨⟨⟨⟨⟨⟨⟨hc,o0⟩,o1⟩,o2⟩,o3⟩,hc3⟩,m0⟩,m1⟩,m2⟩,m3⟩:=hm
     split at m3
     case h_2=>cases m3
     rename_i e ht3
     simp only [Bool.and_eq_true,decide_eq_true_eq] at m3
     obtain ⟨rfl,hb⟩:=m3
     obtain ⟨xs,f,rfl,rfl,h1,h2,h3⟩:=DataW.trod_struct ht h
     have hsz:fs.size=4:=by rw [← Array.length_toList,hfs];rfl
     rw [hsz] at h2
     rw [hc] at h1
     obtain ⟨c0,c1,c2,c3,rfl⟩:∃ c0 c1 c2 c3,cs=[c0,c1,c2,c3]:=by
      match cs,h1 with
      | [a,b,c,d],_=>exact ⟨a,b,c,d,rfl⟩
     obtain ⟨x0,x1,x2,x3,rfl⟩:∃ x0 x1 x2 x3,xs=[x0,x1,x2,x3]:=by
      match xs,h2 with
      | [a,b,c,d],_=>exact ⟨a,b,c,d,rfl⟩
     have fg:∀ i g,[f0,f1,f2,f3][i]? = some g→fs[i]? = some g := λ i g hg=>by rw [← hfs,Array.getElem?_toList] at hg;exact hg
     have s0:=h3 0 f0 (fg 0 _ rfl)
     have s1:=h3 1 f1 (fg 1 _ rfl)
     have s2:=h3 2 f2 (fg 2 _ rfl)
     have s3:=h3 3 f3 (fg 3 _ rfl)
     have cOf:∀ {τ : Ty} {t:TypeId},(∃ k,τ = .int k) ∨ τ = .str→tyM P n τ t=true→P.cellsOf t=1:=by
      intro τ t hτ hm
      cases n with
      | zero=>cases τ <;> simp [tyM] at hm
      | succ n =>
        rcases hτ with ⟨k,rfl⟩ | rfl
        ·simp only [tyM] at hm
         split at hm
         ·simp only [Bool.and_eq_true,decide_eq_true_eq] at hm;exact hm.2
         ·cases hm
        ·simp only [tyM] at hm
         split at hm
         ·exact of_decide_eq_true hm
         ·cases hm
     have uInt:∀ {k:IntKind} {t:TypeId},tyM P n (.int k) t=true→P.underlying t=some (.int k):=by
      intro k t hm
      cases n with
      | zero=>simp [tyM] at hm
      | succ n =>
        simp only [tyM] at hm
        split at hm
        ·rename_i k' ht
         simp only [Bool.and_eq_true,decide_eq_true_eq] at hm
         rw [ht,hm.1]
        ·cases hm
     have uStr:∀ {t:TypeId},tyM P n .str t=true→P.underlying t=some .string:=by
      intro t hm
      cases n with
      | zero=>simp [tyM] at hm
      | succ n =>
        simp only [tyM] at hm
        split at hm
        ·assumption
        ·cases hm
     rw [o0,cOf (.inl ⟨_,rfl⟩) m0] at s0
     rw [o1,cOf (.inr rfl) m1] at s1
     rw [o2,cOf (.inl ⟨_,rfl⟩) m2] at s2
     rw [o3,hc3] at s3
     have hwE:∀ k∈DataW.weightsEach P [f0.type,f1.type,f2.type,f3.type] [x0.1,x1.1,x2.1,x3.1],k≤reachBytes:=by
      intro k hk
      refine hw k ?_
      simp only [DataW.weights,ht,hfs]
      exact hk
     simp only [DataW.weightsEach,List.mem_append] at hwE
     obtain ⟨i0,e0,_,_⟩:=ints (uInt m0) (f:=f) (x:=x0) s0
     obtain ⟨i1,e1,b1⟩:=strs (uStr m1) (f:=f) (x:=x1) s1 λ k hk=>hwE k (.inr (.inl hk))
     obtain ⟨i2,e2,_,_⟩:=ints (uInt m2) (f:=f) (x:=x2) s2
     obtain ⟨l,u,e3,b3,r3,l3,v3⟩:=qvz (a := .term) (λ g hg=>ihA g (Nat.lt_succ_of_lt hg)) ht3 hc hb hm0 s3 λ k hk=>hwE k (.inr (.inr (.inr (.inl hk))))
     have g0:c0 = .int .i64 i0:=by simpa using e0
     have g1:c1 = .string i1:=by simpa using e1
     have g2:c2 = .int .i64 i2:=by simpa using e2
     have g3:c3=u:=by simpa using e3
     subst g0;subst g1;subst g2;subst g3
     refine ⟨.mk i0 i1.data.toList i2 l,?_,?_,(qBp _).2 ⟨l3,b1,v3⟩⟩
     ·show RepL _ (Jj _) _
      rw [Jj,qmU]
      exact RepL.cons (.v _ rfl) (RepL.cons (.v _ rfl) (RepL.cons (.v _ rfl) (qz3 r3)))
     ·intro u hu
      simp only [List.mem_cons,List.not_mem_nil,or_false] at hu
      rcases hu with rfl | rfl | rfl | rfl
      ·rfl
      ·rfl
      ·rfl
      ·exact b3
end
end Go.AmYtbpnmbmdbblehaaGreat
namespace Go.GxYtbpnmbmdbblehaaGreat
open Go.RowKit Go.ChangeShapes Go.WideShapes Go.ChangeAt
open Go.WideMaps Go.WideElems
section
variable {H:Type} {enc:TypeId × Value→H} {P:Program}
theorem qnw (hl:laidOutB P=true) {W W':World} (hb:Below W.heap.size W W'):∀ {ts:List TypeId} {vs:List Value} {ds:List (DataW H)} {ps:List MemPlace},
  (∀ t∈ts,P.readableRec t=true∧t<P.types.size)→DataW.TrodAll enc P W 0 (λ _=>true) true ts vs ds ps→(∀ x∈ps,x.block<W.heap.size) →
  DataW.TrodAll enc P W' 0 (λ b=>decide (b<W.heap.size)) true ts vs ds ps
 | [],[],[],_,_,h,_=>h
 | t::ts,v::vs,d::ds,_,hr,⟨p,q,h1,h2,he⟩,hlt=>by
   subst he
   refine ⟨p,q,?_,?_,rfl⟩
   ·exact Below.trod hl (hr t (List.mem_cons_self ..)).1 (hr t (List.mem_cons_self ..)).2 h1 hb λ x hx=>hlt x (List.mem_append_left _ hx)
   ·exact qnw hl hb (λ t ht=>hr t (List.mem_cons_of_mem _ ht)) h2 λ x hx=>hlt x (List.mem_append_right _ hx)
 | [],[],_::_,_,_,h,_=>h.elim
 | [],_::_,_,_,_,h,_=>h.elim
 | _::_,[],_,_,_,h,_=>h.elim
 | _::_,_::_,[],_,_,h,_=>h.elim
theorem qHU {f:Func} {s:ChangeSpec} {apart fresh handsOn:Bool} {W W':World} {args:Array Value} {ds gs:List (DataW H)} {before:List MemPlace} {ts:List TypeId} {T:TypeId}
  (hl:laidOutB P=true) (hts:f.params.toList=ts) (hr:ts.all (λ t=>P.readableRec t&&decide (t<P.types.size))=true) (hv:s.vars=[])
  (hrt:f.resultTypes = #[T]) (hT:P.underlying T=some .bool)
  (hW:DataW.Whole enc P f.params.toList s.vars apart W args.toList ds gs before)
  (hres:(s.fn H (ds++gs)).results=[.lit (.bool true)]) (hargs:(s.fn H (ds++gs)).args=ds) (hvs:(s.fn H (ds++gs)).vars=[])
  (hb:Below W.heap.size W W'):s.post enc P f apart fresh handsOn false W args (.bool true) W':=by
 have hW':=hW
 have hlt := λ x hx=>hW'.lt x hx
 obtain ⟨p,q,hA,hV,rfl,hfz,hnd⟩:=hW
 rw [hv] at hV
 have hgs:gs=[]∧q=[]:=trodVars_none hV
 obtain ⟨rfl,rfl⟩:=hgs
 rw [List.append_nil] at *
 refine ⟨ds,[],p,[],p,[],?_,?_,?_,?_,?_,λ h=>by cases h⟩
 ·exact hW'
 ·rw [hrt,List.append_nil,hres]
  exact trodAll_mk1 (shut_bool hT _)
 ·rw [List.append_nil,hargs]
  refine qnw hl hb (ts:=f.params.toList) ?_ hA hlt
  intro t ht
  rw [hts] at ht
  have:=List.all_eq_true.1 hr t ht
  simpa using this
 ·rw [List.append_nil,hvs,hv]
  rfl
 ·exact hb.frame _
end
end Go.GxYtbpnmbmdbblehaaGreat
namespace Go.Proofs.YtbpnmbmdbblehaaGreat
theorem Tryz.own:ownKnob Tryz.prog.godebug=none:=by kernel_rfl
theorem Tryz.laidOut:laidOutB Tryz.prog=true:=by kernel_rfl
end Go.Proofs.YtbpnmbmdbblehaaGreat
namespace Go.AmYtbpnmbmdbblehaaGreat
open Go Go.GxYtbpnmbmdbblehaaGreat Go.RowKit
theorem qvI:∀ (τ : Ty) (v:Val τ),jX τ (yN τ v)=some v:=by
 intro τ v
 have h:=Q4 τ v
 cases τ <;> exact h
def qxW:List ATy→Bool
 | []=>true
 | .val _::r=>qxW r
 | .fn::_=>false
theorem qok:∀ (ts:List ATy) (a:qa5 ts),qxW ts=true→qcM ts (jG ts a [])=some a∧qeR (jG ts a [])=[]
 | [],_,_=>⟨rfl,rfl⟩
 | .val τ :: r,a,h=>by
   obtain ⟨h1,h2⟩:=qok r a.2 h
   constructor
   ·show qlb (jX τ) (qcM r) (yN τ a.1::jG r a.2 [])=_
    simp only [qlb,qvI,h1]
   ·show qeR (yN τ a.1::jG r a.2 [])=[]
    have:=(qbT (qvI τ a.1)).2
    cases hx:yN τ a.1<;>first | exact h2 | exact absurd hx (this _ _)
 | .fn::_,_,h=>by cases h
theorem law_calls {P:Program} {f:FuncId} {c:TC} (hp:qY P f (QQ (yU c f))) {ts:List ATy} {fn:qa5 ts→Option (qdE [.bool])} (hg:c.pf f []=some ⟨ts,[.bool],fn⟩) (ht:qxW ts=true) {a:qa5 ts} (hv:fn a=some true)
  {W:World} {vals:List Value} (hr:RepL (ghW W) (jG ts a []) vals):Calls P f vals.toArray W λ e w'=>e = .returned (.bool true)∧Below W.heap.size W w':=by
 obtain ⟨h1,h2⟩:=qok ts a ht
 have hs:yU c f (jG ts a [])=some (.v (.bool true)):=by
  unfold yU
  rw [h2,hg]
  simp only
  rw [h1]
  simp only
  rw [hv]
  rfl
 have hpp:QQ (yU c f) emp (jG ts a [])=some (.v (.bool true),none):=by
  show (match yU c f (jG ts a []) with | some v=>some (v,none) | none=>none)=_
  rw [hs]
 have:=hp.2 (ghW W) emp W (jG ts a []) vals _ (qJa W) hr hpp
 refine Calls.mono this ?_
 rintro e w' ⟨v,Γ',rfl,hx,_,hrv,_⟩
 have hv:=zw hrv
 subst hv
 refine ⟨rfl,hx.os,hx.tape,hx.output,hx.size,λ b hb=>hx.block b hb ?_⟩
 rintro (⟨i,hi,_⟩ | ⟨r,hr,_⟩)
 ·exact absurd hi (Nat.not_lt_zero _)
 ·exact absurd hr (Nat.not_lt_zero _)
theorem qyx {Γ : Gh} {τ : Ty} {x:Val τ} {v:Value} (h:RepL Γ (qm τ x) v.cells.toList) (h1:∀ u∈v.cells.toList,u.oneCell'=true) (hs : τ.agg=true → τ.size≠1) (hna : τ.agg=false→∀ cs,v ≠ .agg cs):Rep Γ (yN τ x) v:=by
 have hlen:=h.len
 rw [jS] at hlen
 have agg:yN τ x = .agg (qm τ x) → τ.agg=true→Rep Γ (yN τ x) v:=by
  intro he ha
  rw [he]
  have hne:=hs ha
  cases v with
  | agg cs=>exact .agg _ _ h.len h1 h.rep
  | _=>exact absurd (show τ.size=1 by rw [← hlen];rfl) hne
 have one:∀ {y:AV},qm τ x=[y]→yN τ x=y → τ.agg=false→Rep Γ (yN τ x) v:=by
  intro y he hy ha
  have hc:v.cells = #[v]:=by
   cases v with
   | agg cs=>exact absurd rfl (hna ha cs)
   | _=>rfl
  rw [he,hc] at h
  rw [hy]
  exact h.rep 0 y v rfl rfl
 cases τ with
 | term=>exact agg rfl rfl
 | pair a b=>exact agg rfl rfl
 | one a=>exact agg rfl rfl
 | _=>exact one rfl rfl rfl
open Go.ChangeShapes Go.WideShapes Go.ChangeAt Go.WideMaps Go.WideElems
theorem qIr {P:Program} {n:Nat} {τ : Ty} {t:TypeId} {W:World} {z8:Nat} {v:Value} (hm:tyM P n τ t=true) (hv:Value.okWide P W .any z8 t v) : τ.agg=false→∀ cs,v ≠ .agg cs:=by
 intro ha cs
 cases n with
 | zero=>cases τ <;> simp [tyM] at hm
 | succ n =>
 cases τ with
 | int k =>
   simp only [tyM] at hm
   split at hm
   ·rename_i ht;obtain ⟨_,rfl⟩:=okWide_int ht hv;intro h;cases h
   ·cases hm
 | bool =>
   simp only [tyM] at hm
   split at hm
   ·rename_i ht;obtain ⟨_,rfl⟩:=okWide_bool ht hv;intro h;cases h
   ·cases hm
 | str =>
   simp only [tyM] at hm
   split at hm
   ·rename_i ht;obtain ⟨_,rfl⟩:=okWide_string ht hv;intro h;cases h
   ·cases hm
 | list a =>
   simp only [tyM] at hm
   split at hm
   ·rename_i e ht;obtain ⟨_,_,_,rfl⟩:=okWide_slice ht hv;intro h;cases h
   ·cases hm
 | _=>cases ha
theorem arg_val {H:Type} {enc:TypeId × Value→H} {P:Program} {W:World} {n:Nat} {τ : Ty} {t:TypeId} {v:Value} {d:DataW H} {ps:List MemPlace} {z8:Nat} (hm:tyM P n τ t=true) (hs : τ.agg=true → τ.size≠1) (hv:Value.okWide P W .any z8 t v)
  (h:DataW.Trod enc P W 0 (λ _=>true) true t v d ps) (hw:∀ k∈d.weights P t,k≤reachBytes):∃ x:Val τ,Rep (ghW W) (yN τ x) v∧qlj τ x:=by
 obtain ⟨fuel,hf⟩:=h
 obtain ⟨x,h1,h2,h3⟩:=qHO fuel n τ t v.cells.toList (d,ps) hm hf hw
 exact ⟨x,qyx h1 h2 hs (qIr hm hv),h3⟩
end Go.AmYtbpnmbmdbblehaaGreat
