/-
  Part 9 of the texts that the statement stands on.
-/
import Derived.Test.YtaaokejjmdbfaaaDoorZ8
set_option linter.all false
namespace Go.Proofs.YtaaokejjmdbfaaaDoor
def jO (P:Program) (f:Nat):Vs→Prop
 |.code fn=>dF P f fn=true
 |.ext g=>∀ args rs,g args=some rs→callable P f=true∧oI P f args rs
 |.Gg h=>callable P f=true∧Oh P f h
 |.nK h=>(∀ args,h args=some none→callable P f=true∧oI P f args [])∧∀ args t n,h args=some (some (t,n))→callable P f=true∧QH P f args t n
 |.dfn _=>False
theorem ok6:jO Tryd.prog 6 (.code fn6):=(by kernel_rfl:dF Tryd.prog 6 fn6=true)
theorem ai1:jO Tryd.prog 11 (.code XQ):=(by kernel_rfl:dF Tryd.prog 11 XQ=true)
theorem ai2:jO Tryd.prog 12 (.code adW):=(by kernel_rfl:dF Tryd.prog 12 adW=true)
theorem ai3:jO Tryd.prog 13 (.code adX):=(by kernel_rfl:dF Tryd.prog 13 adX=true)
theorem ai4:jO Tryd.prog 15 (.code Ia):=(by kernel_rfl:dF Tryd.prog 15 Ia=true)
theorem ok16:jO Tryd.prog 16 (.code Ed):=(by kernel_rfl:dF Tryd.prog 16 Ed=true)
theorem ai5:jO Tryd.prog 18 (.code adY):=(by kernel_rfl:dF Tryd.prog 18 adY=true)
theorem ai6:jO Tryd.prog 20 (.code adZ):=(by kernel_rfl:dF Tryd.prog 20 adZ=true)
theorem ai7:jO Tryd.prog 22 (.code LY):=(by kernel_rfl:dF Tryd.prog 22 LY=true)
theorem ai8:jO Tryd.prog 24 (.code LZ):=(by kernel_rfl:dF Tryd.prog 24 LZ=true)
theorem ai9:jO Tryd.prog 25 (.code L6):=(by kernel_rfl:dF Tryd.prog 25 L6=true)
theorem aja:jO Tryd.prog 26 (.code XR):=(by kernel_rfl:dF Tryd.prog 26 XR=true)
theorem ajb:jO Tryd.prog 27 (.code XT):=(by kernel_rfl:dF Tryd.prog 27 XT=true)
theorem ajc:jO Tryd.prog 29 (.code XU):=(by kernel_rfl:dF Tryd.prog 29 XU=true)
theorem ajd:jO Tryd.prog 34 (.code XV):=(by kernel_rfl:dF Tryd.prog 34 XV=true)
theorem aje:jO Tryd.prog 41 (.code XW):=(by kernel_rfl:dF Tryd.prog 41 XW=true)
theorem ajf:jO Tryd.prog 42 (.ext Gi):=Zt
theorem ajg:jO Tryd.prog 43 (.code ad1):=(by kernel_rfl:dF Tryd.prog 43 ad1=true)
theorem ajh:jO Tryd.prog 44 (.code XY):=(by kernel_rfl:dF Tryd.prog 44 XY=true)
theorem aji:jO Tryd.prog 45 (.code XZ):=(by kernel_rfl:dF Tryd.prog 45 XZ=true)
theorem ajj:jO Tryd.prog 46 (.code Uy):=(by kernel_rfl:dF Tryd.prog 46 Uy=true)
theorem ajk:jO Tryd.prog 47 (.code X0):=(by kernel_rfl:dF Tryd.prog 47 X0=true)
theorem ajl:jO Tryd.prog 48 (.code X5):=(by kernel_rfl:dF Tryd.prog 48 X5=true)
theorem ajm:jO Tryd.prog 49 (.code X6):=(by kernel_rfl:dF Tryd.prog 49 X6=true)
theorem ajn:jO Tryd.prog 50 (.code X7):=(by kernel_rfl:dF Tryd.prog 50 X7=true)
theorem ajo:jO Tryd.prog 51 (.code Ee):=(by kernel_rfl:dF Tryd.prog 51 Ee=true)
theorem ajp:jO Tryd.prog 52 (.code X8):=(by kernel_rfl:dF Tryd.prog 52 X8=true)
theorem ajq:jO Tryd.prog 53 (.code L8):=(by kernel_rfl:dF Tryd.prog 53 L8=true)
theorem ajr:jO Tryd.prog 56 (.code X9):=(by kernel_rfl:dF Tryd.prog 56 X9=true)
theorem ajs:jO Tryd.prog 57 (.code ad2):=(by kernel_rfl:dF Tryd.prog 57 ad2=true)
theorem ajt:jO Tryd.prog 58 (.code ad3):=(by kernel_rfl:dF Tryd.prog 58 ad3=true)
theorem aju:jO Tryd.prog 59 (.code ad4):=(by kernel_rfl:dF Tryd.prog 59 ad4=true)
theorem ajv:jO Tryd.prog 60 (.code ad5):=(by kernel_rfl:dF Tryd.prog 60 ad5=true)
theorem ajw:jO Tryd.prog 61 (.code ad6):=(by kernel_rfl:dF Tryd.prog 61 ad6=true)
theorem ajx:jO Tryd.prog 62 (.code Ya):=(by kernel_rfl:dF Tryd.prog 62 Ya=true)
theorem ajy:jO Tryd.prog 64 (.ext JI):=aeX
theorem ajz:jO Tryd.prog 65 (.code Uz):=(by kernel_rfl:dF Tryd.prog 65 Uz=true)
theorem ajA:jO Tryd.prog 66 (.code Yb):=(by kernel_rfl:dF Tryd.prog 66 Yb=true)
theorem ajB:jO Tryd.prog 67 (.code Yc):=(by kernel_rfl:dF Tryd.prog 67 Yc=true)
theorem ajC:jO Tryd.prog 68 (.code Yd):=(by kernel_rfl:dF Tryd.prog 68 Yd=true)
theorem ajD:jO Tryd.prog 69 (.code Ye):=(by kernel_rfl:dF Tryd.prog 69 Ye=true)
theorem ajE:jO Tryd.prog 70 (.code Yf):=(by kernel_rfl:dF Tryd.prog 70 Yf=true)
theorem ajF:jO Tryd.prog 77 (.code Yg):=(by kernel_rfl:dF Tryd.prog 77 Yg=true)
theorem ajG:jO Tryd.prog 79 (.code UA):=(by kernel_rfl:dF Tryd.prog 79 UA=true)
theorem ajH:jO Tryd.prog 80 (.code Yh):=(by kernel_rfl:dF Tryd.prog 80 Yh=true)
theorem ajI:jO Tryd.prog 81 (.code Yi):=(by kernel_rfl:dF Tryd.prog 81 Yi=true)
theorem ajJ:jO Tryd.prog 82 (.code Yj):=(by kernel_rfl:dF Tryd.prog 82 Yj=true)
theorem ajK:jO Tryd.prog 83 (.code Yk):=(by kernel_rfl:dF Tryd.prog 83 Yk=true)
theorem ajL:jO Tryd.prog 84 (.code Yl):=(by kernel_rfl:dF Tryd.prog 84 Yl=true)
theorem ajM:jO Tryd.prog 85 (.code Ym):=(by kernel_rfl:dF Tryd.prog 85 Ym=true)
theorem ajN:jO Tryd.prog 86 (.code Yn):=(by kernel_rfl:dF Tryd.prog 86 Yn=true)
theorem ajO:jO Tryd.prog 87 (.code Yo):=(by kernel_rfl:dF Tryd.prog 87 Yo=true)
theorem ajP:jO Tryd.prog 88 (.code PX):=(by kernel_rfl:dF Tryd.prog 88 PX=true)
theorem ajQ:jO Tryd.prog 89 (.code L9):=(by kernel_rfl:dF Tryd.prog 89 L9=true)
theorem ajR:jO Tryd.prog 90 (.code Yp):=(by kernel_rfl:dF Tryd.prog 90 Yp=true)
theorem ajS:jO Tryd.prog 91 (.code Yq):=(by kernel_rfl:dF Tryd.prog 91 Yq=true)
theorem ajT:jO Tryd.prog 92 (.code Yr):=(by kernel_rfl:dF Tryd.prog 92 Yr=true)
theorem ajU:jO Tryd.prog 93 (.code UC):=(by kernel_rfl:dF Tryd.prog 93 UC=true)
theorem ajV:jO Tryd.prog 99 (.code Mc):=(by kernel_rfl:dF Tryd.prog 99 Mc=true)
theorem ahw:jO Tryd.prog 100 (.code Md):=(by kernel_rfl:dF Tryd.prog 100 Md=true)
theorem ahx:jO Tryd.prog 101 (.code Me):=(by kernel_rfl:dF Tryd.prog 101 Me=true)
theorem ahy:jO Tryd.prog 102 (.code MB):=(by kernel_rfl:dF Tryd.prog 102 MB=true)
theorem ahz:jO Tryd.prog 103 (.code MC):=(by kernel_rfl:dF Tryd.prog 103 MC=true)
theorem ahA:jO Tryd.prog 104 (.code MF):=(by kernel_rfl:dF Tryd.prog 104 MF=true)
theorem ahB:jO Tryd.prog 105 (.code MG):=(by kernel_rfl:dF Tryd.prog 105 MG=true)
theorem ahC:jO Tryd.prog 106 (.code MH):=(by kernel_rfl:dF Tryd.prog 106 MH=true)
theorem ahD:jO Tryd.prog 109 (.code MI):=(by kernel_rfl:dF Tryd.prog 109 MI=true)
theorem ahE:jO Tryd.prog 110 (.code Fa):=(by kernel_rfl:dF Tryd.prog 110 Fa=true)
theorem ahF:jO Tryd.prog 111 (.ext tzX):=agn
theorem ahG:jO Tryd.prog 112 (.code MJ):=(by kernel_rfl:dF Tryd.prog 112 MJ=true)
theorem ahH:∀ p∈tab,jO Tryd.prog p.1 p.2:=by
 unfold tab
 exact List.forall_mem_cons.2 ⟨ok6,List.forall_mem_cons.2 ⟨ai1,List.forall_mem_cons.2 ⟨ai2,List.forall_mem_cons.2 ⟨ai3,List.forall_mem_cons.2 ⟨ai4,List.forall_mem_cons.2 ⟨ok16,List.forall_mem_cons.2 ⟨ai5,List.forall_mem_cons.2 ⟨ai6,List.forall_mem_cons.2 ⟨ai7,List.forall_mem_cons.2 ⟨ai8,List.forall_mem_cons.2 ⟨ai9,List.forall_mem_cons.2 ⟨aja,List.forall_mem_cons.2 ⟨ajb,List.forall_mem_cons.2 ⟨ajc,List.forall_mem_cons.2 ⟨ajd,List.forall_mem_cons.2 ⟨aje,List.forall_mem_cons.2 ⟨ajf,List.forall_mem_cons.2 ⟨ajg,List.forall_mem_cons.2 ⟨ajh,List.forall_mem_cons.2 ⟨aji,List.forall_mem_cons.2 ⟨ajj,List.forall_mem_cons.2 ⟨ajk,List.forall_mem_cons.2 ⟨ajl,List.forall_mem_cons.2 ⟨ajm,List.forall_mem_cons.2 ⟨ajn,List.forall_mem_cons.2 ⟨ajo,List.forall_mem_cons.2 ⟨ajp,List.forall_mem_cons.2 ⟨ajq,List.forall_mem_cons.2 ⟨ajr,List.forall_mem_cons.2 ⟨ajs,List.forall_mem_cons.2 ⟨ajt,List.forall_mem_cons.2 ⟨aju,List.forall_mem_cons.2 ⟨ajv,List.forall_mem_cons.2 ⟨ajw,List.forall_mem_cons.2 ⟨ajx,List.forall_mem_cons.2 ⟨ajy,List.forall_mem_cons.2 ⟨ajz,List.forall_mem_cons.2 ⟨ajA,List.forall_mem_cons.2 ⟨ajB,List.forall_mem_cons.2 ⟨ajC,List.forall_mem_cons.2 ⟨ajD,List.forall_mem_cons.2 ⟨ajE,List.forall_mem_cons.2 ⟨ajF,List.forall_mem_cons.2 ⟨ajG,List.forall_mem_cons.2 ⟨ajH,List.forall_mem_cons.2 ⟨ajI,List.forall_mem_cons.2 ⟨ajJ,List.forall_mem_cons.2 ⟨ajK,List.forall_mem_cons.2 ⟨ajL,List.forall_mem_cons.2 ⟨ajM,List.forall_mem_cons.2 ⟨ajN,List.forall_mem_cons.2 ⟨ajO,List.forall_mem_cons.2 ⟨ajP,List.forall_mem_cons.2 ⟨ajQ,List.forall_mem_cons.2 ⟨ajR,List.forall_mem_cons.2 ⟨ajS,List.forall_mem_cons.2 ⟨ajT,List.forall_mem_cons.2 ⟨ajU,List.forall_mem_cons.2 ⟨ajV,List.forall_mem_cons.2 ⟨ahw,List.forall_mem_cons.2 ⟨ahx,List.forall_mem_cons.2 ⟨ahy,List.forall_mem_cons.2 ⟨ahz,List.forall_mem_cons.2 ⟨ahA,List.forall_mem_cons.2 ⟨ahB,List.forall_mem_cons.2 ⟨ahC,List.forall_mem_cons.2 ⟨ahD,List.forall_mem_cons.2 ⟨ahE,List.forall_mem_cons.2 ⟨ahF,List.forall_mem_cons.2 ⟨ahG,fun p hp=>by cases hp⟩⟩⟩⟩⟩⟩⟩⟩⟩⟩⟩⟩⟩⟩⟩⟩⟩⟩⟩⟩⟩⟩⟩⟩⟩⟩⟩⟩⟩⟩⟩⟩⟩⟩⟩⟩⟩⟩⟩⟩⟩⟩⟩⟩⟩⟩⟩⟩⟩⟩⟩⟩⟩⟩⟩⟩⟩⟩⟩⟩⟩⟩⟩⟩⟩⟩⟩⟩⟩⟩
theorem Du:∀ {l:List (Nat × Vs)} {f:Nat} {d:Vs},l.lookup f=some d→(f,d)∈l
 |(k,v) :: l,f,d,h=>by
  rw [List.lookup_cons] at h
  split at h
  ·rename_i e
   have e:f=k:=by simpa using e
   cases h;subst e;simp
  ·exact List.mem_cons_of_mem _ (Du h)
theorem Zu:xM Tryd.prog env:=fun f d h=>by
 have:=ahH _ (Du h)
 cases d<;>exact this
end Go.Proofs.YtaaokejjmdbfaaaDoor

namespace Go.Proofs.YtaaokejjmdbfaaaDoor
def eU (e0 e1:Env) {α:Type} (F:Env→Option α):Prop:=∀ r,F e0=some r→F e1=some r
class UpE (e0 e1:Env):Prop where
 up:∀ f d,e0 f=some d→e1 f=some d
section
variable {α β:Type} {e0 e1:Env} {rec:Rec}
theorem eU.const (x:Option α):eU e0 e1 (fun _=>x):=fun _ h=>h
theorem eU.bind {F:Env→Option α} {G:α→Env→Option β} (hF:eU e0 e1 F) (hG:∀ a,eU e0 e1 (G a)):eU e0 e1 (fun e=>(F e).bind fun a=>G a e):=fun r e=>by
 obtain ⟨a,h1,h2⟩:=Option.bind_eq_some_iff.1 e
 exact Option.bind_eq_some_iff.2 ⟨a,hF a h1,hG a r h2⟩
theorem eU.map {F:Env→Option α} {g:α→β} (hF:eU e0 e1 F):eU e0 e1 (fun e=>(F e).map g):=fun r e=>by
 obtain ⟨a,h1,h2⟩:=Option.map_eq_some_iff.1 e
 exact Option.map_eq_some_iff.2 ⟨a,hF a h1,h2⟩
variable [hU:UpE e0 e1]
include hU
theorem eU.gJ (f:Nat) (args:List PV):eU e0 e1 (fun env=>gJ rec env f args):=by
 intro r h
 simp only [Go.Proofs.YtaaokejjmdbfaaaDoor.gJ] at h ⊢
 cases e:e0 f with
 |none=>rw [e] at h;cases h
 |some d=>rw [e] at h;rw [hU.up f d e];exact h
theorem eU.gK (f:Nat) (args:List PV) (s:Option Nat):eU e0 e1 (fun env=>gK rec env f args s):=by
 intro r h
 simp only [Go.Proofs.YtaaokejjmdbfaaaDoor.gK] at h ⊢
 cases e:e0 f with
 |none=>rw [e] at h;cases h
 |some d=>rw [e] at h;rw [hU.up f d e];exact h
theorem eU.gQ (d f:Nat) (args:List bP) (caps:List AV) (st:St):eU e0 e1 (fun env=>gQ rec env d f args caps st):=by
 unfold Go.Proofs.YtaaokejjmdbfaaaDoor.gQ
 exact (eU.const _).bind fun l=>(eU.const _).bind fun k=>(eU.gJ f _).bind fun rs=>eU.const _
theorem eU.kG (f:Nat) (x:kC) (args:List PV):eU e0 e1 (fun env=>kG rec env f x args):=by
 intro r h
 simp only [Go.Proofs.YtaaokejjmdbfaaaDoor.kG] at h ⊢
 cases e:e0 f with
 |none=>rw [e] at h;cases h
 |some d=>rw [e] at h;rw [hU.up f d e];exact h
theorem eU.fD (d f:Nat) (x:bP) (args:List bP) (caps:List AV) (st:St):eU e0 e1 (fun env=>fD rec env d f x args caps st):=by
 unfold Go.Proofs.YtaaokejjmdbfaaaDoor.fD mP
 exact (eU.const _).bind fun l=>(eU.const _).bind fun k=>(eU.const _).bind fun q=>(eU.kG f _ _).bind fun r=>eU.const _
theorem eU.act (o:fM) (st:St):eU e0 e1 (fun env=>act rec env o st):=by
 cases o
 case call d f args=>exact eU.gQ d f args [] st
 case ku d x args =>
  unfold Go.Proofs.YtaaokejjmdbfaaaDoor.act
  simp only
  split
  ·exact eU.gQ _ _ _ _ _
  ·exact eU.gQ _ _ _ _ _
  ·exact eU.const _
 case Gg d f x g =>
  intro r h
  simp only [Go.Proofs.YtaaokejjmdbfaaaDoor.act] at h ⊢
  cases e:e0 f with
  |none=>rw [e] at h;cases h
  |some q=>rw [e] at h;rw [hU.up f q e];exact h
 case lin d f x args=>exact eU.fD d f x args [] st
 case linv d g x args =>
  unfold Go.Proofs.YtaaokejjmdbfaaaDoor.act
  simp only
  split
  ·exact eU.fD _ _ _ _ _ _
  ·exact eU.fD _ _ _ _ _ _
  ·exact eU.const _
 all_goals exact eU.const _
theorem eU.wV (f:Nat) (args:List PV):eU e0 e1 (fun env=>wV rec env f args):=by
 intro r h
 simp only [Go.Proofs.YtaaokejjmdbfaaaDoor.wV] at h ⊢
 cases e:e0 f with
 |none=>rw [e] at h;cases h
 |some d=>rw [e] at h;rw [hU.up f d e];exact h
theorem eU.op1 (o:fM) (st:St):eU e0 e1 (fun env=>op1 rec env o st):=by
 unfold Go.Proofs.YtaaokejjmdbfaaaDoor.op1
 split
 ·exact eU.act o st
 ·exact eU.const _
theorem eU.op (o:fM) (st:St):eU e0 e1 (fun env=>op rec env o st):=by
 unfold Go.Proofs.YtaaokejjmdbfaaaDoor.op
 split
 ·split
  ·split
   ·exact eU.op1 _ _
   ·exact eU.const _
  ·exact eU.const _
  ·exact eU.const _
 ·exact eU.op1 _ _
theorem eU.ops:∀ (l:List fM) (st:St),eU e0 e1 (fun env=>ops rec env l st)
 |[],st=>eU.const _
 |o :: l,st=>(eU.op o st).bind fun st=>eU.ops l st
theorem eU.rounds (slots:List AV) (ps:List Nat) (assign body:ak) (nb:Nat):∀ (xs:List (List PV)) (k:Nat) (st:St),eU e0 e1 (fun env=>rounds rec slots ps assign body nb k xs st)
 |[],k,st=>by unfold Go.Proofs.YtaaokejjmdbfaaaDoor.rounds;exact eU.const _
 |x :: xs,k,st=>by
  unfold Go.Proofs.YtaaokejjmdbfaaaDoor.rounds
  refine (eU.const _).bind fun sl=>(eU.const _).bind fun a=>?_
  obtain ⟨e,st⟩:=a
  cases e
  case normal =>
   refine (eU.const _).bind fun a=>?_
   obtain ⟨e,st⟩:=a
   cases e
   case normal =>
    simp only
    split
    ·exact eU.rounds slots ps assign body nb xs (k+1) _
    ·exact eU.const _
   all_goals exact eU.const _
  all_goals exact eU.const _
theorem eU.ranged (g:bP) (ps:List Nat) (assign body:ak) (st:St):eU e0 e1 (fun env=>ranged rec env g ps assign body st):=by
 unfold Go.Proofs.YtaaokejjmdbfaaaDoor.ranged
 refine (eU.const _).bind fun v=>?_
 cases v<;>try exact eU.const _
 simp only
 refine (eU.gK _ _ _).bind fun xs=>(eU.rounds _ _ _ _ _ _ _ _).bind fun r=>?_
 obtain ⟨r,st1⟩:=r
 cases r with
 |none=>exact eU.const _
 |some p =>
  obtain ⟨e,k⟩:=p
  refine (eU.gK _ _ _).bind fun xs=>(eU.rounds _ _ _ _ _ _ _ _).bind fun r=>?_
  obtain ⟨r,st1⟩:=r
  cases r<;>exact eU.const _
theorem eU.iV (keep:List Nat) (vo:List fM) (st:St) (x:fZ):eU e0 e1 (fun env=>iV rec env keep vo st x):=by
 unfold Go.Proofs.YtaaokejjmdbfaaaDoor.iV
 exact (eU.ops _ _).bind fun s=>eU.const _
theorem eU.agree (keep:List Nat) (vo:List fM) (st s:St):∀ l:List fZ,eU e0 e1 (fun env=>agree s (l.map (Go.Proofs.YtaaokejjmdbfaaaDoor.iV rec env keep vo st)))
 |[]=>eU.const _
 |x :: xs=>by
  simp only [List.map_cons,Go.Proofs.YtaaokejjmdbfaaaDoor.agree]
  refine (eU.iV keep vo st x).bind fun s'=>?_
  split
  ·exact eU.agree keep vo st s xs
  ·exact eU.const _
theorem eU.iO (keep:List Nat) (vo:List fM) (st:St) (l:List fZ):eU e0 e1 (fun env=>iO rec env keep vo st l):=by
 cases l with
 |nil=>exact eU.const _
 |cons x xs =>
  simp only [Go.Proofs.YtaaokejjmdbfaaaDoor.iO]
  exact (eU.iV keep vo st x).bind fun s=>eU.agree keep vo st s xs
theorem eU.step (c:ak) (st:St):eU e0 e1 (fun env=>step rec env c st):=by
 cases c
 case ops l=>exact (eU.ops l st).map
 case vk fz _ _ _ l=>exact (eU.ops l (fz.foldl St.gG st)).map
 case drs fz keep vo alts=>exact (eU.iO keep vo (fz.foldl St.gG st) alts).map
 case lend d ks l =>
  simp only [Go.Proofs.YtaaokejjmdbfaaaDoor.step]
  split
  ·split
   ·exact ((eU.ops l _).bind fun s=>eU.const _).map
   ·exact eU.const _
  ·exact eU.const _
 case seq a b =>
  refine (eU.const _).bind fun x=>?_
  obtain ⟨e,st⟩:=x
  cases e
  case normal=>exact eU.const _
  all_goals exact eU.const _
 case cond c a b =>
  refine (eU.const _).bind fun v=>?_
  cases v<;>exact eU.const _
 case block i a =>
  refine (eU.const _).bind fun x=>?_
  obtain ⟨e,st⟩:=x
  exact eU.const _
 case loop=>exact eU.const _
 case round keep nb a =>
  refine (eU.const _).bind fun s=>(eU.const _).bind fun x=>?_
  obtain ⟨e,st⟩:=x
  cases e
  case normal=>exact eU.const _
  all_goals exact eU.const _
 case rng g ps assign body=>exact eU.ranged g ps assign body st
 case clean pre post a =>
  refine (eU.const _).bind fun s=>(eU.const _).bind fun x=>?_
  obtain ⟨e,st⟩:=x
  exact eU.const _
 case dem l d f args =>
  simp only [Go.Proofs.YtaaokejjmdbfaaaDoor.step]
  refine (eU.ops l st).bind fun st1=>(eU.const _).bind fun vs=>(eU.wV f vs).bind fun r=>?_
  cases r with
  |some p=>exact eU.const _
  |none=>exact (eU.act _ _).map
 all_goals exact eU.const _
theorem ac7:∀ n,RLe (vm e0 n) (vm e1 n)
 |0,c,st,r,h=>by simp [vm] at h
 |n+1,c,st,r,h=>(Good.step (env:=e1) c st).mono _ _ (ac7 n) r (eU.step c st r h)
theorem up {f:Nat} {args:List PV} {rs:List l9} (h:cal e0 f args=some rs):cal e1 f args=some rs:=by
 obtain ⟨n,hn⟩:=qm h
 exact vK (n:=n) ((Good.gJ (env:=e1) f args).mono _ _ (ac7 n) rs (eU.gJ f args rs hn))
end
end Go.Proofs.YtaaokejjmdbfaaaDoor
