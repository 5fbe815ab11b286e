import Derived.Test.YtdichbeaekjibaaGreatDoorLib15
set_option linter.all false
namespace Hud
open Go
section
section
variable {G:Nat→Option (List AV)} {g:PGM} {d:Nat→Id} {f N:Nat}
set_option maxHeartbeats 4000000
end
end
section
section
variable {G:Nat→Option (List AV)} {g:PGM} {d:Nat→Id} {f N:Nat}
set_option maxHeartbeats 4000000
end
end
section
section
variable {G:Nat→Option (List AV)} {g:PGM} {d:Nat→Id} {f N:Nat}
set_option maxHeartbeats 4000000
end
end
section
section
variable {G:Nat→Option (List AV)} {g:PGM} {d:Nat→Id} {f N:Nat}
set_option maxHeartbeats 4000000
end
end
section
section
variable {G:Nat→Option (List AV)} {g:PGM} {d:Nat→Id} {f N:Nat}
set_option maxHeartbeats 4000000
end
end
section
section
variable {G:Nat→Option (List AV)} {g:PGM} {d:Nat→Id} {f N:Nat}
set_option maxHeartbeats 4000000
end
end
section
section
variable {G:Nat→Option (List AV)} {g:PGM} {d:Nat→Id} {f N:Nat}
set_option maxHeartbeats 20000000
end
end
section
section
variable {G:Nat→Option (List AV)} {g:PGM} {d:Nat→Id} {f N:Nat}
set_option maxHeartbeats 4000000
end
end
end Hud
